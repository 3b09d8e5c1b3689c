/- Texts of one hand, gathered: PvQ, PvK, PvL, PvR, PvS, PvU, PvW3, PvMa, PvMb, PvM, PvN, PvO, PvP, PvY. -/
import Derived.Test.YtmfjgnchaacgnaaGreatBa1
import Derived.Lib.ConvBytes
import Derived.Laws.BytesArg
import Derived.OrdersIn
import Derived.TacticsIn
import Derived.RangeFuncIn
import Derived.RangeFuncRecord
import Derived.RangeFuncLeaves
set_option maxRecDepth 20000
set_option linter.unusedSectionVars false
set_option linter.unusedSimpArgs false
set_option linter.unusedVariables false
set_option linter.unnecessarySimpa false
namespace Go.Pv
open Go.RowKit
variable [Globs]
def JC:PV->Option Value
 |.bool b=>some (.bool b)
 |.int k n=>some (.int k n)
 |.str s=>some (.string ⟨s.toArray⟩)
 |.raw v=>some v
 |_=>none
def Cg (s:St)(o:Option Operand)(d n:Nat):Prop:=(o=none/\n=d)\/∃x k,o=some x/\s.ev x = .int k (n:Int)
inductive QOp (P:Program) (L:Lay) (s:St) (o:Oper):PV->Prop
 |v {pv:PV} {Cd:Prop} (hq:qv L s o.op=some (pv,Cd)) (hc:Cd):QOp P L s o pv
 |idx {T e:TypeId} {x ix:Operand} {r re:LRow} {rows:List (List PV)} {row:List PV} {k:IntKind} {n:Int} (ho:o.op = .indexAddr T x ix) (hr:L T=some r) (hs:r.sh = .sl e) (hre:L e=some re)
   (hx:s.ev x = .sl rows\/s.ev x = .fsl rows) (hix:s.ev ix = .int k n) (h0:0<=n) (hrow:rows[n.toNat]? = some row) (hlen:row.length=re.size):QOp P L s o (.dref row 0)
 |idxA {T e:TypeId} {x ix:Operand} {r re:LRow} {k:IntKind} {n:Int} {st g i m:Nat} {c:Cont} (ho:o.op = .indexAddr T x ix) (hr:L T=some r) (hs:r.sh = .sl e) (hre:L e=some re)
   (hx:s.ev x = .als st g i m) (hown:s.own st=(g,some c)) (hsz:c.sz=re.size) (hix:s.ev ix = .int k n) (h0:0<=n) (hlt:n<m):QOp P L s o (.ptr st g (i+n.toNat) 0)
 |ldp {T:TypeId} {x:Operand} {r:LRow} {st g i j:Nat} {c:Cont} {row:List PV} {pv:PV} (ho:o.op = .load T x) (hr:L T=some r) (hx:s.ev x = .ptr st g i j) (hown:s.own st=(g,some c))
   (hrow:c.rows[i]? = some row) (hp:part r row j=some pv):QOp P L s o pv
 |slc {T e:TypeId} {x lo:Operand} {r re:LRow} {rows:List (List PV)} {k:IntKind} {n:Int} (ho:o.op = .slice T x (some lo) none none) (hr:L T=some r) (hs:r.sh = .sl e) (hre:L e=some re)
   (hx:s.ev x = .sl rows) (hix:s.ev lo = .int k n) (h0:0<=n) (hle:n<=rows.length) (hlen:∀row∈rows,row.length=re.size):QOp P L s o (.sl (rows.drop n.toNat))
 |slh {T e:TypeId} {x hi:Operand} {r re:LRow} {rows:List (List PV)} {k:IntKind} {n:Int} (ho:o.op = .slice T x none (some hi) none) (hr:L T=some r) (hs:r.sh = .sl e) (hre:L e=some re)
   (hx:s.ev x = .sl rows) (hix:s.ev hi = .int k n) (h0:0<=n) (hle:n<=rows.length) (hlen:∀row∈rows,row.length=re.size):QOp P L s o (.sl (rows.take n.toNat))
 |slg {T e:TypeId} {x:Operand} {lo hi:Option Operand} {r re:LRow} {rows:List (List PV)} {l h:Nat} (fr:Bool) (ho:o.op = .slice T x lo hi none) (hr:L T=some r) (hs:r.sh = .sl e) (hre:L e=some re)
   (hx:s.ev x=bif fr then .fsl rows else .sl rows) (hlo:Cg s lo 0 l) (hhi:Cg s hi rows.length h) (hlh:l<=h) (hle:h<=rows.length) (hlen:∀row∈rows,row.length=re.size):QOp P L s o (bif fr then .fsl ((rows.take h).drop l) else .sl ((rows.take h).drop l))
 |slA {T e:TypeId} {x:Operand} {lo hi:Option Operand} {r re:LRow} {st g i m l h:Nat} {c:Cont} (ho:o.op = .slice T x lo hi none) (hr:L T=some r) (hs:r.sh = .sl e) (hre:L e=some re)
   (hx:s.ev x = .als st g i m) (hown:s.own st=(g,some c)) (hsz:c.sz=re.size) (hlo:Cg s lo 0 l) (hhi:Cg s hi m h) (hlt:l<h) (hle:h<=m):QOp P L s o (.als st g (i+l) (h-l))
 |slE {T e:TypeId} {x:Operand} {lo hi:Option Operand} {r re:LRow} {st g i m l:Nat} {c:Cont} (ho:o.op = .slice T x lo hi none) (hr:L T=some r) (hs:r.sh = .sl e) (hre:L e=some re)
   (hx:s.ev x = .als st g i m) (hown:s.own st=(g,some c)) (hlo:Cg s lo 0 l) (hhi:Cg s hi m l) (hle:l<=m):QOp P L s o (.sl [])
 |call {fop:Operand} {args:Array Operand} {tys:Array TypeId} {f:FuncId} {caps pargs:List PV} {Cd:Prop} {b:Fl} {r:PV} (ho:o.op = .call ⟨.value fop,args,tys⟩) (hf:s.ev fop = .clo f caps)
   (hres:e_ (eZ s 4) (args.toList.map s.ev++caps)=some (pargs,Cd,b)) (hc:Cd) (hb:b.cl=true) (hret:Ret P .shared f pargs r):QOp P L s o r
 |callF {fop:Operand} {args:Array Operand} {tys:Array TypeId} {f:FuncId} {caps pargs:List PV} {Cd:Prop} {b:Fl} {r:PV} (ho:o.op = .call ⟨.value fop,args,tys⟩) (hf:s.ev fop = .clo f caps)
   (hres:e_ (eZ s 4) (args.toList.map s.ev++caps)=some (pargs,Cd,b)) (hc:Cd) (hret:Ret P .fresh f pargs r):QOp P L s o r.frs
 |slit {T e:TypeId} {r re:LRow} {n:Nat} {parts:Array (Nat × Operand)} {Pr:Prop} (ho:o.op = .buildSlice T n parts) (hr:L T=some r) (hs:r.sh = .sl e) (hre:L e=some re) (hz:re.zero.isSome=true) (hsz:0<re.size)
   (hn:parts.toList.map (·.1)=List.range n) (hN:n*re.size<=16777216) (hcells:∀p∈parts.toList,(s.ev p.2).cells.length=re.size)
   (h1:du s (parts.toList.flatMap fun p=>(s.ev p.2).cells)=some Pr) (h2:Pr) (hkd:(parts.toList.flatMap fun p=>(s.ev p.2).cells).all (mA 0)=true):QOp P L s o (.fsl (parts.toList.map fun p=>(s.ev p.2).cells.map (dY 0)))
 |slitD {T e:TypeId} {r re:LRow} {n:Nat} {parts:Array (Nat × Operand)} {Pr:Prop} (ho:o.op = .buildSlice T n parts) (hr:L T=some r) (hs:r.sh = .sl e) (hre:L e=some re) (hz:re.zero.isSome=true) (hsz:0<re.size)
   (hn:parts.toList.map (·.1)=List.range n) (hN:n*re.size<=16777216) (hcells:∀p∈parts.toList,(s.ev p.2).cells.length=re.size)
   (h1:du s (parts.toList.flatMap fun p=>(s.ev p.2).cells)=some Pr) (h2:Pr) (hkd:(parts.toList.flatMap fun p=>(s.ev p.2).cells).all (mA 1)=true):QOp P L s o (.sl (parts.toList.map fun p=>(s.ev p.2).cells.map (dY 1)))
 |mks {T e:TypeId} {r re:LRow} {l c:Operand} {kl kc:IntKind} {n:Int} {z:List PV} (ho:o.op = .makeSlice T l c) (hr:L T=some r) (hs:r.sh = .sl e) (hre:L e=some re) (hz:re.zero=some z) (hsz:0<re.size)
   (hl:s.ev l = .int kl n) (hc:s.ev c = .int kc n) (h0:0<=n) (hb:(re.bytes:Int)*n<=140737488355328) (h63:n<=9223372036854775807):QOp P L s o (.fsl (List.replicate n.toNat z))
 |look {T K V:TypeId} {r rk rv:LRow} {x y:Operand} {k g:Nat} {c:Cont} {z:PV} {ok:Bool} (ho:o.op = .lookup T x y ok) (hr:L T=some r) (hs:r.sh = .map K V) (hrk:L K=some rk) (hrv:L V=some rv) (hz:rv.zero=some [z]) (hz1:BI P V=true) (hx:s.ev x = .mp k g) (hown:s.own k=(g,some c)) (hk3:c.kind<3)
   (hky:rk.sh.key (s.ev y)=true) (hkeys:gL rk.sh c.rows=true):QOp P L s o (bif ok then .tup [gX z (s.ev y) c.rows,.bool (gj (s.ev y) c.rows).isSome] else gX z (s.ev y) c.rows)
 |entry {x:Operand} {k g:Nat} {c:Cont} {ck cv:PV} {rem:List PV} (ho:o.op = .entry x) (hx:s.ev x = .mi k g) (hown:s.own k=(g,some c)) (hk3:c.kind=3) (hrows:c.rows=[.agg [ck,cv]::rem]):QOp P L s o (.tup [ck,cv])
 |sem {x:Operand} {u v:Value} {pv:PV} (hx:s.ev x = .raw u) (ho:o.op.operands=#[x]) (hrun:∀(ev:Operand->Value) (w:World),Globs.glob w->ev x=u->(execOp ev o).run P w = .ok (.value v) w) (hpv:∀(w:World) (ok:Nat->Prop),DRep w ok pv v):QOp P L s o pv
 |semF {v:Value} {pv:PV} (hne:o.op.operands.size≠0) (hall:∀x∈o.op.operands,∃u,JC (s.ev x)=some u) (hrun:∀(ev:Operand->Value) (w:World),Globs.glob w->(∀x∈o.op.operands,JC (s.ev x)=some (ev x))->(execOp ev o).run P w = .ok (.value v) w) (hpv:∀(w:World) (ok:Nat->Prop),DRep w ok pv v):QOp P L s o pv
 |lookG {T K V:TypeId} {r rk:LRow} {kk:Option (List Sh)} {x y:Operand} {rows:List (List PV)} {z:PV} {ok:Bool} (ho:o.op = .lookup T x y ok) (hr:L T=some r) (hs:r.sh = .map K V) (hrk:L K=some rk) (hz:ig P L->Jq P V z)
   (hx:s.ev x = .mapd rows\/∃k g c,s.ev x = .mp k g/\s.own k=(g,some c)/\c.kind<3/\c.rows=rows) (hg:uA P K kk=true) (hky:ja rk.sh kk (s.ev y)=true) (hkeys:jo rk.sh kk rows=true) :
   QOp P L s o (bif ok then .tup [gX z (s.ev y) rows,.bool (gj (s.ev y) rows).isSome] else gX z (s.ev y) rows)
 |s2b {src T e:TypeId} {x:Operand} {r re rs:LRow} {l:List UInt8} (ho:o.op = .convert src T x) (hrs:L src=some rs) (hr:L T=some r) (hs:r.sh = .sl e) (hre:L e=some re) (hsh:re.sh = .int .u8) (hx:s.ev x = .str l):QOp P L s o (.fsl (l.map fun c=>[.int .u8 c.toNat]))
 |b2s {src T e:TypeId} {x:Operand} {r re rs:LRow} {l:List UInt8} (ho:o.op = .convert src T x) (hrs:L src=some rs) (hr:L T=some r) (hs:rs.sh = .sl e) (hre:L e=some re) (hsh:re.sh = .int .u8) (hrd:r.sh = .str) (hl:l≠[]) (hx:s.ev x = .fsl (l.map fun c=>[.int .u8 c.toNat])\/s.ev x = .sl (l.map fun c=>[.int .u8 c.toNat])):QOp P L s o (.str l)
 |seq {T:TypeId} {x y:Operand} {T':TypeId} {ks:List Sh} {us vs:List PV} {r neg:Bool} (ho:o.op = .binOp (bif neg then .neq else .eql) T x y T') (hT:Cz P T ks=true) (hx:s.ev x = .agg us) (hy:s.ev y = .agg vs) (hl:kW ks us vs=some r):QOp P L s o (.bool (bif neg then !r else r))
def Jk (P:Program)(C:Ctx)(γ:Nat->Option Nat)(s:St)(a:Act)(w:World)(o:Oper)(pv:PV):Prop :=
 (∃v,(execOp a.eval o).run P w = .ok (.value v) w/\Rep (ao C γ s w) pv v) \/
 (∃v w',(execOp a.eval o).run P w = .ok (.value v) w'/\Below w.heap.size w w'/\Rep (ao C γ s w') pv v) \/
 (∃f args,(execOp a.eval o).run P w = .ok (.enter f args) w/\Calls P f args w fun e w'=>∃v,e = .returned v/\Below w.heap.size w w'/\Rep (ao C γ s w') pv v)
section
variable {P:Program}{L:Lay}{C:Ctx}{γ:Nat->Option Nat}{s:St}{a:Act}{w:World}
theorem ib {w:World}{T:TypeId}{ad:Option Addr}{len cap l h:Nat}{lo hi:Option Value}(ht:P.underlying T=some (.slice (P.elem T)))
  (hlo:(lo=none/\l=0)\/∃k,lo=some (.int k (l:Int))) (hhi:(hi=none/\h=len)\/∃k,hi=some (.int k (h:Int))) (hlh:l<=h) (hc:h<=cap) :
  (Instr.slice T (.slice ad len cap) lo hi none).run P w=((sizeOf (P.elem T)).run P w).andThen fun s w => .ok (sliced ad l h cap s) w:=by
 rcases hlo with⟨rfl,rfl⟩|⟨kl,rfl⟩<;>rcases hhi with⟨rfl,rfl⟩|⟨kh,rfl⟩
 .rw[run_slice_all w T ad h cap ht]
 .rw[run_slice_h w T ad len cap ht kh h J J];rfl
 .rw[run_slice_l w T ad h cap ht kl l J J];rfl
 .rw[run_slice_lh w T ad len cap ht kl kh l h J J J];rfl
theorem oP {E:Env}{ok:Nat->Prop}{rows:List (List PV)}{v:Value}{sz l h:Nat}(hd:DRep E.w ok (.sl rows) v)(hsz:∀row∈rows,row.length=sz)(hlh:l<=h)(hle:h<=rows.length) :
  ∃ad cap,v = .slice ad rows.length cap/\h<=cap/\DRep E.w ok (.sl ((rows.take h).drop l)) (sliced ad l h cap sz):=by
 rcases m9 hd with⟨rfl,ad,cap,hv⟩|⟨b,off,cap,sz',vals,hv,h1,h2,h3,h4,h5,h6⟩
 .simp at hle;refine⟨ad,cap,hv,J,?_⟩;have:l=0:=J;subst this;subst hle;exact .sl0 _ _
 .refine⟨_,cap,hv,J,?_⟩;by_cases he:l=h
  .subst he;have:(rows.take l).drop l=[]:=List.drop_eq_nil_of_le (by rw[List.length_take];exact Nat.min_le_left _ _);rw[this,sliced,Nat.sub_self];exact .sl0 _ _
  .have hszz:sz'=sz:=by
    have hx:=hsz rows[0] ah;rw[<-hx];exact(h4 _ ah).symm
   subst hszz;rw[sliced,if_neg J];simp only[Option.map_some,Addr.add_mk];have hlen:((rows.take h).drop l).length=h-l:=by simp;omega
   have hget:∀i,((rows.take h).drop l)[i]? = if l+i<h then rows[l+i]? else none:=fun i=>by rw[List.getElem?_drop,List.getElem?_take]
   have:=DRep.sl (w:=E.w) (ok:=ok) ((rows.take h).drop l) b (off+l*sz') (cap-l) sz' (fun i j=>vals (l+i) j) h1 h2 J (fun row hr=>h4 row (List.mem_of_mem_take (List.mem_of_mem_drop hr)))
    (fun i j row c e1 e2=>by
     rw[hget]at e1;split at e1
     .have:=h5 _ _ _ _ e1 e2;rwa [show off+(l+i)*sz'+j=off+l*sz'+i*sz'+j by rw[Nat.add_mul];omega]at this
     .cases e1)
    (fun i j row c e1 e2=>by
     rw[hget]at e1;split at e1
     .exact h6 _ _ _ _ e1 e2
     .cases e1)
   rwa [hlen]at this
theorem jP {γ:Nat->Option Nat}(h:Sim C γ s a w){o:Option Operand}{d n:Nat}(hb:Cg s o d n):(o.map a.eval=none/\n=d)\/∃k,o.map a.eval=some (.int k (n:Int)):=by
 rcases hb with⟨rfl,rfl⟩|⟨x,k,rfl,hx⟩
 .exact .inl ⟨O,O⟩
 .have hv:=h.ev x;rw[hx]at hv;exact .inr ⟨k,by rw[Option.map_some,hv.int_inv]⟩
theorem QOp.sound (hL:ig P L)(hX:∀b,C.X b->b<C.B)(hglob:Globs.glob w)(h:Sim C γ s a w){o:Oper}{pv:PV}(hq:QOp P L s o pv):Jk P C γ s a w o pv:=by
 have wrapv:∀ {m:Sem Value} {v:Value},m.run P w = .ok v w->(do pure (Next.value (<-m)):Sem Next).run P w = .ok (.value v) w:=fun hm=>by simp[hm]
 cases hq with
 |v hq hc=>exact .inl (DG hL h hq hc)
 |seq ho hT hx hy hl =>
  rename_i T x y T' ks us vs r neg;have hxr:=h.ev x;rw[hx]at hxr;have hyr:=h.ev y;rw[hy]at hyr;obtain⟨e1,e2⟩:=Gr (P:=P) (w:=w) (x:=x) (y:=y) hT hl hxr hyr;cases neg
  .refine .inl ⟨.bool r,?_,.d (.bool r)⟩;simp only[execOp,ho,cond_false];exact wrapv e1
  .refine .inl ⟨.bool (!r),?_,.d (.bool _)⟩;simp only[execOp,ho,cond_true];exact wrapv e2
 |look ho hr hs hrk hrv hz hz1 hx hown hk3 hky hkeys =>
  rename_i T K V r rk rv x y k g c z ok;have hxr:=h.ev x;rw[hx]at hxr;obtain⟨hsz,b,hb,hxv⟩:=h.mp_at hxr hown;obtain⟨es,nn,f1,f2,f3,f4,f5,f6⟩:=(h.sites k c (by rw[hown])).mp b hb hsz hk3;obtain⟨u,e1,e2⟩:=DZ (E:=ao C γ s w) (P:=P) (ok:=ok) hL hr hs hrk hrv hz hz1 f1 f2 f3 (fun i row c e e1 e2 e3=>(f5 i row c e e1 e2 e3).rep ax) (fun i row c e e1 e2 e3=>(f6 i row c e e1 e2 e3).rep ax) hky (h.ev y) hkeys;refine .inl ⟨u,?_,e2⟩;simp only[execOp,ho,hxv];exact wrapv e1
 |sem hx ho hrun hpv =>
  rename_i x u v;have hxr:=h.ev x;rw[hx]at hxr;exact .inl ⟨_,hrun a.eval w hglob hxr.raw_inv,.d (hpv _ _)⟩
 |semF hne hall hrun hpv =>
  refine .inl ⟨_,hrun a.eval w hglob (fun x hx=>?_),.d (hpv _ _)⟩;obtain⟨u,hu⟩:=hall x hx;have hxr:=h.ev x;generalize s.ev x=c at hu hxr ⊢;rw[hu];cases c with
  |bool b=>cases hu;rw[hxr.bool_inv]
  |int k n=>cases hu;rw[hxr.int_inv]
  |str l=>cases hu;rw[hxr.str_inv]
  |raw v=>cases hu;rw[hxr.raw_inv]
  |_=>cases hu
 |lookG ho hr hs hrk hz hx hg hky hkeys =>
  rename_i T K V r rk kk x y rows z ok;have hxr:=h.ev x
  obtain⟨b,es,nn,hxv,f1,f2,f3,f5,f6⟩:∃b es nn,a.eval x = .map (some b)/\w.heap[b]? = some (.map es nn)/\rows.length=es.size/\(∀row∈rows,row.length=2) /\
    (∀(i:Nat) (row:List PV) (c:PV) (e:MapEntry),rows[i]? = some row->row[0]? = some c->es[i]? = some e->Rep (ao C γ s w) c e.key) /\
    (∀(i:Nat) (row:List PV) (c:PV) (e:MapEntry),rows[i]? = some row->row[1]? = some c->es[i]? = some e->Rep (ao C γ s w) c e.val):=by
   rcases hx with hx|⟨k,g,c,hx,hown,hk3,hrows⟩
   .rw[hx]at hxr;cases hxr with|d hd =>
    generalize he:a.eval x=v at hd;cases hd with
    |mapd rows b es nn hb hh hl h2 hborn hk hv=>exact⟨b,es,nn,rfl,hh,hl,h2,fun i row c e e1 e2 e3 => .d (hk i row c e e1 e2 e3),fun i row c e e1 e2 e3 => .d (hv i row c e e1 e2 e3)⟩
   .rw[hx]at hxr;obtain⟨hsz,b,hb,hxv⟩:=h.mp_at hxr hown;obtain⟨es,nn,f1,f2,f3,f4,f5,f6⟩:=(h.sites k c (by rw[hown])).mp b hb hsz hk3;subst hrows;exact⟨b,es,nn,hxv,f1,f2,f3,fun i row c e e1 e2 e3=>(f5 i row c e e1 e2 e3).rep ax,fun i row c e e1 e2 e3=>(f6 i row c e e1 e2 e3).rep ax⟩
  obtain⟨u,e1,e2⟩:=Bc (E:=ao C γ s w) (P:=P) (ok:=ok) hL hr hs hrk (hz hL) f1 f2 f3 f5 f6 hg hky (h.ev y) hkeys;refine .inl ⟨u,?_,e2⟩;simp only[execOp,ho,hxv];exact wrapv e1
 |b2s ho hrs hr hs hre hsh hrd hl hx =>
  rename_i src T e x r re rs l;have hxr:=h.ev x;have main:∀(ok:Nat->Prop) (v:Value),DRep w ok (.sl (l.map fun c=>[PV.int .u8 c.toNat])) v->(convert src T v).run P w = .ok (.string ⟨l.toArray⟩) w:=by
   intro ok v hd;rcases m9 (E:=⟨w,ok,ok,fun _=>0,fun _=>none⟩) hd with⟨h0,_⟩|⟨b,off,cap,sz,vals,hv,_,hsz,_,hrow,hcell,hdr⟩
   .exact absurd (by simpa using h0) hl
   .have h1:sz=1:=by
     cases l with
     |nil=>exact absurd rfl hl
     |cons a l=>exact(hrow [.int .u8 a.toNat] ah).symm
    subst h1;have hrun:=run_convert_bytes_arg (P:=P) w src e (gE (hL src rs hrs) hs) (mu (hL e re hre) hsh) b off l.length cap (l.map fun c=>(c.toNat:Int)) ah (fun i hi=>by
     have g1:(l.map fun c=>[PV.int .u8 c.toNat])[i]? = some [.int .u8 l[i].toNat]:=by rw[List.getElem?_map,List.getElem?_eq_getElem hi];rfl
     have g2:=(hcell i 0 _ _ g1 O).1;have g3:=hdr i 0 _ _ g1 O;generalize vals i 0=u at g2 g3;cases g3;rw[show off+i=off+i*1+0 by omega];rw[show(w.cell? ⟨b,off+i*1+0,none⟩)=_ from g2]
     rw[List.getD_eq_getElem?_getD,List.getElem?_map,List.getElem?_eq_getElem hi];rfl) T (j7 (hL T r hr) hrd)
    rw[hv,List.length_map,hrun];congr 2;rw[strOfNums,List.map_map];congr 2
    conv=>rhs;rw[<-List.map_id l]
    exact List.map_congr_left fun c _=>by simp
  rcases hx with hx|hx
  .rw[hx]at hxr;cases hxr with
   |d hd=>cases hd
   |fsl hd =>
    refine .inl ⟨_,?_,.d (.str l)⟩;simp only[execOp,ho];rw[Sem.run_bind,main _ _ hd];rfl
  .rw[hx]at hxr;cases hxr with
   |d hd =>
    refine .inl ⟨_,?_,.d (.str l)⟩;simp only[execOp,ho];rw[Sem.run_bind,main _ _ hd];rfl
 |s2b ho hrs hr hs hre hsh hx =>
  rename_i src T e x r re rs l;have hxr:=h.ev x;rw[hx]at hxr;have hus:∃u,P.underlying src=some u:=Option.isSome_iff_exists.1 (tA (hL src rs hrs));obtain⟨u,hu⟩:=hus;have hrun:=Lib.run_convert_string_bytes (P:=P) w src T e ⟨l.toArray⟩ hu (gE (hL T r hr) hs) (mu (hL e re hre) hsh);have hsz:(⟨l.toArray⟩:ByteArray).size=l.length:=O;rw[hsz]at hrun;have hbel:Below w.heap.size w (Lib.bytesWorld w e ⟨l.toArray⟩):=⟨O,O,O,by rw[Lib.bytesWorld_size];omega,fun b hb=>Lib.bytesWorld_at_old w e _ b hb⟩;refine .inr (.inl ⟨.slice (some ⟨w.heap.size,0,none⟩) (l.map fun c=>[PV.int .u8 c.toNat]).length (grownCap w l.length 0 e),Lib.bytesWorld w e ⟨l.toArray⟩,?_,hbel,.fsl ?_⟩)
  .simp only[execOp,ho,hxr.str_inv,List.length_map];rw[Sem.run_bind,hrun];rfl
  have hcap:l.length<=grownCap w l.length 0 e:=grownCap_ge w l.length 0 e;have:=DRep.sl (w:=Lib.bytesWorld w e ⟨l.toArray⟩) (ok:=(ao C γ s (Lib.bytesWorld w e ⟨l.toArray⟩)).okf) (l.map fun c=>[PV.int .u8 c.toNat]) w.heap.size 0 (grownCap w l.length 0 e) 1 (fun i _ => .int .u8 (l.getD i 0).toNat)
   ⟨h.top,by show _<(Lib.bytesWorld w e _).heap.size;rw[Lib.bytesWorld_size];omega,fun hx=>by have:=hX _ hx;have:=h.top;omega,fun k c hc hk=>by have:=(h.base k c _ hc hk).2;omega⟩ J (by simpa using hcap)
   (fun row hr=>by simp only[List.mem_map]at hr;obtain⟨c,_,rfl⟩:=hr;rfl) (fun i j row c e1 e2=>by
    have hi:i<l.length:=by have:=(bb e1).1;simpa using this
    rw[List.getElem?_map,List.getElem?_eq_getElem hi]at e1;simp only[Option.map_some,Option.some.injEq]at e1;subst e1;have hj:j=0:=by have:=(bb e2).1;simp at this;omega
    subst hj;refine⟨?_,O⟩;have:=Lib.bytesWorld_cell w e ⟨l.toArray⟩ i (by rw[hsz];exact hi)
    simpa using this) (fun i j row c e1 e2=>by
    have hi:i<l.length:=by have:=(bb e1).1;simpa using this
    rw[List.getElem?_map,List.getElem?_eq_getElem hi]at e1;simp only[Option.map_some,Option.some.injEq]at e1;subst e1;have hj:j=0:=by have:=(bb e2).1;simp at this;omega
    subst hj;simp at e2;subst e2;have:l.getD i 0=l[i]:=by simp[List.getD_eq_getElem?_getD,hi]
    simp only[this]
    exact .int _ _)
  exact this
 |entry ho hx hown hk3 hrows =>
  obtain⟨u,e1,e2⟩:=Bm (P:=P) h hx hown hk3 hrows;refine .inl ⟨u,?_,e2⟩;simp only[execOp,ho];exact wrapv e1
 |slit ho hr hs hre hz hsz hn hN hcells h1 h2 hkd =>
  rename_i T e r re n parts Pr;obtain⟨cur,g1,g2,g3⟩:=m_ (P:=P) hL h 0 ho hr hs hre hz hsz hn hN hcells h1 h2 hkd;have hb:Below w.heap.size w (w.alloc (.cells cur e)):=⟨O,O,O,ah,fun b hb=>Below.heap_alloc w _ b hb⟩;have hle:=fX (C:=C) (γ:=γ) (s:=s) hb h.base;refine .inr (.inl ⟨_,_,g3,hb,.fsl ?_⟩);have hf:=g1.mono hle;have hblk:(w.alloc (.cells cur e)).heap[w.heap.size]? = some (.cells cur e (0,0)):=bj _ _;refine .sl _ w.heap.size 0 _ re.size (fun i j=>cur.getD (i*re.size+j) undef) ⟨h.top,ah,fun hx=>?_,fun k c hc hk=>?_⟩ hsz (aP) hf.row_ (fun i j row pv e1 e2=>?_) (fun i j row pv e1 e2=>?_)
  .have:=hX _ hx;have:=h.top;omega
  .have:=(h.base k c _ hc hk).2;omega
  .obtain⟨v,f1,f2,f3⟩:=hf.at_ i j row pv e1 e2;rw[Array.getElem?_toList]at f1;show(w.alloc (.cells cur e)).cell? _=_/\_;rw[bg hblk,Nat.zero_add,f1];simp[f1,f2]
  .obtain⟨v,f1,f2,f3⟩:=hf.at_ i j row pv e1 e2;rw[Array.getElem?_toList]at f1;have:cur.getD (i*re.size+j) undef=v:=by simp[f1]
   simp only[this];exact f3
 |slitD ho hr hs hre hz hsz hn hN hcells h1 h2 hkd =>
  rename_i T e r re n parts Pr;obtain⟨cur,g1,g2,g3⟩:=m_ (P:=P) hL h 1 ho hr hs hre hz hsz hn hN hcells h1 h2 hkd;have hb:Below w.heap.size w (w.alloc (.cells cur e)):=⟨O,O,O,ah,fun b hb=>Below.heap_alloc w _ b hb⟩;have hle:=fX (C:=C) (γ:=γ) (s:=s) hb h.base;refine .inr (.inl ⟨_,_,g3,hb,.d ?_⟩);have hf:=g1.mono hle;have hblk:(w.alloc (.cells cur e)).heap[w.heap.size]? = some (.cells cur e (0,0)):=bj _ _;refine .sl _ w.heap.size 0 _ re.size (fun i j=>cur.getD (i*re.size+j) undef) ⟨ah,fun hx=>?_,fun k c hc hk=>?_⟩ hsz (aP) hf.row_ (fun i j row pv e1 e2=>?_) (fun i j row pv e1 e2=>?_)
  .have:=hX _ hx;have:=h.top;omega
  .have:=(h.base k c _ hc hk).2;omega
  .obtain⟨v,f1,f2,f3⟩:=hf.at_ i j row pv e1 e2;rw[Array.getElem?_toList]at f1;show(w.alloc (.cells cur e)).cell? _=_/\_;rw[bg hblk,Nat.zero_add,f1];simp[f1,f2]
  .obtain⟨v,f1,f2,f3⟩:=hf.at_ i j row pv e1 e2;rw[Array.getElem?_toList]at f1;have:cur.getD (i*re.size+j) undef=v:=by simp[f1]
   simp only[this];exact f3
 |mks ho hr hs hre hz hsz hl hc h0 hb h63 =>
  rename_i T e r re l c kl kc n z;obtain⟨i,dd,hi,hud,hisz,hiby,_,hzero⟩:=LRow.spec (hL e re hre);obtain⟨zv,z1,z2,z3,z4⟩:=hzero z hz;have hu:=gE (hL T r hr) hs;have hlr:=h.ev l;rw[hl]at hlr;have hcr:=h.ev c;rw[hc]at hcr;have hrun:=run_make (P:=P) w T e i zv hu hi z1 kl kc n n h0 (Int.le_refl _) (by rw[hiby];omega) h63;have hflat:FlatRep (ao C γ s w) 0 re.size (List.replicate n.toNat z) (madeCells zv.cells (n.toNat*i.size)).toList:=by
   refine⟨by simp[size_madeCells,hisz],fun row hr=>?_,fun i' j row pv e1 e2=>?_⟩
   .rw[List.eq_of_mem_replicate hr,z3,z2]
   .have hi':i'<n.toNat:=by have:=(bb e1).1;simpa using this
    have hrow:row=z:=by rw[List.getElem?_replicate,if_pos hi']at e1;simpa using e1.symm
    subst hrow;have hj:j<re.size:=by have:=(bb e2).1;rw[z3,z2]at this;exact this
    have hmul:(i'+1)*re.size<=n.toNat*re.size:=Nat.mul_le_mul_right _ hi';rw[Nat.add_mul,Nat.one_mul]at hmul;have hjz:j<zv.cells.size:=by rw[z2];exact hj
    have hz4:=iC (z4 j pv zv.cells[j] e2 (Array.getElem?_eq_getElem hjz)) w (ao C γ s w).okf;refine⟨zv.cells[j],?_,hz4.2,hz4.1⟩;have hm:(i'*re.size+j)%zv.cells.size=j:=by rw[z2,Nat.mul_comm,Nat.mul_add_mod,Nat.mod_eq_of_lt hj]
    simp only[madeCells,Array.toList_map,List.getElem?_map];rw[Array.toList_range,List.getElem?_range (by rw[hisz];omega)];simp[hm,hjz]
  generalize madeCells zv.cells (n.toNat*i.size)=cur at *
  have hbel:Below w.heap.size w (w.alloc (.cells cur e)):=⟨O,O,O,ah,fun b hb=>Below.heap_alloc w _ b hb⟩;have hle:=fX (C:=C) (γ:=γ) (s:=s) hbel h.base;refine .inr (.inl ⟨.slice (some ⟨w.heap.size,0,none⟩) (List.replicate n.toNat z).length (List.replicate n.toNat z).length,w.alloc (.cells cur e),?_,hbel,.fsl ?_⟩)
  .simp only[execOp,ho,hlr.int_inv,hcr.int_inv];simp[hrun]
  have hf:=hflat.mono hle;have hblk:(w.alloc (.cells cur e)).heap[w.heap.size]? = some (.cells cur e (0,0)):=bj _ _;refine .sl _ w.heap.size 0 _ re.size (fun i j=>cur.getD (i*re.size+j) undef) ⟨h.top,ah,fun hx=>?_,fun k c hc hk=>?_⟩ hsz (aP) hf.row_ (fun i j row pv e1 e2=>?_) (fun i j row pv e1 e2=>?_)
  .have:=hX _ hx;have:=h.top;omega
  .have:=(h.base k c _ hc hk).2;omega
  .obtain⟨v,f1,f2,f3⟩:=hf.at_ i j row pv e1 e2;rw[Array.getElem?_toList]at f1;show(w.alloc (.cells cur e)).cell? _=_/\_;rw[bg hblk,Nat.zero_add,f1];simp[f1,f2]
  .obtain⟨v,f1,f2,f3⟩:=hf.at_ i j row pv e1 e2;rw[Array.getElem?_toList]at f1;have:cur.getD (i*re.size+j) undef=v:=by simp[f1]
   simp only[this];exact f3
 |idx ho hr hs hre hx hix h0 hrow hlen =>
  rename_i T e x ix r re rows row k n;have hi:=h.ev ix;rw[hix]at hi;have hxr:=h.ev x;obtain⟨ok,hok,hd⟩:∃ok:Nat->Prop,(∀b,ok b->eE C γ s w b)/\DRep w ok (.sl rows) (a.eval x):=by
   rcases hx with hx|hx
   .rw[hx]at hxr;cases hxr with|d hd=>exact⟨_,fun b hb=>hb,hd⟩
   .rw[hx]at hxr;cases hxr with
    |d hd=>cases hd
    |fsl hd=>exact⟨_,fun b hb=>hb.2,hd⟩
  have hlt:n.toNat<rows.length:=(bb hrow).1;rcases m9 (E:=ao C γ s w) hd with⟨rfl,_⟩|⟨b,off,cap,sz,vals,hv,h1,h2,h3,h4,h5,h6⟩
  .simp at hrow
  .have hsz:sz=re.size:=by rw[<-hlen];exact(h4 row (bc hrow)).symm
   refine .inl ⟨.pointer (some ⟨b,(off+n.toNat*sz)+0,none⟩),?_,.d (.dref row 0 b (off+n.toNat*sz) (fun j=>vals n.toNat j) (hok b h1) (fun j c e=>h5 _ _ _ _ hrow e) (fun j c e=>(h6 _ _ _ _ hrow e).weaken hok))⟩;simp only[execOp,ho,hv,hi.int_inv];refine wrapv ?_;rw[y_ hL hr hs hre h0 J,Addr.add_mk,hsz];rfl
 |idxA ho hr hs hre hx hown hsz hix h0 hlt =>
  rename_i T e x ix r re k n st g i m c;have hi:=h.ev ix;rw[hix]at hi;have hxr:=h.ev x;rw[hx]at hxr;rcases h.als_at hxr hown with⟨_,_,h3,_⟩|⟨b,cap,cur,h1,hv,h3,h4,h5,h6,h7⟩
  .omega
  .obtain⟨cur',g1,g2,_⟩:=h.site_at hown h1 (h.cells_sz hown h1 h3 h6);refine .inl ⟨.pointer (some ⟨b,(i+n.toNat)*c.sz+0,none⟩),?_,.ptr (by simp[ao,hown]) fun _ l hl=>?_⟩
   .simp only[execOp,ho,hv,hi.int_inv];refine wrapv ?_;rw[y_ hL hr hs hre h0 hlt,Addr.add_mk,hsz,Nat.add_mul];rfl
   .simp[ao,hown]at hl;subst hl;exact⟨b,h1,O,by simp only at h7 ⊢;omega,g2⟩
 |ldp ho hr hx hown hrow hp =>
  rename_i T x r st g i j c row;have hxr:=h.ev x;rw[hx]at hxr;obtain⟨b,hb,hv,hi,hj⟩:=h.ptr_at hxr hown;obtain⟨cur,hh,hsz,hle,hrows,hcell⟩:=h.site_at hown hb J;obtain⟨v,e1,e2⟩:=DO (E:=ao C γ s w) (P:=P) (hL T r hr) (b:=b) (off:=i*c.sz) (fun i'=>cur.getD (i*c.sz+i') undef) (fun i' c' e=>by
   obtain⟨u,e1,_,_⟩:=hcell i i' row c' hrow e;show w.cell? _=_
   rw[bg hh,e1];simp[e1]) (fun i' c' e=>by
   obtain⟨u,e1,_,e2⟩:=hcell i i' row c' hrow e;have:cur.getD (i*c.sz+i') undef=u:=by simp[e1]
   rw[this]
   exact e2.rep ax) hp
  refine .inl ⟨v,?_,e2⟩;simp only[execOp,ho,hv];refine wrapv ?_;simp only[Instr.loadAt,Instr.sureAddr,Sem.run_bind,Sem.run_pure,Result.andThen_ok];exact e1
 |slc ho hr hs hre hx hix h0 hle hlen =>
  rename_i T e x lo r re rows k n;have hi:=h.ev lo;rw[hix]at hi;have hxr:=h.ev x;rw[hx]at hxr;cases hxr with|d hd =>
  obtain⟨u1,u2,u3⟩:=f0 (P:=P) (w:=w) hL hr hs hre;have run:∀(ad:Option Addr) (len cap:Nat),a.eval x = .slice ad len cap->n<=len->(execOp a.eval o).run P w = .ok (.value (sliced ad n.toNat len cap re.size)) w:=by
   intro ad len cap hv hn;simp only[execOp,ho,hv,hi.int_inv,Option.map_some,Option.map_none];refine wrapv ?_;rw[run_sliceAt_slice w T _ _ _ _ u1,run_slice_l w T ad len cap u1 k n h0 hn,u3];rfl
  rcases m9 (E:=ao C γ s w) hd with⟨rfl,ad,cap,hv⟩|⟨b,off,cap,sz,vals,hv,h1,h2,h3,h4,h5,h6⟩
  .have hn0:n=0:=by simp at hle;omega
   subst hn0;refine .inl ⟨_,run ad 0 cap hv J,?_⟩;simp only[sliced,Int.toNat_zero,Nat.sub_zero,List.drop_nil];exact .d (.sl0 _ _)
  .refine .inl ⟨_,run _ _ cap hv hle,.d ?_⟩;have hlt:n.toNat<=rows.length:=J;unfold sliced;by_cases hnil:rows.drop n.toNat=[]
   .have:rows.length-n.toNat=0:=by have:=congrArg List.length hnil;simpa using this
    rw[hnil,this];exact .sl0 _ _
   .have hlt':n.toNat<rows.length:=by
     rcases Nat.lt_or_ge n.toNat rows.length with h'|h'
     .exact h'
     .exact absurd (List.drop_eq_nil_of_le h') hnil
    rw[if_neg J];have hsz:sz=re.size:=by
     have h':=hlen rows[n.toNat] ah;rw[<-h'];exact(h4 _ ah).symm
    simp only[Option.map_some,Addr.add_mk];rw[<-hsz];have:=DRep.sl (w:=w) (ok:=(ao C γ s w).ok) (rows.drop n.toNat) b (off+n.toNat*sz) (cap-n.toNat) sz (fun i j=>vals (n.toNat+i) j) h1 h2 aU (fun row hr=>h4 row (List.mem_of_mem_drop hr))
     (fun i j row c e1 e2=>by
      rw[List.getElem?_drop]at e1;have:=h5 _ _ _ _ e1 e2
      rwa [show off+(n.toNat+i)*sz+j=off+n.toNat*sz+i*sz+j by rw[Nat.add_mul];omega]at this)
     (fun i j row c e1 e2=>by
      rw[List.getElem?_drop]at e1
      exact h6 _ _ _ _ e1 e2)
    rwa [List.length_drop]at this
 |slh ho hr hs hre hx hix h0 hle hlen =>
  rename_i T e x hi' r re rows k n;have hi:=h.ev hi';rw[hix]at hi;have hxr:=h.ev x;rw[hx]at hxr;cases hxr with|d hd =>
  obtain⟨u1,u2,u3⟩:=f0 (P:=P) (w:=w) hL hr hs hre;have run:∀(ad:Option Addr) (len cap:Nat),a.eval x = .slice ad len cap->n<=cap->(execOp a.eval o).run P w = .ok (.value (sliced ad 0 n.toNat cap re.size)) w:=by
   intro ad len cap hv hn;simp only[execOp,ho,hv,hi.int_inv,Option.map_some,Option.map_none];refine wrapv ?_;rw[run_sliceAt_slice w T _ _ _ _ u1,run_slice_h w T ad len cap u1 k n h0 hn,u3];rfl
  rcases m9 (E:=ao C γ s w) hd with⟨rfl,ad,cap,hv⟩|⟨b,off,cap,sz,vals,hv,h1,h2,h3,h4,h5,h6⟩
  .have hn0:n=0:=by simp at hle;omega
   subst hn0;refine .inl ⟨_,run ad 0 cap hv J,?_⟩;simp only[sliced,Int.toNat_zero,Nat.sub_zero,List.take_nil];exact .d (.sl0 _ _)
  .refine .inl ⟨_,run _ _ cap hv J,.d ?_⟩;have hlt:n.toNat<=rows.length:=J;unfold sliced;have hz:(if cap=0 then some (⟨b,off,none⟩:Addr) else(some (⟨b,off,none⟩:Addr)).map fun x=>x.add (0*re.size))=some ⟨b,off,none⟩:=by
    split
    .rfl
    .simp[Addr.add]
   rw[hz,Nat.sub_zero,Nat.sub_zero];have hlen':(rows.take n.toNat).length=n.toNat:=by simp;omega
   have:=DRep.sl (w:=w) (ok:=(ao C γ s w).ok) (rows.take n.toNat) b off cap sz vals h1 h2 J (fun row hr=>h4 row (List.mem_of_mem_take hr))
    (fun i j row c e1 e2=>by
     rw[List.getElem?_take]at e1;split at e1
     .exact h5 _ _ _ _ e1 e2
     .cases e1)
    (fun i j row c e1 e2=>by
     rw[List.getElem?_take]at e1;split at e1
     .exact h6 _ _ _ _ e1 e2
     .cases e1)
   rwa [hlen']at this
 |slg fr ho hr hs hre hx hlo hhi hlh hle hlen =>
  rename_i T e x lo hi r re rows l h';have hxr:=h.ev x;obtain⟨u1,u2,u3⟩:=f0 (P:=P) (w:=w) hL hr hs hre;have run:∀(ad:Option Addr) (cap:Nat),a.eval x = .slice ad rows.length cap->h'<=cap->(execOp a.eval o).run P w = .ok (.value (sliced ad l h' cap re.size)) w:=by
   intro ad cap hv hc;simp only[execOp,ho,hv];refine wrapv ?_;show(Instr.sliceAt T (.slice ad rows.length cap) (lo.map a.eval) (hi.map a.eval) none).run P w=_;rw[run_sliceAt_slice w T _ _ _ _ u1,ib u1 (jP h hlo) (jP h hhi) hlh hc,u3];rfl
  cases fr with
  |false =>
   rw[hx]at hxr;cases hxr with|d hd =>
   obtain⟨ad,cap,e1,e2,e3⟩:=oP (E:=ao C γ s w) hd hlen hlh hle;exact .inl ⟨_,run ad cap e1 e2,.d e3⟩
  |true =>
   rw[hx]at hxr;cases hxr with
   |d hd=>cases hd
   |fsl hd =>
   obtain⟨ad,cap,e1,e2,e3⟩:=oP (E:=ao C γ s w) hd hlen hlh hle;exact .inl ⟨_,run ad cap e1 e2,.fsl e3⟩
 |slA ho hr hs hre hx hown hsz hlo hhi hlt hle =>
  rename_i T e x lo hi r re st g i m l h' c;have hxr:=h.ev x;rw[hx]at hxr;obtain⟨u1,u2,u3⟩:=f0 (P:=P) (w:=w) hL hr hs hre;rcases h.als_at hxr hown with⟨_,_,h3,_⟩|⟨b,cap,cur,h1,hv,h3,h4,h5,h6,h7⟩
  .omega
  .refine .inl ⟨sliced (some ⟨b,i*c.sz,none⟩) l h' cap re.size,?_,.als (by simp[ao,hown]) fun _ q hq=>?_⟩
   .simp only[execOp,ho,hv];refine wrapv ?_;show(Instr.sliceAt T (.slice (some ⟨b,i*c.sz,none⟩) m cap) (lo.map a.eval) (hi.map a.eval) none).run P w=_;rw[run_sliceAt_slice w T _ _ _ _ u1,ib u1 (jP h hlo) (jP h hhi) J J,u3];rfl
   .simp[ao,hown]at hq;subst hq;refine .inr ⟨b,cap-l,cur,h1,?_,h3,J,J,?_,?_⟩
    .rw[sliced,if_neg J,<-hsz];simp only[Option.map_some,Addr.add_mk];rw[Nat.add_mul]
    .rw[h6,show i+l+(cap-l)=i+cap by omega]
    .simp only at h7 ⊢;omega
 |slE ho hr hs hre hx hown hlo hhi hle =>
  rename_i T e x lo hi r re st g i m l c;have hxr:=h.ev x;rw[hx]at hxr;obtain⟨u1,u2,u3⟩:=f0 (P:=P) (w:=w) hL hr hs hre;have run:∀(ad:Option Addr) (cap:Nat),a.eval x = .slice ad m cap->l<=cap->(execOp a.eval o).run P w = .ok (.value (sliced ad l l cap re.size)) w:=by
   intro ad cap hv hc;simp only[execOp,ho,hv];refine wrapv ?_;show(Instr.sliceAt T (.slice ad m cap) (lo.map a.eval) (hi.map a.eval) none).run P w=_;rw[run_sliceAt_slice w T _ _ _ _ u1,ib u1 (jP h hlo) (jP h hhi) (aP) hc,u3];rfl
  rcases h.als_at hxr hown with⟨_,_,rfl,hv⟩|⟨b,cap,cur,h1,hv,h3,h4,h5,h6,h7⟩
  .refine .inl ⟨_,run none 0 hv J,.d ?_⟩;rw[sliced,Nat.sub_self];exact .sl0 _ _
  .refine .inl ⟨_,run _ cap hv J,.d ?_⟩;rw[sliced,Nat.sub_self];exact .sl0 _ _
 |call ho hf hres hc hb hret =>
  rename_i fop args tys f caps pargs Cd b;have hfv:=h.ev fop;rw[hf]at hfv;obtain⟨vs,hv,hl,hd⟩:=hfv.clo_inv;have hspec:=iy (S:=Rep (ao C γ s w)) (R:=fun b=>DRep w (dM C γ s w b)) (fun b1 b2 c v=>⟨fun hd=>hd.weaken fun k=>et.1,fun hd=>hd.weaken fun k=>et.2⟩) (fun c d Cd b v e1 e2 e3=>iz hX h 4 c d Cd b v e1 e2 e3) (args.toList.map s.ev++caps) pargs Cd b (args.toList.map a.eval++vs) hres hc (by simp[hl]) (fun i c v e1 e2=>by
   rw[List.getElem?_append]at e1 e2;simp only[List.length_map]at e1 e2;split at e1
   .rename_i hlt;rw[if_pos hlt]at e2;rw[List.getElem?_map]at e1 e2;cases hx:args.toList[i]? with
    |none=>rw[hx]at e1;simp at e1
    |some x=>rw[hx]at e1 e2;simp at e1 e2;subst e1;subst e2;exact h.ev x
   .rename_i hlt;rw[if_neg hlt]at e2
    exact hd _ c v e1 e2)
  refine .inr (.inr ⟨f,_,jC ho hv hret.1,?_⟩);refine(hret.2 w (fun k=>k<w.heap.size/\¬dM C γ s w b k) _ hglob (fun _ hb=>hb.1) hspec.1 (fun i c v e1 e2=>(hspec.2 i c v e1 e2).weaken fun k hk=>⟨hk.1,fun hn=>hn.2 hk⟩)).mono ?_;rintro e w' ⟨v,rfl,hbel,hdr⟩;exact⟨v,O,hbel,.d (hdr.weaken fun k hk=>Ju (b:=b) (m := .shared) hX h hbel k hk hb)⟩
 |callF ho hf hres hc hret =>
  rename_i fop args tys f caps pargs Cd b r;have hfv:=h.ev fop;rw[hf]at hfv;obtain⟨vs,hv,hl,hd⟩:=hfv.clo_inv;have hspec:=iy (S:=Rep (ao C γ s w)) (R:=fun b=>DRep w (dM C γ s w b)) (fun b1 b2 c v=>⟨fun hd=>hd.weaken fun k=>et.1,fun hd=>hd.weaken fun k=>et.2⟩) (fun c d Cd b v e1 e2 e3=>iz hX h 4 c d Cd b v e1 e2 e3) (args.toList.map s.ev++caps) pargs Cd b (args.toList.map a.eval++vs) hres hc (by simp[hl]) (fun i c v e1 e2=>by
   rw[List.getElem?_append]at e1 e2;simp only[List.length_map]at e1 e2;split at e1
   .rename_i hlt;rw[if_pos hlt]at e2;rw[List.getElem?_map]at e1 e2;cases hx:args.toList[i]? with
    |none=>rw[hx]at e1;simp at e1
    |some x=>rw[hx]at e1 e2;simp at e1 e2;subst e1;subst e2;exact h.ev x
   .rename_i hlt;rw[if_neg hlt]at e2
    exact hd _ c v e1 e2)
  refine .inr (.inr ⟨f,_,jC ho hv hret.1,?_⟩);refine(hret.2 w (fun k=>k<w.heap.size/\¬dM C γ s w b k) _ hglob (fun _ hb=>hb.1) hspec.1 (fun i c v e1 e2=>(hspec.2 i c v e1 e2).weaken fun k hk=>⟨hk.1,fun hn=>hn.2 hk⟩)).mono ?_;rintro e w' ⟨v,rfl,hbel,hdr⟩;refine⟨v,O,hbel,Rep.frs ax ?_⟩;exact hdr.weaken fun k hk=>Ju (b:=b) (m := .fresh) hX h hbel k hk
end
end Go.Pv
namespace Go.Pv
open Go.RowKit
variable [Globs]
inductive Wants (ops:Array Oper) (s:St) (o:Oper):Bool->Prop
 |none (h:o.guard=none):Wants ops s o true
 |yes {j d:Nat} {want:Bool} (h:o.guard=some (j,want)) (hd:(ops[j]?).bind (·.dst)=some d) (hr:s.reg d = .bool want):Wants ops s o true
 |no {j d:Nat} {want b:Bool} (h:o.guard=some (j,want)) (hd:(ops[j]?).bind (·.dst)=some d) (hr:s.reg d = .bool b) (hne:b≠want):Wants ops s o false
 |junk {j d:Nat} {want:Bool} (h:o.guard=some (j,want)) (hd:(ops[j]?).bind (·.dst)=some d) (hr:s.reg d = .raw undef):Wants ops s o false
section
variable {P:Program}{L:Lay}{C:Ctx}{s:St}{a:Act}{w w':World}{ops:Array Oper}
theorem Wants.spec (h:SimE C s a w){o:Oper}{b:Bool}(hw:Wants ops s o b):Region.wanted o (yielded ops a.tmps)=b:=by
 obtain⟨γ,h⟩:=h;have key:∀ {d:Nat} {t:Bool},s.reg d = .bool t->a.tmps[d]? = some (.bool t):=by
  intro d t hr;have h1:=h.regs d;rw[hr]at h1;have h2:=h1.bool_inv;rcases Nat.lt_or_ge d a.tmps.size with hlt|hge
  .rw[Array.getElem?_eq_getElem hlt];simpa [hlt] using h2
  .rw[show a.tmps.getD d undef=undef by simp[Array.getElem?_eq_none hge]]at h2;cases h2
 cases hw with
 |none h=>simp[Region.wanted,h]
 |yes h hd hr=>simp[Region.wanted,h,yielded,hd,key hr]
 |no h hd hr hne =>
  rename_i j d want b;simp only[Region.wanted,h,yielded,hd,Option.bind_some,key hr];cases b<;>cases want<;>simp_all
 |junk h hd hr =>
  rename_i j d want;have h1:=‹Sim C γ s a w›.regs d;rw[hr]at h1;have h2:=h1.raw_inv;simp only[Region.wanted,h,yielded,hd,Option.bind_some];rcases Nat.lt_or_ge d a.tmps.size with hlt|hge
  .have h3:a.tmps[d]? = some undef:=by rw[Array.getElem?_eq_getElem hlt];simpa [hlt] using h2
   rw[h3];rfl
  .rw[Array.getElem?_eq_none hge];rfl
def POp (P:Program)(L:Lay)(s:St)(o:Oper)(K:St->Prop):Prop:=(∃pv,QOp P L s o pv/\K (s.put o.dst pv))\/(∃s',Eff P L s o s'/\K s')\/Dem P L s o K
def POps (P:Program)(L:Lay)(ops:Array Oper)(K:St->Prop):List Oper->St->Prop
 |[],s=>K s
 |o::rest,s=>(Wants ops s o true/\POp P L s o (POps P L ops K rest))\/(Wants ops s o false/\POps P L ops K rest (s.put o.dst (.raw undef)))
structure Good (P:Program) (L:Lay) (C:Ctx):Prop where
 lay:ig P L
 x:∀b,C.X b->b<C.B
 mixed:P.follows .mixedOrders=true
 glob:∀w,Below C.B C.w0 w->Globs.glob w
theorem QOp.wp (hG:Good P L C)(h:SimE C s a w){o:Oper}(hN:b9 C.N o.dst=true){pv:PV}(hq:QOp P L s o pv){K:Act->World->Prop}{Q:Exit->Act->World->Prop}(hK:∀a' w',SimE C (s.put o.dst pv) a' w'->K a' w'):o.wp P a w K Q:=by
 obtain⟨γ,h⟩:=h;unfold Oper.wp;rcases hq.sound hG.lay hG.x (hG.glob _ h.below) h with⟨v,h1,h2⟩|⟨v,w',h1,hb,h2⟩|⟨f,args,h1,h2⟩
 .rw[h1,Oper.upon_value];exact hK _ _ ⟨γ,h.put hN h2⟩
 .rw[h1,Oper.upon_value];exact hK _ _ ⟨γ,(h.ext hb).put hN h2⟩
 .rw[h1,Oper.upon_enter];refine h2.mono ?_;rintro e w' ⟨v,rfl,hb,hr⟩;exact hK _ _ ⟨γ,(h.ext hb).put hN hr⟩
theorem POp.wp (hG:Good P L C)(h:SimE C s a w){o:Oper}(hN:b9 C.N o.dst=true){K':St->Prop}(hq:POp P L s o K'){K:Act->World->Prop}{Q:Exit->Act->World->Prop}(hK:∀s' a' w',SimE C s' a' w'->K' s'->K a' w'):o.wp P a w K Q:=by
 rcases hq with⟨pv,h1,h2⟩|⟨s',h1,h2⟩|h1
 .exact h1.wp hG h hN fun a' w' h'=>hK _ a' w' h' h2
 .exact h1.sound hG.lay hG.x hG.glob h hN fun a' w' h'=>hK _ a' w' h' h2
 .exact h1.sound h hN hK
theorem SimE.put (h:SimE C s a w){d:Option Nat}(hd:b9 C.N d=true)(v:Value):SimE C (s.put d (.raw v)) (a.put d v) w :=
 let ⟨γ,h⟩:=h
 ⟨γ,h.put hd (.d (.raw v))⟩
theorem POps.sound (hG:Good P L C){K':St->Prop}{Q:Exit->Act->World->Prop}(hK:∀s' a' w',SimE C s' a' w'->K' s'->Q .normal a' w') :
  ∀(l:List Oper) (s:St) (a:Act) (w:World),(∀o∈l,b9 C.N o.dst=true)->SimE C s a w->POps P L ops K' l s->wpList P ops Q l a w
 |[],s,a,w,_,h,hp=>hK s a w h hp
 |o::l,s,a,w,hN,h,hp=>by
  unfold wpList;rcases hp with⟨hw,hp⟩|⟨hw,hp⟩
  .rw[if_pos (hw.spec h)];exact .inl (hp.wp hG h (hN o ah) fun s' a' w' h' hp'=>POps.sound hG hK l s' a' w' (fun o' ho'=>hN o' (by simp[ho'])) h' hp')
  .rw[if_neg (by rw[hw.spec h];simp)];exact POps.sound hG hK l _ _ w (fun o' ho'=>hN o' (by simp[ho'])) (h.put (hN o ah) undef) hp
def Sm (P:Program)(L:Lay)(s:St)(o:Oper)(K:St->Prop):Prop:=∀(C:Ctx) (a:Act) (w:World) (Q:Exit->Act->World->Prop),Good P L C->SimE C s a w->b9 C.N o.dst=true->o.wp P a w (fun a' w'=>∃s',SimE C s' a' w'/\K s') Q
def PSem (P:Program)(L:Lay)(ops:Array Oper)(K:St->Prop):List Oper->St->Prop
 |[],s=>K s
 |o::rest,s=>(Wants ops s o true/\(POp P L s o (PSem P L ops K rest)\/Sm P L s o (PSem P L ops K rest)))\/(Wants ops s o false/\PSem P L ops K rest (s.put o.dst (.raw undef)))
theorem PSem.sound (hG:Good P L C){K':St->Prop}{Q:Exit->Act->World->Prop}(hK:∀s' a' w',SimE C s' a' w'->K' s'->Q .normal a' w') :
  ∀(l:List Oper) (s:St) (a:Act) (w:World),(∀o∈l,b9 C.N o.dst=true)->SimE C s a w->PSem P L ops K' l s->wpList P ops Q l a w
 |[],s,a,w,_,h,hp=>hK s a w h hp
 |o::l,s,a,w,hN,h,hp=>by
  unfold wpList;rcases hp with⟨hw,hp⟩|⟨hw,hp⟩
  .rw[if_pos (hw.spec h)];rcases hp with hp|hp
   .exact .inl (hp.wp hG h (hN o ah) fun s' a' w' h' hp'=>PSem.sound hG hK l s' a' w' (fun o' ho'=>hN o' (by simp[ho'])) h' hp')
   .exact .inl (Oper.wp_mono (fun a' w' ⟨s',h',hp'⟩=>PSem.sound hG hK l s' a' w' (fun o' ho'=>hN o' (by simp[ho'])) h' hp') (hp C a w _ hG h (hN o ah)))
  .rw[if_neg (by rw[hw.spec h];simp)];exact PSem.sound hG hK l _ _ w (fun o' ho'=>hN o' (by simp[ho'])) (h.put (hN o ah) undef) hp
def PQuiet (P:Program)(L:Lay)(ops:Array Oper)(K:St->Prop):List Oper->St->Prop
 |[],s=>K s
 |o::rest,s=>(Wants ops s o true/\∃pv,QOp P L s o pv/\PQuiet P L ops K rest (s.put o.dst pv))\/(Wants ops s o false/\PQuiet P L ops K rest (s.put o.dst (.raw undef)))
def Yld (P:Program)(L:Lay)(ops:Array Oper)(s:St)(o:Oper)(v:PV):Prop:=(Wants ops s o true/\QOp P L s o v)\/(Wants ops s o false/\v = .raw undef)
theorem s_ {s s':St}(ho:s.own=s'.own):∀(n:Nat) (c:PV),eZ s n c=eZ s' n c
 |0,_=>rfl
 |n+1,c=>by
  have hf:eZ s n=eZ s' n:=funext (s_ ho n);cases c<;>simp only[eZ,ho,hf]
theorem DF {s s':St}(ho:s.own=s'.own){op:Op}(he:∀x∈op.operands,s.ev x=s'.ev x):qv L s op=qv L s' op:=by
 have hplen:u7 s=u7 s':=by funext v;cases v<;>simp only[u7,ho]
 have hone:mN s=mN s':=by funext v;cases v<;>simp only[mN,ho]
 have hpn:qy s=qy s':=by funext r op v;cases v<;>simp only[qy,ho]
 have hfill:∀fs l cs C,iZ L s fs l cs C=iZ L s' fs l cs C:=by
  intro fs l
  induction l with
  |nil=>intro cs C;rfl
  |cons p l ih =>
   intro cs C;obtain⟨i,x⟩:=p;simp only[iZ,hone,ih]
 cases op<;>simp only[Op.operands]at he
 case move x=>simp only[qv,he x ah]
 case assign x=>simp only[qv,he x ah]
 case pick c x y=>simp only[qv,he c ah,he x ah,he y ah]
 case nilCheck x=>simp only[qv,he x ah,ho]
 case binOp op T x y T'=>simp only[qv,he x ah,he y ah,hpn]
 case unOp op T x=>simp only[qv,he x ah]
 case convert src dst x=>simp only[qv,he x ah]
 case makeFunc fn first caps =>
  obtain⟨caps⟩:=caps;obtain⟨first⟩:=first;cases fn<;>cases first<;>simp only[qv];rw[List.map_congr_left (fun x hx=>he x (by simp[hx]))]
 case fieldAddr T x f=>simp only[qv,he x ah,ho]
 case field T x f=>simp only[qv,he x ah]
 case load T x=>simp only[qv,he x ah,ho]
 case extract x i=>simp only[qv,he x ah]
 case index T x ix=>simp only[qv,he x ah,he ix ah]
 case build T parts =>
  have:(parts.toList.map fun p=>(p.1,s.ev p.2))=parts.toList.map fun p=>(p.1,s'.ev p.2):=by
   apply List.map_congr_left;intro p hp;rw[he p.2 (by simp;exact⟨p.1,by simpa using hp⟩)]
  simp only[qv,this,hfill]
 case call c =>
  unfold qv;split;any_goals (rename_i heq;cases heq;done)
  .rename_i x T heq;cases heq;have h1:=he x (by simp[Call.operands]);simp only[h1,hplen]
  .rename_i x y tys heq;cases heq;simp only[he x (by simp[Call.operands]),he y (by simp[Call.operands])]
  .rename_i x y tys heq;cases heq;simp only[he x (by simp[Call.operands]),he y (by simp[Call.operands])]
  .rfl
 all_goals rfl
theorem iu {s s':St}(ho:s.own=s'.own):∀l,du s l=du s' l
 |[]=>rfl
 |c::l=>by
  have h1:mN s c=mN s' c:=by cases c<;>simp only[mN,ho]
  simp only[du,h1,iu ho l]
theorem QOp.congr {s s':St}(ho:s.own=s'.own){o:Oper}(he:∀x∈o.op.operands,s.ev x=s'.ev x){v:PV}(h:QOp P L s o v):QOp P L s' o v:=by
 have hres:eZ s 4=eZ s' 4:=funext (s_ ho 4);cases h with
 |v hq hc=>exact .v (by rw[<-DF ho he];exact hq) hc
 |seq h1 hT hx hy hl =>
  rw[h1]at he;simp only[Op.operands]at he;rename_i T x y T' ks us vs r neg;exact .seq h1 hT (by rw[<-he x ah];exact hx) (by rw[<-he y ah];exact hy) hl
 |idx h1 hr hs hre hx hix h0 hrow hlen =>
  rw[h1]at he;simp only[Op.operands]at he;rename_i T e x ix r re rows row k n;exact .idx h1 hr hs hre (by rw[<-he x ah];exact hx) (by rw[<-he ix ah];exact hix) h0 hrow hlen
 |idxA h1 hr hs hre hx hown hsz hix h0 hlt =>
  rw[h1]at he;simp only[Op.operands]at he;rename_i T e x ix r re k n st g i m c;exact .idxA h1 hr hs hre (by rw[<-he x ah];exact hx) (by rw[<-ho];exact hown) hsz (by rw[<-he ix ah];exact hix) h0 hlt
 |ldp h1 hr hx hown hrow hp =>
  rw[h1]at he;simp only[Op.operands]at he;rename_i T x r st g i j c row;exact .ldp h1 hr (by rw[<-he x ah];exact hx) (by rw[<-ho];exact hown) hrow hp
 |slc h1 hr hs hre hx hix h0 hle hlen =>
  rw[h1]at he;simp only[Op.operands]at he;rename_i T e x lo r re rows k n;exact .slc h1 hr hs hre (by rw[<-he x ah];exact hx) (by rw[<-he lo ah];exact hix) h0 hle hlen
 |slh h1 hr hs hre hx hix h0 hle hlen =>
  rw[h1]at he;simp only[Op.operands]at he;rename_i T e x hi r re rows k n;exact .slh h1 hr hs hre (by rw[<-he x ah];exact hx) (by rw[<-he hi ah];exact hix) h0 hle hlen
 |slg fr h1 hr hs hre hx hlo hhi hlh hle hlen =>
  rw[h1]at he;simp only[Op.operands]at he;rename_i T e x lo hi r re rows l h';exact .slg fr h1 hr hs hre (by rw[<-he x ah];exact hx) (hlo.imp id fun⟨y,k,e1,e2⟩=>⟨y,k,e1,by rw[<-he y (by simp[e1])];exact e2⟩) (hhi.imp id fun⟨y,k,e1,e2⟩=>⟨y,k,e1,by rw[<-he y (by simp[e1])];exact e2⟩) hlh hle hlen
 |slA h1 hr hs hre hx hown hsz hlo hhi hlt hle =>
  rw[h1]at he;simp only[Op.operands]at he;rename_i T e x lo hi r re st g i m l h' c;exact .slA h1 hr hs hre (by rw[<-he x ah];exact hx) (by rw[<-ho];exact hown) hsz (hlo.imp id fun⟨y,k,e1,e2⟩=>⟨y,k,e1,by rw[<-he y (by simp[e1])];exact e2⟩) (hhi.imp id fun⟨y,k,e1,e2⟩=>⟨y,k,e1,by rw[<-he y (by simp[e1])];exact e2⟩) hlt hle
 |slE h1 hr hs hre hx hown hlo hhi hle =>
  rw[h1]at he;simp only[Op.operands]at he;rename_i T e x lo hi r re st g i m l c;exact .slE h1 hr hs hre (by rw[<-he x ah];exact hx) (by rw[<-ho];exact hown) (hlo.imp id fun⟨y,k,e1,e2⟩=>⟨y,k,e1,by rw[<-he y (by simp[e1])];exact e2⟩) (hhi.imp id fun⟨y,k,e1,e2⟩=>⟨y,k,e1,by rw[<-he y (by simp[e1])];exact e2⟩) hle
 |call h1 hf hr hc hb hret =>
  rw[h1]at he;simp only[Op.operands,Call.operands]at he;rename_i fop args tys f caps pargs Cd b;have hm:args.toList.map s.ev=args.toList.map s'.ev:=List.map_congr_left fun x hx=>he x (by simp;exact .inr (by simpa using hx));exact .call h1 (by rw[<-he fop ah];exact hf) (by rw[<-hm,<-hres];exact hr) hc hb hret
 |callF h1 hf hr hc hret =>
  rw[h1]at he;simp only[Op.operands,Call.operands]at he;rename_i fop args tys f caps pargs Cd b r;have hm:args.toList.map s.ev=args.toList.map s'.ev:=List.map_congr_left fun x hx=>he x (by simp;exact .inr (by simpa using hx));exact .callF h1 (by rw[<-he fop ah];exact hf) (by rw[<-hm,<-hres];exact hr) hc hret
 |look h1 hr hs hrk hrv hz hz1 hx hown hk3 hky hkeys =>
  rename_i T K V r rk rv x y k g c z ok;rw[h1]at he;simp only[Op.operands]at he;have hy:=he y ah;rw[hy];exact .look h1 hr hs hrk hrv hz hz1 (by rw[<-he x ah];exact hx) (by rw[<-ho];exact hown) hk3 (by rw[<-hy];exact hky) hkeys
 |sem hx h1 hrun hpv=>exact .sem (by rw[<-he _ (by rw[h1];simp)];exact hx) h1 hrun hpv
 |semF hne hall hrun hpv=>exact .semF hne (fun x hx=>by rw[<-he x hx];exact hall x hx) (fun ev w hw h=>hrun ev w hw fun x hx=>by rw[he x hx];exact h x hx) hpv
 |lookG h1 hr hs hrk hz hx hg hky hkeys =>
  rename_i T K V r rk kk x y rows z ok;rw[h1]at he;simp only[Op.operands]at he;have hy:=he y ah;rw[hy];exact .lookG h1 hr hs hrk hz (by rw[<-he x ah,<-ho];exact hx) hg (by rw[<-hy];exact hky) hkeys
 |s2b h1 hrs hr hs hre hsh hx =>
  rw[h1]at he;simp only[Op.operands]at he;exact .s2b h1 hrs hr hs hre hsh (by rw[<-he _ ah];exact hx)
 |b2s h1 hrs hr hs hre hsh hrd hl hx =>
  rw[h1]at he;simp only[Op.operands]at he;exact .b2s h1 hrs hr hs hre hsh hrd hl (by rw[<-he _ ah];exact hx)
 |entry h1 hx hown hk3 hrows =>
  rename_i x k g c ck cv rem;rw[h1]at he;simp only[Op.operands]at he;exact .entry h1 (by rw[<-he x ah];exact hx) (by rw[<-ho];exact hown) hk3 hrows
 |mks h1 hr hs hre hz hsz hl hc h0 hb h63 =>
  rw[h1]at he;simp only[Op.operands]at he;exact .mks h1 hr hs hre hz hsz (by rw[<-he _ ah];exact hl) (by rw[<-he _ ah];exact hc) h0 hb h63
 |slit h1 hr hs hre hz hsz hn hN hcells hp1 hp2 hkd =>
  rw[h1]at he;simp only[Op.operands]at he;rename_i T e r re n parts Pr;have hp:∀p∈parts.toList,s.ev p.2=s'.ev p.2:=fun p hp=>he p.2 (by simp;exact⟨p.1,by simpa using hp⟩);have hm:(parts.toList.map fun p=>(s.ev p.2).cells.map (dY 0))=parts.toList.map fun p=>(s'.ev p.2).cells.map (dY 0):=List.map_congr_left fun p h=>by rw[hp p h]
  have hf:(parts.toList.flatMap fun p=>(s.ev p.2).cells)=parts.toList.flatMap fun p=>(s'.ev p.2).cells:=by
   rw[List.flatMap_def,List.flatMap_def];congr 1;exact List.map_congr_left fun p h=>by rw[hp p h]
  rw[hm];exact .slit h1 hr hs hre hz hsz hn hN (fun p h=>by rw[<-hp p h];exact hcells p h) (by rw[<-hf,<-iu ho];exact hp1) hp2 (by rw[<-hf];exact hkd)
 |slitD h1 hr hs hre hz hsz hn hN hcells hp1 hp2 hkd =>
  rw[h1]at he;simp only[Op.operands]at he;rename_i T e r re n parts Pr;have hp:∀p∈parts.toList,s.ev p.2=s'.ev p.2:=fun p hp=>he p.2 (by simp;exact⟨p.1,by simpa using hp⟩);have hm:(parts.toList.map fun p=>(s.ev p.2).cells.map (dY 1))=parts.toList.map fun p=>(s'.ev p.2).cells.map (dY 1):=List.map_congr_left fun p h=>by rw[hp p h]
  have hf:(parts.toList.flatMap fun p=>(s.ev p.2).cells)=parts.toList.flatMap fun p=>(s'.ev p.2).cells:=by
   rw[List.flatMap_def,List.flatMap_def];congr 1;exact List.map_congr_left fun p h=>by rw[hp p h]
  rw[hm];exact .slitD h1 hr hs hre hz hsz hn hN (fun p h=>by rw[<-hp p h];exact hcells p h) (by rw[<-hf,<-iu ho];exact hp1) hp2 (by rw[<-hf];exact hkd)
theorem Wants.congr {s s':St}{o:Oper}(he:∀t∈o.looksAt ops,s.reg t=s'.reg t){b:Bool}(h:Wants ops s o b):Wants ops s' o b:=by
 have key:∀ {j d:Nat} {want:Bool},o.guard=some (j,want)->(ops[j]?).bind (·.dst)=some d->s.reg d=s'.reg d:=by
  intro j d want hg hd;exact he d (by simp[Oper.looksAt,hg,hd])
 cases h with
 |none h=>exact .none h
 |yes h hd hr=>exact .yes h hd (by rw[<-key h hd];exact hr)
 |no h hd hr hne=>exact .no h hd (by rw[<-key h hd];exact hr) hne
 |junk h hd hr=>exact .junk h hd (by rw[<-key h hd];exact hr)
theorem Yld.congr {s s':St}(ho:s.own=s'.own){o:Oper}(he:∀t∈o.looksAt ops,s.reg t=s'.reg t){v:PV}(h:Yld P L ops s o v):Yld P L ops s' o v:=by
 have hev:∀x∈o.op.operands,s.ev x=s'.ev x:=by
  intro x hx;cases x with
  |tmp t=>exact he t (List.mem_append_left _ (List.mem_filterMap.2 ⟨.tmp t,by simpa using hx,rfl⟩))
  |_=>rfl
 rcases h with⟨h1,h2⟩|⟨h1,h2⟩
 .exact .inl ⟨h1.congr he,h2.congr ho hev⟩
 .exact .inr ⟨h1.congr he,h2⟩
def fx:List (Nat × PV)->St->St
 |[],s=>s
 |(d,v)::l,s=>fx l (s.putR d v)
theorem gy:∀(l:List (Nat × PV)) (s:St),(fx l s).own=s.own
 |[],_=>rfl
 |(d,v)::l,s=>by rw[fx,gy l];rfl
theorem eu:∀(l:List (Nat × PV)) (s:St) (t:Nat),(∀p∈l,p.1≠t)->(fx l s).reg t=s.reg t
 |[],_,_,_=>rfl
 |(d,v)::l,s,t,h=>by
  rw[fx,eu l _ t (fun p hp=>h p (by simp[hp]))];show(bif Nat.beq t d then v else s.reg t)=_;have:t≠d:=fun e=>h (d,v) ah e.symm;rw[bm this];rfl
theorem gx:∀(l:List (Nat × PV)) (s:St) (j t:Nat) (v:PV),l[j]? = some (t,v)->(l.map (·.1)).Nodup->(fx l s).reg t=v
 |[],_,_,_,_,h,_=>by simp at h
 |(d,u)::l,s,j,t,v,h,hn=>by
  rw[fx];simp only[List.map_cons,List.nodup_cons]at hn;cases j with
  |zero =>
   simp at h;obtain⟨rfl,rfl⟩:=h;rw[eu l _ d (fun p hp e=>hn.1 (List.mem_map.2 ⟨p,hp,e⟩))];simp[St.putR]
  |succ j=>exact gx l _ j t v (by simpa using h) hn.2
theorem PQuiet.ylds {K:St->Prop}:∀(l:List Oper) (ds:List Nat) (s:St),l.map (·.dst)=ds.map some->PQuiet P L ops K l s ->
  ∃vs:List PV,vs.length=ds.length/\(∀(k:Nat) (o:Oper) (v:PV),l[k]? = some o->vs[k]? = some v->Yld P L ops (fx ((ds.zip vs).take k) s) o v)/\K (fx (ds.zip vs) s)
 |[],ds,s,hd,h=>by
  have:ds=[]:=by simpa using hd.symm
  subst this;exact⟨[],O,fun k o v h=>by simp at h,h⟩
 |o::l,ds,s,hd,h=>by
  cases ds with
  |nil=>simp at hd
  |cons d ds =>
   simp only[List.map_cons,List.cons.injEq]at hd;have main:∀v,Yld P L ops s o v->PQuiet P L ops K l (s.put o.dst v)->∃vs:List PV,vs.length=(d::ds).length/\(∀(k:Nat) (o':Oper) (v:PV),(o::l)[k]? = some o'->vs[k]? = some v->Yld P L ops (fx (((d::ds).zip vs).take k) s) o' v)/\K (fx ((d::ds).zip vs) s):=by
    intro v hy hq;rw[hd.1]at hq;obtain⟨vs,h1,h2,h3⟩:=PQuiet.ylds l ds _ hd.2 hq;refine⟨v::vs,by simp[h1],fun k o' v' e1 e2=>?_,h3⟩;cases k with
    |zero=>simp at e1 e2;subst e1;subst e2;exact hy
    |succ k=>exact h2 k o' v' (by simpa using e1) (by simpa using e2)
   rcases h with⟨hw,pv,hq,hr⟩|⟨hw,hr⟩
   .exact main pv (.inl ⟨hw,hq⟩) hr
   .exact main (.raw undef) (.inr ⟨hw,O⟩) hr
def kM (ops:Array Oper)(n:Nat)(ds:List Nat):Bool :=
 decide (n<=ops.size)&&((ops.toList.take n).map (·.dst)==ds.map some)&&decide ds.Nodup &&
 ((List.range n).all fun i=>match ops[i]? with
  |some o=>(o.looksAt ops).all fun t=>(List.range n).all fun j=>!(ds[j]? == some t)||(decide (j<i)&&o.after.any fun e=>Region.binds .any e&&e.on==j)
  |none=>false) &&
 ((List.range ops.size).all fun i=>match ops[i]? with
  |some o=>o.after.all fun e=>!Region.binds .any e||decide (e.on<i)
  |none=>false) &&
 (decide (n=ops.size)||(Region.sinkB .any ops n&&Region.chainB .any ops n)) &&
 Region.seqB .any ops (ops.size-n) n ((List.replicate n true++List.replicate (ops.size-n) false).toArray)
end
end Go.Pv
namespace Go.Pv
open Go.RowKit
variable [Globs]
section
variable {P:Program}{L:Lay}{C:Ctx}{s:St}{a:Act}{w w':World}{ops:Array Oper}
structure DrawOk (ops:Array Oper) (n:Nat) (ds:List Nat):Prop where
 le:n<=ops.size
 dst:(ops.toList.take n).map (·.dst)=ds.map some
 nodup:ds.Nodup
 looks:∀i o,i<n->ops[i]? = some o->∀t∈o.looksAt ops,∀j,j<n->ds[j]? = some t->j<i/\∃e∈o.after,Region.binds .any e=true/\e.on=j
 lex:∀i o,ops[i]? = some o->∀e∈o.after,Region.binds .any e=true->e.on<i
 tail:n=ops.size\/(Region.sinkB .any ops n=true/\Region.chainB .any ops n=true)
 seq:Region.seqB .any ops (ops.size-n) n ((List.replicate n true++List.replicate (ops.size-n) false).toArray)=true
theorem nt {n:Nat}{ds:List Nat}(h:kM ops n ds=true):DrawOk ops n ds:=by
 simp only[kM,Bool.and_eq_true,decide_eq_true_eq,beq_iff_eq,Bool.or_eq_true]at h;obtain⟨⟨⟨⟨⟨⟨h1,h2⟩,h3⟩,h4⟩,h5⟩,h6⟩,h7⟩:=h;refine⟨h1,h2,h3,fun i o hi ho t ht j hj hd=>?_,fun i o ho e he hb=>?_,h6,h7⟩
 .have e1:=List.all_eq_true.1 h4 i (List.mem_range.2 hi);rw[ho]at e1;have e2:=List.all_eq_true.1 e1 t ht;have e3:=List.all_eq_true.1 e2 j (List.mem_range.2 hj);simp only[hd,beq_self_eq_true,Bool.not_true,Bool.false_or,Bool.and_eq_true,decide_eq_true_eq]at e3;obtain⟨e,he,hb⟩:=Array.any_eq_true'.1 e3.2;simp only[Bool.and_eq_true,beq_iff_eq]at hb;exact⟨e3.1,e,he,hb.1,hb.2⟩
 .have hi:i<ops.size:=(cD ho).1;have e1:=List.all_eq_true.1 h5 i (List.mem_range.2 hi);rw[ho]at e1;have e2:=Array.all_eq_true_iff_forall_mem.1 e1 e he;simpa [hb] using e2
structure Agr (ds:List Nat) (vs:List PV) (n:Nat) (listed:Array Bool) (s0 s:St):Prop where
 own:s.own=s0.own
 hit:∀t j,j<n->listed.getD j false=true->ds[j]? = some t->vs[j]? = some (s.reg t)
 miss:∀t,(∀j,j<n->listed.getD j false=true->ds[j]? ≠ some t)->s.reg t=s0.reg t
theorem St.ext' {s s':St}(h1:s.reg=s'.reg)(h2:s.own=s'.own):s=s':=by
 cases s;cases s';simp_all
theorem mz {ds:List Nat}{vs:List PV}(_hl:vs.length=ds.length){j t:Nat}{v:PV}(h1:ds[j]? = some t)(h2:vs[j]? = some v):(ds.zip vs)[j]? = some (t,v):=by
 rw[List.getElem?_zip_eq_some];exact⟨h1,h2⟩
theorem Ct (hG:Good P L C){n:Nat}{ds:List Nat}(hd:DrawOk ops n ds){K':St->Prop}{Q:Exit->Act->World->Prop}(hK:∀s' a' w',SimE C s' a' w'->K' s'->Q .normal a' w')
  (hN:∀o∈ops.toList,b9 C.N o.dst=true) {s0:St} {vs:List PV} (hvl:vs.length=ds.length)
  (hy:∀(k:Nat) (o:Oper) (v:PV),(ops.toList.take n)[k]? = some o->vs[k]? = some v->Yld P L ops (fx ((ds.zip vs).take k) s0) o v)
  (hend:PSem P L ops K' (ops.toList.drop n) (fx (ds.zip vs) s0)) :
  ∀(m:Nat) (U:List Nat) (listed:Array Bool) (s:St) (a:Act) (w:World),U.length=m->U.Nodup->(∀i,i∈U↔i<n/\listed.getD i true=false)->HeadInv .any ops n listed->Agr ds vs n listed s0 s->SimE C s a w ->
   wpAny P .any ops Q (m+(ops.size-n)) listed a w:=by
 have hdl:ds.length=n:=by
  have:=congrArg List.length hd.dst;simp at this;have h1:=hd.le;omega
 have hdi:∀i o,i<n->ops[i]? = some o->∃d,ds[i]? = some d/\o.dst=some d:=by
  intro i o hi ho;have h1:i<ds.length:=J;refine⟨ds[i],List.getElem?_eq_getElem h1,?_⟩;have h2:((ops.toList.take n).map (·.dst))[i]? = (ds.map some)[i]? := by rw[hd.dst]
  rw[List.getElem?_map,List.getElem?_map,List.getElem?_take,if_pos hi,List.getElem?_eq_getElem h1]at h2;have h3:ops.toList[i]? = some o:=by simpa using ho
  rw[h3]at h2;simpa using h2
 have hzn:(ds.zip vs).map (·.1)=ds:=by rw[List.map_fst_zip J]
 have hinj:∀(i j t:Nat),ds[i]? = some t->ds[j]? = some t->i=j:=by
  intro i j t h1 h2;have hi:=(bb h1).1;have hj:=(bb h2).1;have e1:=(bb h1).2;have e2:=(bb h2).2;exact(List.getElem_inj hd.nodup).1 (e1.trans e2.symm)
 intro m
 induction m with
 |zero =>
  intro U listed s a w hU _ hmem inv agr h;have hU0:U=[]:=List.eq_nil_of_length_eq_zero hU;subst hU0;have hall:∀i,i<n->listed.getD i true=true:=fun i hi=>by
   cases hb:listed.getD i true with
   |true=>rfl
   |false=>have:=(hmem i).2 ⟨hi,hb⟩;cases this
  have hle:=hd.le;have hlist:listed=(List.replicate n true++List.replicate (ops.size-n) false).toArray:=by
   apply Array.ext
   .rw[inv.size];simp;omega
   .intro i h1 h2;have hi:i<ops.size:=by rw[<-inv.size];exact h1
    by_cases hlt:i<n
    .have:=hall i hlt;simp[h1]at this;simp[this,hlt]
    .have:=inv.tail i J hi;simp[h1]at this;simp[this,List.getElem_append,hlt]
  have hs:s=fx (ds.zip vs) s0:=by
   refine St.ext' (funext fun t=>?_) (by rw[gy];exact agr.own);by_cases ht:∃j:Nat,ds[j]? = some t
   .obtain⟨j,hj⟩:=ht;have hjn:j<n:=by rw[<-hdl];exact(bb hj).1
    have hl:listed.getD j false=true:=by
     have h1:=hall j hjn;have h2:j<listed.size:=by rw[inv.size];omega
     simp[h2]at h1 ⊢;exact h1
    have hv:=agr.hit t j hjn hl hj;exact(gx _ s0 j t _ (mz hvl hj hv) (by rw[hzn];exact hd.nodup)).symm
   .rw[agr.miss t (fun j _ _ hj=>ht ⟨j,hj⟩),eu];intro p hp e;obtain⟨j,hj,rfl⟩:=List.getElem_of_mem hp;refine ht ⟨j,?_⟩;have:((ds.zip vs).map (·.1))[j]? = some t:=by rw[List.getElem?_map,List.getElem?_eq_getElem hj];simp[<-e]
    rwa [hzn]at this
  rw[Nat.zero_add];have hlen:(ops.toList.drop n).length=ops.size-n:=ah;have:=wpAny_of_seq (P:=P) (ops:=ops) (md := .any) (Q':=Q) (ops.toList.drop n) n listed a w (fun j=>by rw[List.getElem?_drop];simp) (by rw[hlen,hlist];exact hd.seq)
   (PSem.sound hG hK _ s a w (fun o ho=>hN o (List.mem_of_mem_drop ho)) h (by rw[hs];exact hend))
  rwa [hlen]at this
 |succ m ih =>
  intro U listed s a w hU hnd hmem inv agr h;have hlt_in:∀i,i∈Region.ready .any ops listed->i<n:=by
   intro i hi;have hisz:i<ops.size:=by
    obtain⟨_,o,ho,_⟩:=mem_ready.1 hi;exact(cD ho).1
   rcases hd.tail with ht|⟨ht1,ht2⟩
   .omega
   .rcases Nat.lt_or_ge i n with h1|h1
    .exact h1
    .cases hUU:U with
     |nil=>rw[hUU]at hU;simp at hU
     |cons u U' =>
      have hu:=(hmem u).1 (by rw[hUU];simp);exact absurd hi (tail_waits ht1 ht2 J inv _ u O hu.1 hu.2 i h1)
  rw[show m+1+(ops.size-n)=(m+(ops.size-n))+1 by omega];refine⟨fun hnil=>?_,fun i hi=>?_⟩
  .exfalso;obtain⟨i0,hi0,hmin⟩:∃i∈U,∀j∈U,i<=j:=by
    have hne:∃i,i∈U:=by
     cases hUU:U with
     |nil=>rw[hUU]at hU;simp at hU
     |cons u U'=>exact⟨u,ah⟩
    have hd':∀k,(∃i,i∈U/\i<=k)->∃i∈U,∀j∈U,i<=j:=by
     intro k
     induction k with
     |zero=>rintro⟨i,hi,h0⟩;exact⟨i,hi,fun j _=>by omega⟩
     |succ k ihk =>
      rintro⟨i,hi,hk⟩;by_cases hex:∃j,j∈U/\j<=k
      .exact ihk hex
      .refine⟨i,hi,fun j hj=>?_⟩;rcases Nat.lt_or_ge j i with h1|h1
       .exact absurd ⟨j,hj,J⟩ hex
       .exact h1
    obtain⟨i,hi⟩:=hne;exact hd' i ⟨i,hi,aP⟩
   have hu:=(hmem i0).1 hi0;have hsz:i0<ops.size:=by have:=hd.le;omega
   have hr:i0∈Region.ready .any ops listed:=by
    refine mem_ready.2 ⟨hu.2,ops[i0],Array.getElem?_eq_getElem hsz,fun e he hb=>?_⟩;have hlt:=hd.lex i0 _ (Array.getElem?_eq_getElem hsz) e he hb;cases hl:listed.getD e.on true with
    |false =>
     have:=hmin e.on ((hmem e.on).2 ⟨J,hl⟩);omega
    |true =>
     have h2:e.on<listed.size:=by rw[inv.size];omega
     simp[h2]at hl ⊢;exact hl
   rw[hnil]at hr;cases hr
  .have hin:=hlt_in i hi;obtain⟨hun,o,ho,hall⟩:=mem_ready.1 hi;obtain⟨d,hdd,hod⟩:=hdi i o hin ho;have hiv:i<vs.length:=J;have hyi:=hy i o vs[i] (by rw[List.getElem?_take,if_pos hin];simpa using ho) (List.getElem?_eq_getElem hiv);have hisz:i<listed.size:=by rw[inv.size];exact(cD ho).1
   have hsame:∀t∈o.looksAt ops,(fx ((ds.zip vs).take i) s0).reg t=s.reg t:=by
    intro t ht;by_cases hx:∃j:Nat,j<n/\ds[j]? = some t
    .obtain⟨j,hjn,hj⟩:=hx;obtain⟨hji,e,he,hb,hon⟩:=hd.looks i o hin ho t ht j hjn hj;have hl:listed.getD j false=true:=by rw[<-hon];exact hall e he hb
     have hv:=agr.hit t j hjn hl hj;refine gx _ s0 j t _ ?_ ?_
     .rw[List.getElem?_take,if_pos hji];exact mz hvl hj hv
     .rw[List.map_take,hzn];exact hd.nodup.sublist (List.take_sublist _ _)
    .rw[agr.miss t (fun j hj _ hdj=>hx ⟨j,hj,hdj⟩),eu];intro p hp e;have hp':=List.mem_of_mem_take hp;obtain⟨j,hj,rfl⟩:=List.getElem_of_mem hp';refine hx ⟨j,by simp at hj;omega,?_⟩;have:((ds.zip vs).map (·.1))[j]? = some t:=by rw[List.getElem?_map,List.getElem?_eq_getElem hj];simp[<-e]
     rwa [hzn]at this
   have hyl:Yld P L ops s o vs[i]:=hyi.congr (by rw[gy];exact agr.own.symm) hsame;have hnext:∀a' w',SimE C (s.put o.dst vs[i]) a' w'->wpAny P .any ops Q (m+(ops.size-n)) (listed.setIfInBounds i true) a' w':=by
    intro a' w' h';have hUi:i∈U:=(hmem i).2 ⟨hin,hun⟩;refine ih (U.erase i) _ _ a' w' (by rw[List.length_erase_of_mem hUi];omega) (hnd.erase i) (fun k=>?_) (inv.set hi hin) ?_ h'
    .rw[hnd.mem_erase_iff,hmem k];by_cases hki:k=i
     .subst hki;simp[hisz]
     .rw[getD_set_ne true (Ne.symm hki)];exact⟨fun x=>x.2,fun x=>⟨hki,x⟩⟩
    .have hreg:∀t,(s.put o.dst vs[i]).reg t=if t=d then vs[i] else s.reg t:=by
      intro t;rw[hod];show(bif Nat.beq t d then vs[i] else s.reg t)=_;by_cases htd:t=d
      .subst htd;simp
      .rw[bm htd,if_neg htd];rfl
     refine⟨by rw[hod];exact agr.own,fun t j hjn hl hj=>?_,fun t hm=>?_⟩
     .rw[hreg];by_cases htd:t=d
      .subst htd;rw[if_pos O,hinj j i t hj hdd];exact List.getElem?_eq_getElem hiv
      .rw[if_neg htd];have hji:j≠i:=by
        intro e;subst e;rw[hdd]at hj;exact htd (Option.some.inj hj).symm
       rw[getD_set_ne false (Ne.symm hji)]at hl;exact agr.hit t j hjn hl hj
     .rw[hreg];have hli:(listed.setIfInBounds i true).getD i false=true:=by simp[hisz]
      have htd:t≠d:=by
       intro e;subst e;exact hm i hin hli hdd
      rw[if_neg htd];refine agr.miss t fun j hjn hl hj=>?_;by_cases hji:j=i
      .subst hji;exact hm j hjn hli hj
      .exact hm j hjn (by rw[getD_set_ne false (Ne.symm hji)];exact hl) hj
   have hNo:b9 C.N o.dst=true:=hN o (by have:=Array.mem_of_getElem? ho;simpa using this);unfold wpOp;rw[ho];simp only;rcases hyl with⟨hw,hq⟩|⟨hw,hq⟩
   .rw[if_pos (hw.spec h)];exact .inl (hq.wp hG h hNo hnext)
   .rw[if_neg (by rw[hw.spec h];simp)];refine hnext _ _ ?_;rw[hq];exact h.put hNo undef
def PDraw (P:Program)(L:Lay)(ops:Array Oper)(K:St->Prop)(s:St):Prop :=
 ∃n ds,kM ops n ds=true/\PQuiet P L ops (fun s'=>PSem P L ops K (ops.toList.drop n) s') (ops.toList.take n) s
theorem PDraw.sound (hG:Good P L C){K':St->Prop}{Q:Exit->Act->World->Prop}(hK:∀s' a' w',SimE C s' a' w'->K' s'->Q .normal a' w')(hN:∀o∈ops.toList,b9 C.N o.dst=true)
  (h:SimE C s a w) (hq:PDraw P L ops K' s):wpAny P .any ops Q ops.size (Array.replicate ops.size false) a { w with drawn:=w.drawn+1 }:=by
 obtain⟨n,ds,hok,hq⟩:=hq;have hd:=nt hok;obtain⟨vs,h1,h2,h3⟩:=PQuiet.ylds _ ds s hd.dst hq;have hle:=hd.le;obtain⟨γ,h⟩:=h;have hget:∀(j:Nat) (d:Bool),(Array.replicate ops.size false).getD j d=if j<ops.size then false else d:=by
  intro j d;by_cases hj:j<ops.size
  .simp[hj]
  .simp[hj]
 have:=Ct hG hd (Q:=Q) hK hN h1 h2 h3 n (List.range n) (Array.replicate ops.size false) s a _ ah List.nodup_range (fun i=>by
   rw[List.mem_range,hget];constructor
   .intro hi;exact⟨hi,by rw[if_pos J]⟩
   .exact fun x=>x.1)
  ⟨ah,(fun j oj _ hl=>by rw[hget]at hl;split at hl<;>cases hl),fun t ht1 ht2=>by rw[hget,if_pos ht2]⟩
  ⟨O,(fun t j _ hl=>by rw[hget]at hl;split at hl<;>cases hl),fun _ _=>rfl⟩ ⟨γ,h.ext (f7 w)⟩
 rwa [show n+(ops.size-n)=ops.size by omega]at this
end
end Go.Pv
namespace Go.Pv
open Go.RowKit
variable [Globs]
def OwnLe (s s':St):Prop:=∀k,s'.own k=s.own k\/(s.own k).2=none
theorem OwnLe.some {s s':St}(h:OwnLe s s'){k:Nat}{c:Cont}(hc:(s.own k).2=some c):s'.own k=s.own k:=by
 rcases h k with h|h
 .exact h
 .rw[hc]at h;cases h
section
variable {P:Program}{L:Lay}{s s':St}
theorem F9 (h:OwnLe s s'){v:PV}{r:PV × Prop}(hq:u7 s v=some r):u7 s' v=some r:=by
 cases v<;>simp only[u7]at hq ⊢<;>try exact hq
 split at hq
 .rename_i c hc;rw[h.some hc,hc];exact hq
 .cases hq
theorem F_ (h:OwnLe s s'){r:Option LRow}{op:BinOp}{v:PV}{q:PV × Prop}(hq:qy s r op v=some q):qy s' r op v=some q:=by
 cases v
 case ptr k g i j =>
  cases r with
  |none=>exact hq
  |some r =>
   unfold qy at hq ⊢;dsimp only at hq ⊢;generalize r.sh=sh at hq ⊢;cases sh<;>dsimp only at hq ⊢<;>try exact hq
   cases op<;>dsimp only at hq ⊢<;>try exact hq
   all_goals
    split at hq
    .rename_i c hc;rw[h.some hc,hc];exact hq
    .cases hq
 all_goals (first|exact hq|(simp only[qy]at hq ⊢;exact hq))
theorem yR (h:OwnLe s s'){v:PV}{r:Prop}(hq:mN s v=some r):mN s' v=some r:=by
 cases v<;>simp only[mN]at hq ⊢<;>try exact hq
 all_goals
  split at hq
  .rename_i c hc;rw[h.some hc,hc];exact hq
  .cases hq
theorem sQ (h:OwnLe s s'):∀ {l:List PV} {r:Prop},du s l=some r->du s' l=some r
 |[],_,hq=>hq
 |c::l,r,hq=>by
  simp only[du]at hq ⊢;split at hq
  .rename_i A hA;rw[yR h hA];split at hq
   .rename_i B hB;rw[sQ h hB];exact hq
   .cases hq
  .cases hq
theorem oX (h:OwnLe s s'){fs:List (Nat × TypeId)}:∀ {l:List (Nat × PV)} {cs:List PV} {C:Prop} {r:List PV × Prop},iZ L s fs l cs C=some r->iZ L s' fs l cs C=some r
 |[],_,_,_,hq=>hq
 |(i,x)::l,cs,C,r,hq=>by
  simp only[iZ]at hq ⊢;split at hq
  .rename_i off ft hf;split at hq
   .rename_i rr hr;split at hq
    .rename_i ds;cases hb:(Nat.beq ds.length rr.size&&Nat.ble (off+ds.length) cs.length) with
     |true=>rw[hb]at hq;simp only[cond_true]at hq ⊢;exact oX h hq
     |false=>rw[hb]at hq;simp at hq
    .rename_i x' hx';split at hq
     .rename_i Pr hPr;have:=yR h hPr;cases x<;>simp only[this]<;>first
       |(
        cases hb:(Nat.beq 1 rr.size&&Nat.ble (off+1) cs.length) with
        |true=>rw[hb]at hq;simp only[cond_true]at hq ⊢;exact oX h hq
        |false=>rw[hb]at hq;simp at hq)
       |exact absurd rfl (hx' _)
     .cases hq
   .cases hq
  .cases hq
theorem l9 {f f':PV->Option (PV × Prop × Fl)}(hf:∀c r,f c=some r->f' c=some r):∀ {l:List PV} {r},e_ f l=some r->e_ f' l=some r
 |[],_,hq=>hq
 |c::l,r,hq=>by
  simp only[e_]at hq ⊢;split at hq
  .rename_i d C1 b1 h1;rw[hf c _ h1];split at hq
   .rename_i ds C2 b2 h2;simp only[l9 hf h2];exact hq
   .cases hq
  .cases hq
theorem xo (h:OwnLe s s'):∀(n:Nat) (c:PV) (r:PV × Prop × Fl),eZ s n c=some r->eZ s' n c=some r
 |0,_,_,hq=>by simp[eZ]at hq
 |n+1,c,r,hq=>by
  have ih:=xo h n;cases c<;>simp only[eZ]at hq ⊢<;>try exact hq
  case als k g i m =>
   split at hq
   .rename_i c hc;rw[h.some hc,hc];exact hq
   .cases hq
  case mp k g =>
   split at hq
   .rename_i c hc;rw[h.some hc,hc];exact hq
   .cases hq
  case ptr k g i j =>
   split at hq
   .rename_i c hc;rw[h.some hc,hc];simp only;split at hq
    .rename_i row hrow;cases hb:Nat.ble c.kind 1 with
     |true=>rw[hb]at hq;exact hq
     |false =>
      rw[hb]at hq;simp only[cond_false]at hq ⊢;split at hq
      .rename_i row' C1 b1 h1;rw[l9 ih h1];exact hq
      .cases hq
    .cases hq
   .cases hq
  all_goals
   split at hq
   .rename_i ds C1 b1 h1;rw[l9 ih h1];exact hq
   .cases hq
theorem Hr (hr:s'.reg=s.reg)(x:Operand):s'.ev x=s.ev x:=by cases x<;>simp only[St.ev,hr]
theorem JU (h:OwnLe s s')(hr:s'.reg=s.reg){op:Op}{r:PV × Prop}(hq:qv L s op=some r):qv L s' op=some r:=by
 have hev:=Hr hr;cases op
 case nilCheck x =>
  simp only[qv,hev]at hq ⊢;split at hq<;>try exact hq
  rename_i k g i j hx;split at hq
  .rename_i c hc;rw[h.some hc,hc];exact hq
  .cases hq
 case fieldAddr T x f =>
  simp only[qv,hev]at hq ⊢;split at hq<;>try (cases hq;done)
  split at hq<;>try (cases hq;done)
  split at hq<;>try (cases hq;done)
  split at hq<;>try (cases hq;done)
  rename_i rf hrf;cases hb:Nat.blt 0 rf.size with
  |false=>rw[hb]at hq;cases hq
  |true =>
   rw[hb]at hq;simp only[cond_true]at hq ⊢;split at hq<;>try exact hq
   rename_i k g i j hx;split at hq
   .rename_i c hc;rw[h.some hc,hc];exact hq
   .cases hq
 case load T x =>
  simp only[qv,hev]at hq ⊢;split at hq<;>try (cases hq;done)
  split at hq<;>try exact hq
  rename_i k g i j hx;split at hq
  .rename_i c hc;rw[h.some hc,hc];exact hq
  .cases hq
 case binOp op T x y T' =>
  simp only[qv,hev]at hq ⊢;cases hn:uO y with
  |true=>rw[hn,cond_true]at hq;rw[cond_true];exact F_ h hq
  |false=>rw[hn,cond_false]at hq;rw[cond_false];exact hq
 case build T parts =>
  simp only[qv,hev]at hq ⊢;split at hq<;>try (cases hq;done)
  split at hq<;>try (cases hq;done)
  rename_i fs z hfs hz;cases hb:fs.all (fun p=>(L p.2).isSome) with
  |false=>rw[hb]at hq;cases hq
  |true =>
   rw[hb]at hq;simp only[cond_true]at hq ⊢;split at hq
   .rename_i cs C hf;rw[oX h hf];exact hq
   .cases hq
 case call c =>
  unfold qv at hq ⊢;split at hq;any_goals (rename_i heq;cases heq;done)
  .rename_i x T heq;cases heq;simp only[hev];split at hq<;>try (cases hq;done)
   split at hq<;>try exact hq
   rename_i v _ hsl _;exact F9 h hq
  .rename_i x y tys heq;cases heq;simp only[hev];exact hq
  .rename_i x y tys heq;cases heq;simp only[hev];exact hq
  .cases hq
 case makeFunc fn first caps =>
  obtain⟨caps⟩:=caps;obtain⟨first⟩:=first;cases fn<;>cases first<;>simp only[qv]at hq ⊢<;>try (cases hq;done)
  rw[<-hq,List.map_congr_left fun x _=>hev x]
 all_goals (first|(simp only[qv,hev]at hq ⊢;exact hq)|(simp only[qv]at hq;cases hq)|exact hq)
theorem QOp.le (h:OwnLe s s')(hr:s'.reg=s.reg){o:Oper}{v:PV}(hq:QOp P L s o v):QOp P L s' o v:=by
 have hev:=Hr hr;have hm:∀args:Array Operand,args.toList.map s'.ev=args.toList.map s.ev:=fun args=>List.map_congr_left fun x _=>hev x;cases hq with
 |v hq hc=>exact .v (JU h hr hq) hc
 |seq ho hT hx hy hl=>exact .seq ho hT (by rw[hev];exact hx) (by rw[hev];exact hy) hl
 |idx ho h1 h2 h3 hx hix h0 hrow hlen=>exact .idx ho h1 h2 h3 (by rw[hev];exact hx) (by rw[hev];exact hix) h0 hrow hlen
 |idxA ho h1 h2 h3 hx hown hsz hix h0 hlt=>exact .idxA ho h1 h2 h3 (by rw[hev];exact hx) (by rw[h.some (by rw[hown])];exact hown) hsz (by rw[hev];exact hix) h0 hlt
 |ldp ho h1 hx hown hrow hp=>exact .ldp ho h1 (by rw[hev];exact hx) (by rw[h.some (by rw[hown])];exact hown) hrow hp
 |slc ho h1 h2 h3 hx hix h0 hle hlen=>exact .slc ho h1 h2 h3 (by rw[hev];exact hx) (by rw[hev];exact hix) h0 hle hlen
 |slh ho h1 h2 h3 hx hix h0 hle hlen=>exact .slh ho h1 h2 h3 (by rw[hev];exact hx) (by rw[hev];exact hix) h0 hle hlen
 |slg fr ho h1 h2 h3 hx hlo hhi hlh hle hlen=>exact .slg fr ho h1 h2 h3 (by rw[hev];exact hx) (hlo.imp id fun⟨y,k,e1,e2⟩=>⟨y,k,e1,by rw[hev];exact e2⟩) (hhi.imp id fun⟨y,k,e1,e2⟩=>⟨y,k,e1,by rw[hev];exact e2⟩) hlh hle hlen
 |slA ho h1 h2 h3 hx hown hsz hlo hhi hlt hle=>exact .slA ho h1 h2 h3 (by rw[hev];exact hx) (by rw[h.some (by rw[hown])];exact hown) hsz (hlo.imp id fun⟨y,k,e1,e2⟩=>⟨y,k,e1,by rw[hev];exact e2⟩) (hhi.imp id fun⟨y,k,e1,e2⟩=>⟨y,k,e1,by rw[hev];exact e2⟩) hlt hle
 |slE ho h1 h2 h3 hx hown hlo hhi hle=>exact .slE ho h1 h2 h3 (by rw[hev];exact hx) (by rw[h.some (by rw[hown])];exact hown) (hlo.imp id fun⟨y,k,e1,e2⟩=>⟨y,k,e1,by rw[hev];exact e2⟩) (hhi.imp id fun⟨y,k,e1,e2⟩=>⟨y,k,e1,by rw[hev];exact e2⟩) hle
 |call ho hf hres hc hb hret=>exact .call ho (by rw[hev];exact hf) (by rw[hm];exact l9 (xo h 4) hres) hc hb hret
 |callF ho hf hres hc hret=>exact .callF ho (by rw[hev];exact hf) (by rw[hm];exact l9 (xo h 4) hres) hc hret
 |look ho hr0 hs hrk hrv hz hz1 hx hown hk3 hky hkeys =>
  rename_i T K V r rk rv x y k g c z ok;rw[<-hev y];exact .look ho hr0 hs hrk hrv hz hz1 (by rw[hev];exact hx) (by rw[h.some (by rw[hown])];exact hown) hk3 (by rw[hev];exact hky) hkeys
 |sem hx h1 hrun hpv=>exact .sem (by rw[hev];exact hx) h1 hrun hpv
 |semF hne hall hrun hpv=>exact .semF hne (fun x hx=>by rw[hev];exact hall x hx) (fun ev w hw h=>hrun ev w hw fun x hx=>by rw[<-hev];exact h x hx) hpv
 |lookG ho hr0 hs hrk hz hx hg hky hkeys =>
  rename_i T K V r rk kk x y rows z ok;rw[<-hev y];exact .lookG ho hr0 hs hrk hz (by
   rw[hev];rcases hx with hx|⟨k,g,c,h1,h2,h3,h4⟩
   .exact .inl hx
   .exact .inr ⟨k,g,c,h1,by rw[h.some (by rw[h2])];exact h2,h3,h4⟩) hg (by rw[hev];exact hky) hkeys
 |s2b ho hrs h1 hs hre hsh hx=>exact .s2b ho hrs h1 hs hre hsh (by rw[hev];exact hx)
 |b2s ho hrs h1 hs hre hsh hrd hl hx=>exact .b2s ho hrs h1 hs hre hsh hrd hl (by rw[hev];exact hx)
 |entry ho hx hown hk3 hrows=>exact .entry ho (by rw[hev];exact hx) (by rw[h.some (by rw[hown])];exact hown) hk3 hrows
 |mks ho h1 h2 h3 hz hsz hl hc h0 hb h63=>exact .mks ho h1 h2 h3 hz hsz (by rw[hev];exact hl) (by rw[hev];exact hc) h0 hb h63
 |slit ho h1 h2 h3 hz hsz hn hN hcells hp1 hp2 hkd =>
  rename_i T e r re n parts Pr;have e1:(parts.toList.map fun p=>(s.ev p.2).cells.map (dY 0))=parts.toList.map fun p=>(s'.ev p.2).cells.map (dY 0):=List.map_congr_left fun p _=>by rw[hev]
  have e2:(parts.toList.flatMap fun p=>(s.ev p.2).cells)=parts.toList.flatMap fun p=>(s'.ev p.2).cells:=by
   rw[List.flatMap_def,List.flatMap_def];congr 1;exact List.map_congr_left fun p _=>by rw[hev]
  rw[e1];exact .slit ho h1 h2 h3 hz hsz hn hN (fun p hp=>by rw[hev];exact hcells p hp) (by rw[<-e2];exact sQ h hp1) hp2 (by rw[<-e2];exact hkd)
 |slitD ho h1 h2 h3 hz hsz hn hN hcells hp1 hp2 hkd =>
  rename_i T e r re n parts Pr;have e1:(parts.toList.map fun p=>(s.ev p.2).cells.map (dY 1))=parts.toList.map fun p=>(s'.ev p.2).cells.map (dY 1):=List.map_congr_left fun p _=>by rw[hev]
  have e2:(parts.toList.flatMap fun p=>(s.ev p.2).cells)=parts.toList.flatMap fun p=>(s'.ev p.2).cells:=by
   rw[List.flatMap_def,List.flatMap_def];congr 1;exact List.map_congr_left fun p _=>by rw[hev]
  rw[e1];exact .slitD ho h1 h2 h3 hz hsz hn hN (fun p hp=>by rw[hev];exact hcells p hp) (by rw[<-e2];exact sQ h hp1) hp2 (by rw[<-e2];exact hkd)
def jV:Op->Bool
 |.move _ | .assign _ | .pick .. | .unOp .. | .extract ..=>true
 |.binOp _ _ _ y _=>!uO y
 |_=>false
def PV.isD:PV->Bool
 |.dref .. | .sl _ | .fsl _=>true
 |_=>false
def fE (s:St):Op->Bool
 |.load _ x=>(s.ev x).isD
 |.fieldAddr _ x _=>(s.ev x).isD
 |.indexAddr _ x _=>(s.ev x).isD
 |.call ⟨.builtin .min,⟨[_,_]⟩,_⟩=>true
 |.call ⟨.builtin .max,⟨[_,_]⟩,_⟩=>true
 |op=>jV op
theorem lJ {s s':St}{op:Op}(he:∀x∈op.operands,s.ev x=s'.ev x)(h:fE s op=true):fE s' op=true:=by
 cases op
 case call c =>
  obtain⟨callee,⟨args⟩,tys⟩:=c;cases callee
  case builtin b=>cases b<;>rcases args with _ | ⟨x,_ | ⟨y,_ | ⟨z,l⟩⟩⟩<;>exact h
  all_goals exact h
 all_goals
  simp only[Op.operands]at he;simp only[fE]at h ⊢;first
  |exact h
  |(rw[<-he _ ah];exact h)
def PV.isNil:PV->Bool
 |.nil=>true
 |_=>false
theorem QOp.free {o:Oper}{v:PV}(hf:jV o.op=true)(he:∀x∈o.op.operands,s.ev x=s'.ev x)(hq:QOp P L s o v):QOp P L s' o v:=by
 cases hq with
 |v hq hc =>
  refine .v ?_ hc;rw[<-hq];cases hop:o.op<;>rw[hop]at hf he<;>simp only[jV,Bool.false_eq_true]at hf<;>simp only[Op.operands]at he
  case move x=>simp only[qv,he x ah]
  case assign x=>simp only[qv,he x ah]
  case pick c x y=>simp only[qv,he c ah,he x ah,he y ah]
  case binOp op T x y T' =>
   have hn:uO y=false:=by cases hn:uO y<;>simp[hn]at hf ⊢
   simp only[qv,he x ah,he y ah,hn,cond_false]
  case unOp op T x=>simp only[qv,he x ah]
  case extract x i=>simp only[qv,he x ah]
 |seq ho hT hx hy hl =>
  rw[ho]at he;simp only[Op.operands]at he;exact .seq ho hT (by rw[<-he _ ah];exact hx) (by rw[<-he _ ah];exact hy) hl
 |idx ho=>rw[ho]at hf;cases hf
 |idxA ho=>rw[ho]at hf;cases hf
 |ldp ho=>rw[ho]at hf;cases hf
 |slc ho=>rw[ho]at hf;cases hf
 |slh ho=>rw[ho]at hf;cases hf
 |slg fr ho=>rw[ho]at hf;cases hf
 |slA ho=>rw[ho]at hf;cases hf
 |slE ho=>rw[ho]at hf;cases hf
 |call ho=>rw[ho]at hf;cases hf
 |callF ho=>rw[ho]at hf;cases hf
 |slit ho=>rw[ho]at hf;cases hf
 |slitD ho=>rw[ho]at hf;cases hf
 |mks ho=>rw[ho]at hf;cases hf
 |look ho=>rw[ho]at hf;cases hf
 |entry ho=>rw[ho]at hf;cases hf
 |sem hx h1 hrun hpv=>exact .sem (by rw[<-he _ (by rw[h1];simp)];exact hx) h1 hrun hpv
 |semF hne hall hrun hpv=>exact .semF hne (fun x hx=>by rw[<-he x hx];exact hall x hx) (fun ev w hw h=>hrun ev w hw fun x hx=>by rw[he x hx];exact h x hx) hpv
 |lookG ho=>rw[ho]at hf;cases hf
 |s2b ho=>rw[ho]at hf;cases hf
 |b2s ho=>rw[ho]at hf;cases hf
theorem QOp.free2 {o:Oper}{v:PV}(hf:fE s o.op=true)(he:∀x∈o.op.operands,s.ev x=s'.ev x)(hq:QOp P L s o v):QOp P L s' o v:=by
 by_cases hfree:jV o.op=true
 .exact QOp.free hfree he hq
 .cases hq with
  |v hq hc =>
   refine .v ?_ hc;rw[<-hq];cases hop:o.op
   case call c =>
    rw[hop]at hf he;obtain⟨callee,⟨args⟩,tys⟩:=c;unfold fE at hf;split at hf;any_goals (rename_i heq;cases heq;done)
    .rename_i heq;cases heq;rename_i x y;simp only[Op.operands,Call.operands]at he;simp only[qv,he x ah,he y ah]
    .rename_i heq;cases heq;rename_i x y;simp only[Op.operands,Call.operands]at he;simp only[qv,he x ah,he y ah]
    .simp only[jV]at hf;cases hf
   all_goals
    rw[hop]at hf he hfree;simp only[fE]at hf;simp only[Op.operands]at he;first
    |(exfalso;exact hfree hf)
    |(simp only[jV]at hf;cases hf)
    |skip
   case load T x =>
    have hx:=he x ah;rw[hx]at hf;simp only[qv,hx];generalize s'.ev x=y at hf;cases y<;>simp only[PV.isD,Bool.false_eq_true]at hf<;>rfl
   case fieldAddr T x f =>
    have hx:=he x ah;rw[hx]at hf;simp only[qv,hx];generalize s'.ev x=y at hf;cases y<;>simp only[PV.isD,Bool.false_eq_true]at hf<;>rfl
   case indexAddr T x i=>simp[qv]
  |seq ho=>rw[ho]at hf hfree;exact absurd hf hfree
  |idx ho hr hs hre hx hix h0 hrow hlen =>
   refine .idx ho hr hs hre (by rw[<-he _ (by rw[ho];simp[Op.operands])];exact hx) (by rw[<-he _ (by rw[ho];simp[Op.operands])];exact hix) h0 hrow hlen
  |idxA ho hr hs hre hx=>rw[ho]at hf;simp only[fE,hx,PV.isD]at hf;cases hf
  |ldp ho hr hx=>rw[ho]at hf;simp only[fE,hx,PV.isD]at hf;cases hf
  |slc ho=>rw[ho]at hf;cases hf
  |slh ho=>rw[ho]at hf;cases hf
  |slg fr ho=>rw[ho]at hf;cases hf
  |slA ho=>rw[ho]at hf;cases hf
  |slE ho=>rw[ho]at hf;cases hf
  |call ho=>rw[ho]at hf;cases hf
  |callF ho=>rw[ho]at hf;cases hf
  |slit ho=>rw[ho]at hf;cases hf
  |slitD ho=>rw[ho]at hf;cases hf
  |mks ho=>rw[ho]at hf;cases hf
  |look ho=>rw[ho]at hf;cases hf
  |entry ho=>rw[ho]at hf;cases hf
  |sem hx h1 hrun hpv=>exact .sem (by rw[<-he _ (by rw[h1];simp)];exact hx) h1 hrun hpv
  |semF hne hall hrun hpv=>exact .semF hne (fun x hx=>by rw[<-he x hx];exact hall x hx) (fun ev w hw h=>hrun ev w hw fun x hx=>by rw[he x hx];exact h x hx) hpv
  |lookG ho=>rw[ho]at hf;cases hf
  |s2b ho=>rw[ho]at hf;cases hf
  |b2s ho=>rw[ho]at hf;cases hf
end
end Go.Pv
namespace Go.Pv
open Go.RowKit
variable [Globs]
section
variable {P:Program}{L:Lay}{C:Ctx}{s:St}{a:Act}{w w':World}{ops:Array Oper}
theorem l7 {o:Oper}{d:Nat}{pv:PV}{s u s0 u0:St}(hd:o.dst=some d)(ho:s0.own=u0.own)(hs:s0.reg=s.reg)(hu:u0.reg=u.reg) :
  (s0.putR d pv).own=(u0.putR d pv).own/\(∀t,o.dst=some t->(s0.putR d pv).reg t=(u0.putR d pv).reg t)/\∀t,o.dst≠some t->(s0.putR d pv).reg t=s.reg t/\(u0.putR d pv).reg t=u.reg t:=by
 refine⟨ho,fun t ht=>?_,fun t ht=>?_⟩
 .have:d=t:=by rw[hd]at ht;exact Option.some.inj ht
  subst this;show(bif Nat.beq d d then pv else _)=(bif Nat.beq d d then pv else _);simp
 .have:t≠d:=fun e=>ht (by rw[e];exact hd);exact⟨by show(bif Nat.beq t d then pv else s0.reg t)=_;rw[bm this,hs];rfl,by show(bif Nat.beq t d then pv else u0.reg t)=_;rw[bm this,hu];rfl⟩
theorem Eff.congr {u s u':St}{o:Oper}(ho:u.own=s.own)(he:∀x∈o.op.operands,u.ev x=s.ev x)(h:Eff P L u o u') :
  ∃s',Eff P L s o s'/\s'.own=u'.own/\(∀t,o.dst=some t->s'.reg t=u'.reg t)/\∀t,o.dst≠some t->s'.reg t=s.reg t/\u'.reg t=u.reg t:=by
 have hfin:∀d c,(u.fin d c).own=(s.fin d c).own:=fun d c=>by simp only[St.fin,St.setOwn,ho]
 have key:∀ {d k:Nat} {c:Cont} {pv:PV},o.dst=some d->((s.fin k c).putR d pv).own=((u.fin k c).putR d pv).own/\(∀t,o.dst=some t->((s.fin k c).putR d pv).reg t=((u.fin k c).putR d pv).reg t) /\
   ∀t,o.dst≠some t->((s.fin k c).putR d pv).reg t=s.reg t/\((u.fin k c).putR d pv).reg t=u.reg t:=by
  intro d k c pv hd;refine⟨(hfin k c).symm,fun t ht=>?_,fun t ht=>?_⟩
  .have:d=t:=by rw[hd]at ht;exact Option.some.inj ht
   subst this;show(bif Nat.beq d d then pv else _)=(bif Nat.beq d d then pv else _);simp
  .have:t≠d:=fun e=>ht (by rw[e];exact hd);exact⟨by show(bif Nat.beq t d then pv else s.reg t)=_;rw[bm this];rfl,by show(bif Nat.beq t d then pv else u.reg t)=_;rw[bm this];rfl⟩
 cases h with
 |nils e sz kd h1 hd hx =>
  rename_i x d;have hx':s.ev x = .nil:=by rw[<-he x (by rcases h1 with h1|h1<;>rw[h1]<;>simp[Op.operands])];exact hx
  have hg:(u.own d).1=(s.own d).1:=by rw[ho]
  rw[hg];exact⟨_,.nils e sz kd h1 hd hx',key hd⟩
 |box h1 hd h2 h3 h0 =>
  rename_i T x d Pr;have hx:u.ev x=s.ev x:=he x (by rw[h1];simp[Op.operands]);have hg:(u.own d).1=(s.own d).1:=by rw[ho]
  rw[hg,hx];exact⟨_,.box h1 hd (by rw[<-hx,<-iu ho];exact h2) h3 (by rw[<-hx];exact h0),key hd⟩
 |alloc h1 hd hr hz h0 =>
  rename_i T r z d;have hg:(u.own d).1=(s.own d).1:=by rw[ho]
  rw[hg];exact⟨_,.alloc h1 hd hr hz h0,key hd⟩
 |store kd h1 hd hr hx hown hrow h2 h3 hsz hle hk hkd =>
  rename_i T r x y k g i j c row Pr;have hx':u.ev x=s.ev x:=he x (by rw[h1];simp[Op.operands]);have hy':u.ev y=s.ev y:=he y (by rw[h1];simp[Op.operands]);rw[hy'];refine⟨_,.store kd h1 hd hr (by rw[<-hx'];exact hx) (by rw[<-ho];exact hown) hrow (by rw[<-hy',<-iu ho];exact h2) h3 (by rw[<-hy'];exact hsz) hle hk (by rw[<-hy'];exact hkd),(by simp only[St.setOwn,ho]),fun t ht=>(by rw[hd]at ht;cases ht),fun t _=>⟨O,O⟩⟩
 |appN h1 hd hr hs hre hz hsz hx hq hc2 hlen hb h63 =>
  rename_i T e r re x y d rows2 k2 Cd2;have hx':u.ev x=s.ev x:=he x (by rw[h1];simp[Op.operands,Call.operands]);have hy':u.ev y=s.ev y:=he y (by rw[h1];simp[Op.operands,Call.operands]);have hg:(u.own d).1=(s.own d).1:=by rw[ho]
  have hsrc:kx s (s.ev y)=some (rows2,k2,Cd2):=by rw[<-hy',<-hq];cases u.ev y<;>simp only[kx,ho]
  rw[hg];exact⟨_,.appN h1 hd hr hs hre hz hsz (by rw[<-hx'];exact hx) hsrc hc2 hlen hb h63,key hd⟩
 |app kd h1 hd hr hs hre hz hsz hx hown hm hcs hct hq hc2 hlen hk1 hk2 hb h63 =>
  rename_i T e r re x y d k g c m rows2 k2 Cd2;have hx':u.ev x=s.ev x:=he x (by rw[h1];simp[Op.operands,Call.operands]);have hy':u.ev y=s.ev y:=he y (by rw[h1];simp[Op.operands,Call.operands]);have hsrc:kx s (s.ev y)=some (rows2,k2,Cd2):=by rw[<-hy',<-hq];cases u.ev y<;>simp only[kx,ho]
  exact⟨_,.app kd h1 hd hr hs hre hz hsz (by rw[<-hx'];exact hx) (by rw[<-ho];exact hown) hm hcs hct hsrc hc2 hlen hk1 hk2 hb h63,key hd⟩
 |make h1 hd hr hs hre hz hsz hl hc h0 hnm hb h63 =>
  rename_i T e r re l c kl kc n m z d;have hl':u.ev l=s.ev l:=he l (by rw[h1];simp[Op.operands]);have hc':u.ev c=s.ev c:=he c (by rw[h1];simp[Op.operands]);have hg:(u.own d).1=(s.own d).1:=by rw[ho]
  rw[hg];exact⟨_,.make h1 hd hr hs hre hz hsz (by rw[<-hl'];exact hl) (by rw[<-hc'];exact hc) h0 hnm hb h63,key hd⟩
 |slit kd h1 hd hr hs hre hz hsz hn hNs hcells h2 h3 hkd =>
  rename_i T e r re n d parts Pr;have hp:∀p∈parts.toList,u.ev p.2=s.ev p.2:=fun p hp=>he p.2 (by rw[h1];simp[Op.operands];exact⟨p.1,by simpa using hp⟩);have e1:(parts.toList.map fun p=>(u.ev p.2).cells.map (dY kd))=parts.toList.map fun p=>(s.ev p.2).cells.map (dY kd):=List.map_congr_left fun p h=>by rw[hp p h]
  have e2:(parts.toList.flatMap fun p=>(u.ev p.2).cells)=parts.toList.flatMap fun p=>(s.ev p.2).cells:=by
   rw[List.flatMap_def,List.flatMap_def];congr 1;exact List.map_congr_left fun p h=>by rw[hp p h]
  have hg:(u.own d).1=(s.own d).1:=by rw[ho]
  rw[hg,e1];exact⟨_,.slit kd h1 hd hr hs hre hz hsz hn hNs (fun p h=>by rw[<-hp p h];exact hcells p h) (by rw[<-e2,<-iu ho];exact h2) h3 (by rw[<-e2];exact hkd),key hd⟩
 |callO h1 hd hf hret hres hc =>
  rename_i fop args tys f caps pargs Cd b T sz d rows;have hg:(u.own d).1=(s.own d).1:=by rw[ho]
  have hf':u.ev fop=s.ev fop:=he fop (by rw[h1];simp[Op.operands,Call.operands]);have ha:args.toList.map u.ev=args.toList.map s.ev:=List.map_congr_left fun x hx=>he x (by rw[h1];simp[Op.operands,Call.operands];exact .inr (by simpa using hx));rw[hg];exact⟨_,.callO h1 hd (by rw[<-hf'];exact hf) hret (by rw[<-ha,show eZ s 4=eZ u 4 from(funext (s_ ho 4)).symm];exact hres) hc,key hd⟩
 |makeMap h1 hd =>
  rename_i T d;have hg:(u.own d).1=(s.own d).1:=by rw[ho]
  rw[hg];exact⟨_,.makeMap h1 hd,key hd⟩
 |mapOld h1 hd hr hs hrk hx hown hkd hky hkeys hm hrow hv =>
  rename_i T K V r rk x y k g i d c row v;have hx':u.ev x=s.ev x:=he x (by rw[h1];simp[Op.operands]);have hy':u.ev y=s.ev y:=he y (by rw[h1];simp[Op.operands]);exact⟨_,.mapOld h1 hd hr hs hrk (by rw[<-hx'];exact hx) (by rw[<-ho];exact hown) hkd (by rw[<-hy'];exact hky) hkeys (by rw[<-hy'];exact hm) hrow hv,l7 hd ho.symm O O⟩
 |mapNew h1 hd hr hs hrk hrv hz hz1 hx hown hkd hky hkeys hm =>
  rename_i T K V r rk rv x y k g d c z;have hx':u.ev x=s.ev x:=he x (by rw[h1];simp[Op.operands]);have hy':u.ev y=s.ev y:=he y (by rw[h1];simp[Op.operands]);rw[hy'];exact⟨_,.mapNew h1 hd hr hs hrk hrv hz hz1 (by rw[<-hx'];exact hx) (by rw[<-ho];exact hown) hkd (by rw[<-hy'];exact hky) hkeys (by rw[<-hy'];exact hm),l7 hd (by simp only[St.setOwn,ho]) O O⟩
 |entStore kd h1 hd hx hown hst hrow hk0 hk hk3 hkd =>
  rename_i T x st y k g i ki c row;have hx':u.ev x=s.ev x:=he x (by rw[h1];simp[Op.operands]);have hst':u.ev st=s.ev st:=he st (by rw[h1];simp[Op.operands]);have hy':u.ev y=s.ev y:=he y (by rw[h1];simp[Op.operands]);rw[hy'];exact⟨_,.entStore kd h1 hd (by rw[<-hx'];exact hx) (by rw[<-ho];exact hown) (by rw[<-hst'];exact hst) hrow hk0 hk hk3 (by rw[<-hy'];exact hkd),(by simp only[St.setOwn,ho]),fun t ht=>(by rw[hd]at ht;cases ht),fun t _=>⟨O,O⟩⟩
 |mapSet kd h1 hd hr hs hrk hx hown hk1 hk3 hky hkeys hkd =>
  rename_i T K V r rk x y v k g c;have hx':u.ev x=s.ev x:=he x (by rw[h1];simp[Op.operands]);have hy':u.ev y=s.ev y:=he y (by rw[h1];simp[Op.operands]);have hv':u.ev v=s.ev v:=he v (by rw[h1];simp[Op.operands]);rw[hy',hv'];exact⟨_,.mapSet kd h1 hd hr hs hrk (by rw[<-hx'];exact hx) (by rw[<-ho];exact hown) hk1 hk3 (by rw[<-hy'];exact hky) hkeys (by rw[<-hv'];exact hkd),(by simp only[St.setOwn,ho]),fun t ht=>(by rw[hd]at ht;cases ht),fun t _=>⟨O,O⟩⟩
 |mapSetG kd h1 hd hr hs hrk hx hown hk1 hk3 hg hky hkeys hkd =>
  rename_i T K V r rk kk x y v k g c;have hx':u.ev x=s.ev x:=he x (by rw[h1];simp[Op.operands]);have hy':u.ev y=s.ev y:=he y (by rw[h1];simp[Op.operands]);have hv':u.ev v=s.ev v:=he v (by rw[h1];simp[Op.operands]);rw[hy',hv'];exact⟨_,.mapSetG kd h1 hd hr hs hrk (by rw[<-hx'];exact hx) (by rw[<-ho];exact hown) hk1 hk3 hg (by rw[<-hy'];exact hky) hkeys (by rw[<-hv'];exact hkd),(by simp only[St.setOwn,ho]),fun t ht=>(by rw[hd]at ht;cases ht),fun t _=>⟨O,O⟩⟩
 |range h1 hd hr hs hx =>
  rename_i T K V r x rows d;have hx':u.ev x=s.ev x:=he x (by rw[h1];simp[Op.operands]);have hg:(u.own d).1=(s.own d).1:=by rw[ho]
  rw[hg];exact⟨_,.range h1 hd hr hs (by rw[<-hx'];exact hx),key hd⟩
theorem Dem.congr {u s:St}{o:Oper}{K:St->Prop}(ho:u.own=s.own)(he:∀x∈o.op.operands,u.ev x=s.ev x)(h:Dem P L u o K) :
  Dem P L s o fun s'=>∃u',K u'/\s'.own=u'.own/\(∀t,o.dst=some t->s'.reg t=u'.reg t)/\∀t,o.dst≠some t->s'.reg t=s.reg t/\u'.reg t=u.reg t:=by
 cases h with
 |next h1 hd hx hown hk3 hrows e0 e1 =>
  rename_i x k g d c last rem;have hx':u.ev x=s.ev x:=he x (by rw[h1];simp[Op.operands]);exact .next h1 hd (by rw[<-hx'];exact hx) (by rw[<-ho];exact hown) hk3 hrows (fun h=>⟨_,e0 h,l7 hd ho.symm O O⟩)
   (fun i ck cv h=>⟨_,e1 i ck cv h,l7 hd (by simp only[St.setOwn,ho]) O O⟩)
theorem gu {o:Oper}{s s':St}(he:∀t∈o.looksAt ops,s.reg t=s'.reg t):∀x∈o.op.operands,s.ev x=s'.ev x:=by
 intro x hx;cases x with
 |tmp t=>exact he t (List.mem_append_left _ (List.mem_filterMap.2 ⟨.tmp t,by simpa using hx,rfl⟩))
 |_=>rfl
theorem gM {listed:Array Bool}(hsz:listed.size=ops.size)(lex:∀i o,ops[i]? = some o->∀e∈o.after,Region.binds .any e=true->e.on<i){U:List Nat}(hmem:∀i,i∈U↔i<ops.size/\listed.getD i true=false)(hne:U≠[]) :
  Region.ready .any ops listed≠[]:=by
 obtain⟨i0,hi0,hmin⟩:∃i∈U,∀j∈U,i<=j:=by
  have hex:∃i,i∈U:=by
   cases U with
   |nil=>exact absurd rfl hne
   |cons u U'=>exact⟨u,ah⟩
  have hd':∀k,(∃i,i∈U/\i<=k)->∃i∈U,∀j∈U,i<=j:=by
   intro k
   induction k with
   |zero=>rintro⟨i,hi,h0⟩;exact⟨i,hi,fun j _=>by omega⟩
   |succ k ihk =>
    rintro⟨i,hi,hk⟩;by_cases hex:∃j,j∈U/\j<=k
    .exact ihk hex
    .refine⟨i,hi,fun j hj=>?_⟩;rcases Nat.lt_or_ge j i with h1|h1
     .exact absurd ⟨j,hj,J⟩ hex
     .exact h1
  obtain⟨i,hi⟩:=hex;exact hd' i ⟨i,hi,aP⟩
 have hu:=(hmem i0).1 hi0;have hr:i0∈Region.ready .any ops listed:=by
  refine mem_ready.2 ⟨hu.2,ops[i0]'hu.1,Array.getElem?_eq_getElem hu.1,fun e he hb=>?_⟩;have hlt:=lex i0 _ (Array.getElem?_eq_getElem hu.1) e he hb;cases hl:listed.getD e.on true with
  |false =>
   have:=hmin e.on ((hmem e.on).2 ⟨J,hl⟩);omega
  |true =>
   have h2:e.on<listed.size:=by rw[hsz];omega
   simp[h2]at hl ⊢;exact hl
 intro hnil;rw[hnil]at hr;cases hr
def n3 (ops:Array Oper)(n m:Nat)(ds F:List Nat):Bool :=
 decide (n+m<=ops.size)&&((ops.toList.take (n+m)).map (·.dst)==ds.map some)&&decide ds.Nodup &&
 ((List.range (n+m)).all fun i=>match ops[i]? with
  |some o=>(o.looksAt ops).all fun t=>(List.range (n+m)).all fun j=>!(ds[j]? == some t)||(decide (j<i)&&o.after.any fun e=>Region.binds .any e&&e.on==j)
  |none=>false) &&
 ((List.range ops.size).all fun i=>match ops[i]? with
  |some o=>o.after.all fun e=>!Region.binds .any e||decide (e.on<i)
  |none=>false) &&
 ((List.range m).all fun q=>match ops[n+q]? with
  |some o=>(match o.op with | .alloc _=>o.guard.isNone | _=>false)
  |none=>false) &&
 (decide (n+m=ops.size)||(List.range (n+m)).all fun i=>F.contains i||(List.range (n+m+1)).any fun j=>decide (i<j)&&(decide (j=n+m)||!F.contains j)&&Region.waitsFor .any ops j i) &&
 Region.chainB .any ops (n+m) &&
 (F.all fun i=>decide (i<n)&&match ops[i]? with
  |some o=>(List.range ops.size).all fun t=>decide (t<n+m)||match ops[t]? with
   |some ot=>!(ot.dst==o.dst)&&(match ot.dst with|some x=>!(o.looksAt ops).contains x||Region.waitsFor .any ops t i|none=>true)&&((match o.dst with|some d=>!(ot.looksAt ops).contains d|none=>true)||Region.waitsFor .any ops t i)
   |none=>false
  |none=>false)
structure Draw2Ok (ops:Array Oper) (n m:Nat) (ds F:List Nat):Prop where
 le:n+m<=ops.size
 dst:(ops.toList.take (n+m)).map (·.dst)=ds.map some
 nodup:ds.Nodup
 looks:∀i o,i<n+m->ops[i]? = some o->∀t∈o.looksAt ops,∀j,j<n+m->ds[j]? = some t->j<i/\∃e∈o.after,Region.binds .any e=true/\e.on=j
 lex:∀i o,ops[i]? = some o->∀e∈o.after,Region.binds .any e=true->e.on<i
 allocs:∀q,q<m->∃o T,ops[n+q]? = some o/\o.op = .alloc T/\o.guard=none
 sink:n+m<ops.size->∀i,i<n+m->i∉F->∃j,i<j/\j<=n+m/\(j=n+m\/j∉F)/\Region.waitsFor .any ops j i=true
 chain:∀t,n+m<t->t<ops.size->Region.waitsFor .any ops t (t-1)=true
 late:∀i∈F,i<n/\∃o,ops[i]? = some o/\∀t ot,n+m<=t->ops[t]? = some ot->ot.dst≠o.dst/\(∀x,ot.dst=some x->x∈o.looksAt ops->Region.waitsFor .any ops t i=true)/\∀d,o.dst=some d->d∈ot.looksAt ops->Region.waitsFor .any ops t i=true
theorem ss {n m:Nat}{ds F:List Nat}(h:n3 ops n m ds F=true):Draw2Ok ops n m ds F:=by
 simp only[n3,Bool.and_eq_true,decide_eq_true_eq,beq_iff_eq,Bool.or_eq_true]at h;obtain⟨⟨⟨⟨⟨⟨⟨⟨h1,h2⟩,h3⟩,h4⟩,h5⟩,h6⟩,h7⟩,h8⟩,h9⟩:=h;refine⟨h1,h2,h3,fun i o hi ho t ht j hj hd=>?_,fun i o ho e he hb=>?_,fun q hq=>?_,fun hlt i hi hF=>?_,fun t ht1 ht2=>?_,fun i hi=>?_⟩
 .have e1:=List.all_eq_true.1 h4 i (List.mem_range.2 hi);rw[ho]at e1;have e2:=List.all_eq_true.1 e1 t ht;have e3:=List.all_eq_true.1 e2 j (List.mem_range.2 hj);simp only[hd,beq_self_eq_true,Bool.not_true,Bool.false_or,Bool.and_eq_true,decide_eq_true_eq]at e3;obtain⟨e,he,hb⟩:=Array.any_eq_true'.1 e3.2;simp only[Bool.and_eq_true,beq_iff_eq]at hb;exact⟨e3.1,e,he,hb.1,hb.2⟩
 .have hi:i<ops.size:=(cD ho).1;have e1:=List.all_eq_true.1 h5 i (List.mem_range.2 hi);rw[ho]at e1;have e2:=Array.all_eq_true_iff_forall_mem.1 e1 e he;simpa [hb] using e2
 .have e1:=List.all_eq_true.1 h6 q (List.mem_range.2 hq);split at e1
  .rename_i o ho;split at e1
   .rename_i T hop;exact⟨o,T,ho,hop,by simpa using e1⟩
   .cases e1
  .cases e1
 .rcases h7 with h7|h7
  .omega
  .have e1:=List.all_eq_true.1 h7 i (List.mem_range.2 hi);simp only[Bool.or_eq_true]at e1;rcases e1 with e1|e1
   .exact absurd (by simpa using e1) hF
   .obtain⟨j,hj,hj2⟩:=List.any_eq_true.1 e1;simp only[Bool.and_eq_true,decide_eq_true_eq,Bool.or_eq_true]at hj2;refine⟨j,hj2.1.1,by have:=List.mem_range.1 hj;omega,hj2.1.2.imp id (fun h=>by simpa using h),hj2.2⟩
 .have e1:=List.all_eq_true.1 h8 t (List.mem_range.2 ht2);simp only[Bool.or_eq_true,decide_eq_true_eq]at e1;rcases e1 with e1|e1
  .omega
  .exact e1
 .have e1:=List.all_eq_true.1 h9 i hi;simp only[Bool.and_eq_true,decide_eq_true_eq]at e1;refine⟨e1.1,?_⟩;have e2:=e1.2;split at e2
  .rename_i o ho;refine⟨o,ho,fun t ot ht hot=>?_⟩;have htl:t<ops.size:=(cD hot).1;have e3:=List.all_eq_true.1 e2 t (List.mem_range.2 htl);rw[hot]at e3;simp only[Bool.or_eq_true,decide_eq_true_eq,Bool.and_eq_true]at e3;rcases e3 with e3|⟨⟨e3,e4⟩,e5⟩
   .omega
   .refine⟨by simpa using e3,fun x hx hxm=>?_,fun d hd hdm=>?_⟩
    .rw[hx]at e4;simp only[Bool.or_eq_true,Bool.not_eq_true',List.contains_eq_mem,decide_eq_false_iff_not]at e4;rcases e4 with e4|e4
     .exact absurd hxm e4
     .exact e4
    .rcases e5 with e5|e5
     .rw[hd]at e5;simp at e5;exact absurd hdm e5
     .exact e5
  .cases e2
end
end Go.Pv
namespace Go.Pv
open Go.RowKit
variable [Globs]
section
variable {P:Program}{L:Lay}{C:Ctx}{a:Act}{w w':World}{ops:Array Oper}
theorem kA {listed:Array Bool}(hmem:∀i,i∈([]:List Nat)↔i<ops.size/\listed.getD i true=false):Region.ready .any ops listed=[]:=by
 cases h:Region.ready .any ops listed with
 |nil=>rfl
 |cons i l =>
  exfalso;have hi:i∈Region.ready .any ops listed:=by rw[h];simp
  obtain⟨hun,o,ho,_⟩:=mem_ready.1 hi;have:=(hmem i).2 ⟨(cD ho).1,hun⟩;cases this
theorem gK {listed:Array Bool}{i:Nat}(h:i<listed.size):listed.getD i true=listed.getD i false:=by simp[h]
theorem bR (s:St)(d:Option Nat)(v:PV):(s.put d v).own=s.own:=by cases d<;>rfl
def Jp (ops:Array Oper)(t i:Nat):Bool:=Region.waitsFor .any ops t i||(List.range ops.size).any fun j=>Region.waitsFor .any ops t j&&Region.waitsFor .any ops j i
def MV (ops:Array Oper)(n m:Nat)(full:St)(ot:Oper):Prop :=
 (∃x,(ot.op = .assign x\/ot.op = .move x)/\full.ev x ≠ .nil)/\∀x∈ot.looksAt ops,∀(q:Nat) (oq:Oper),n+m<=q->ops[q]? = some oq->oq.dst≠some x
theorem Ab (hG:Good P L C){n m:Nat}{ds F:List Nat}(hd:Draw2Ok ops n m ds F){K':St->Prop}{Q:Exit->Act->World->Prop}(hK:∀s' a' w',SimE C s' a' w'->K' s'->Q .normal a' w')
  (hN:∀o∈ops.toList,b9 C.N o.dst=true) {full s0:St} {vs:List PV}
  (hdi:∀i o,i<n+m->ops[i]? = some o->∃d,ds[i]? = some d/\o.dst=some d) (hole:OwnLe s0 full)
  (hv:∀i∈F,∀o,ops[i]? = some o->∃v sf,vs[i]? = some v/\Yld P L ops sf o v/\(∀t∈o.looksAt ops,sf.reg t=full.reg t)/\(∀d,ds[i]? = some d->full.reg d=v)/\sf.own=s0.own/\(fE full o.op=true\/∀t ot,n+m<=t->ops[t]? = some ot->Jp ops t i=true\/MV ops n m full ot)) :
  ∀(f:Nat) (U:List Nat) (listed:Array Bool) (p:Nat) (u s:St) (a:Act) (w:World),U.length=f->U.Nodup->(∀i,i∈U↔i<ops.size/\listed.getD i true=false)->listed.size=ops.size ->
   (∀i,i<n+m->i∉F->listed.getD i true=true)->(∀t,n+m<=t->t<ops.size->(listed.getD t true=true↔t<n+m+p))->POps P L ops K' (ops.toList.drop (n+m+p)) u ->
   (∀t,(∀q ot,n+m<=q->q<n+m+p->ops[q]? = some ot->ot.dst≠some t)->u.reg t=full.reg t)->s.own=u.own->(∀t,(∀i∈F,listed.getD i true=false->ds[i]? ≠ some t)->s.reg t=u.reg t) ->
   ((∀q oq,n+m<=q->q<n+m+p->ops[q]? = some oq->MV ops n m full oq)->u.own=full.own) ->
   (∀i o,ops[i]? = some o->listed.getD i true=true->∀e∈o.after,Region.binds .any e=true->listed.getD e.on true=true)->SimE C s a w ->
   wpAny P .any ops Q f listed a w:=by
 intro f
 induction f with
 |zero =>
  intro U listed p u s a w hU _ hmem hsz hhead htail hops _ hown hreg _ _ h;have hU0:U=[]:=List.eq_nil_of_length_eq_zero hU;subst hU0;have hall:∀i,i<ops.size->listed.getD i true=true:=fun i hi=>by
   cases hb:listed.getD i true with
   |true=>rfl
   |false=>have:=(hmem i).2 ⟨hi,hb⟩;cases this
  refine⟨kA hmem,?_⟩;have hge:ops.size<=n+m+p:=by
   rcases Nat.lt_or_ge (n+m+p) ops.size with h1|h1
   .have:=(htail (n+m+p) J h1).1 (hall _ h1);omega
   .exact h1
  rw[List.drop_eq_nil_of_le (by simpa using hge)]at hops;have hsu:s=u:=St.ext' (funext fun t=>hreg t fun i hi hl _=>by
   have:=hall i (by have:=(hd.late i hi).1;have:=hd.le;omega)
   rw[this]at hl;cases hl) hown
  rw[hsu]at h;exact hK _ _ _ h hops
 |succ f ih =>
  intro U listed p u s a w hU hnd hmem hsz hhead htail hops hfull hown hreg hown0 hcl h;refine⟨fun hnil=>absurd hnil (gM hsz hd.lex hmem (by intro e;rw[e]at hU;simp at hU)),fun i hi=>?_⟩;obtain⟨hun,o,ho,hall⟩:=mem_ready.1 hi;have hisz:i<ops.size:=(cD ho).1;have hUi:i∈U:=(hmem i).2 ⟨hisz,hun⟩;have hil:i<listed.size:=J;have hmem':∀k,k∈U.erase i↔k<ops.size/\(listed.setIfInBounds i true).getD k true=false:=fun k=>by
   rw[hnd.mem_erase_iff,hmem k];by_cases hki:k=i
   .subst hki;simp[hil]
   .rw[getD_set_ne true (Ne.symm hki)];exact⟨fun x=>x.2,fun x=>⟨hki,x⟩⟩
  have hset:∀k,(listed.setIfInBounds i true).getD k true=(if k=i then true else listed.getD k true):=fun k=>by
   by_cases hki:k=i
   .subst hki;simp[hil]
   .rw[getD_set_ne true (Ne.symm hki),if_neg hki]
  have hlen':(U.erase i).length=f:=by rw[List.length_erase_of_mem hUi];omega
  have hNo:b9 C.N o.dst=true:=hN o (by have:=Array.mem_of_getElem? ho;simpa using this);have hdone:∀j,Region.waitsFor .any ops i j=true->listed.getD j true=true:=by
   intro j hj;obtain⟨oj,hoj,e,he,hb,hon⟩:=Region.waitsFor_spec hj;rw[ho]at hoj;have hoj:=Option.some.inj hoj;subst hoj;have h1:=hall e he hb;have h2:=hd.lex i o ho e he hb;rw[hon]at h1 h2;rw[gK J];exact h1
  have hcl':∀k o',ops[k]? = some o'->(listed.setIfInBounds i true).getD k true=true->∀e∈o'.after,Region.binds .any e=true->(listed.setIfInBounds i true).getD e.on true=true:=by
   intro k o' ho' hk e he hb;rw[hset]at hk ⊢;split
   .rfl
   .by_cases hki:k=i
    .subst hki;rw[ho]at ho';have ho':=Option.some.inj ho';subst ho';have h1:=hall e he hb;have h2:=hd.lex k o ho e he hb;rw[gK J];exact h1
    .rw[if_neg hki]at hk;exact hcl k o' ho' hk e he hb
  by_cases hin:i<n+m
  ·
   have hiF:i∈F:=by
    by_cases hF:i∈F
    .exact hF
    .have:=hhead i hin hF;rw[this]at hun;cases hun
   obtain⟨hn',o',ho',hfl⟩:=hd.late i hiF;rw[ho]at ho';have ho':=Option.some.inj ho';subst ho';obtain⟨d,hdd,hod⟩:=hdi i o hin ho;obtain⟨v,sf,_,hy,hsf,hfd,hso,hda⟩:=hv i hiF o ho;have hnt:∀t∈o.looksAt ops,∀q ot,n+m<=q->q<n+m+p->ops[q]? = some ot->ot.dst≠some t:=fun t ht q ot hq hqp hot e=>by
    have hw:=(hfl q ot hq hot).2.1 t e ht;obtain⟨oj,hoj,e',he',hb',hon'⟩:=Region.waitsFor_spec hw;have hqs:q<ops.size:=(cD hot).1;have:=hcl q oj hoj ((htail q hq hqs).2 hqp) e' he' hb';rw[hon',hun]at this;cases this
   have hsame:∀t∈o.looksAt ops,sf.reg t=s.reg t:=fun t ht=>by
    rw[hsf t ht,hreg t,hfull t (hnt t ht)];intro j hj hl hjt;obtain⟨hji,e,he,hb,hon⟩:=hd.looks i o hin ho t ht j (by have:=(hd.late j hj).1;omega) hjt;have:=hall e he hb;rw[hon]at this;rw[gK J,this]at hl;cases hl
   have hyl:Yld P L ops s o v:=by
    rcases hy with⟨h1,h2⟩|⟨h1,h2⟩
    .refine .inl ⟨h1.congr hsame,?_⟩;rcases hda with hda|hda
     .exact h2.free2 (lJ (fun x hx=>(gu hsf x hx).symm) hda) (gu hsame)
     .have huo:u.own=full.own:=hown0 fun q oq hq hqp hoq=>by
       rcases hda q oq hq hoq with hw|hmv
       .have hqs:q<ops.size:=(cD hoq).1;rw[Jp,Bool.or_eq_true,List.any_eq_true]at hw;rcases hw with hw|⟨j2,_,hw⟩
        .obtain⟨oj,hoj,e',he',hb',hon'⟩:=Region.waitsFor_spec hw;have:=hcl q oj hoj ((htail q hq hqs).2 hqp) e' he' hb';rw[hon',hun]at this;cases this
        .rw[Bool.and_eq_true]at hw;obtain⟨oj,hoj,e',he',hb',hon'⟩:=Region.waitsFor_spec hw.1;have h3:=hcl q oj hoj ((htail q hq hqs).2 hqp) e' he' hb';rw[hon']at h3;obtain⟨oj2,hoj2,e2,he2,hb2,hon2⟩:=Region.waitsFor_spec hw.2;have:=hcl j2 oj2 hoj2 h3 e2 he2 hb2;rw[hon2,hun]at this;cases this
       .exact hmv
      have g3:QOp P L ⟨s.reg,s0.own⟩ o v:=QOp.congr (s':=⟨s.reg,s0.own⟩) hso (gu (s':=⟨s.reg,s0.own⟩) hsame) h2;have hle:OwnLe ⟨s.reg,s0.own⟩ s:=by
       intro k;rcases hole k with hk|hk
       .left;show s.own k=s0.own k;rw[hown,huo];exact hk
       .exact .inr hk
      exact g3.le hle O
    .exact .inr ⟨h1.congr hsame,h2⟩
   have hnext:∀a' w',SimE C (s.put o.dst v) a' w'->wpAny P .any ops Q f (listed.setIfInBounds i true) a' w':=by
    intro a' w' h';refine ih (U.erase i) _ p u _ a' w' hlen' (hnd.erase i) hmem' (by simp[hsz]) (fun k hk hkF=>?_) (fun t ht1 ht2=>?_) hops hfull (by rw[hod];exact hown) (fun t hnot=>?_) hown0 hcl' h'
    .rw[hset];split
     .rfl
     .exact hhead k hk hkF
    .rw[hset,if_neg J];exact htail t ht1 ht2
    .rw[hod];show(bif Nat.beq t d then v else s.reg t)=_;by_cases htd:t=d
     .subst htd;have hnd':∀q ot,n+m<=q->q<n+m+p->ops[q]? = some ot->ot.dst≠some t:=fun q ot hq _ hot e=>(hfl q ot hq hot).1 (by rw[e,hod]);rw[hfull t hnd',hfd t hdd];simp
     .rw[bm htd];refine hreg t fun j hj hl hjt=>?_;have hji:j≠i:=by
       intro e;subst e;rw[hdd]at hjt;exact htd (Option.some.inj hjt).symm
      exact hnot j hj (by rw[hset,if_neg hji];exact hl) hjt
   unfold wpOp;rw[ho];simp only;rcases hyl with⟨hw,hq⟩|⟨hw,hq⟩
   .rw[if_pos (hw.spec h)];exact .inl (hq.wp hG h hNo hnext)
   .rw[if_neg (by rw[hw.spec h];simp)];refine hnext _ _ ?_;rw[hq];exact h.put hNo undef
  ·
   have hip:i=n+m+p:=by
    have h1:¬i<n+m+p:=fun hlt=>by
     have:=(htail i J hisz).2 hlt;rw[this]at hun;cases hun
    rcases Nat.lt_or_ge (n+m+p) i with h2|h2
    .have h3:=hdone (i-1) (hd.chain i J hisz);have:=(htail (i-1) J J).1 h3;omega
    .omega
   have hdrop:ops.toList.drop (n+m+p)=o::ops.toList.drop (n+m+(p+1)):=by
    rw[List.drop_eq_getElem_cons aU];congr 1;have:ops[n+m+p]? = some o:=by rw[<-hip];exact ho
    obtain⟨hl,he⟩:=cD this;simpa using he
   rw[hdrop]at hops;have hsame:∀t∈o.looksAt ops,u.reg t=s.reg t:=fun t ht=>by
    refine(hreg t fun j hj hl hjt=>?_).symm;obtain⟨_,oj,hoj,hfl⟩:=hd.late j hj;obtain⟨d,hdd,hod⟩:=hdi j oj (by have:=(hd.late j hj).1;omega) hoj;rw[hdd]at hjt;have hjt:=Option.some.inj hjt;subst hjt;have:=hdone j ((hfl i o J ho).2.2 d hod ht);rw[this]at hl;cases hl
   have hnext:∀u' s',POps P L ops K' (ops.toList.drop (n+m+(p+1))) u'->s'.own=u'.own->(∀t,o.dst=some t->s'.reg t=u'.reg t)->(∀t,o.dst≠some t->s'.reg t=s.reg t/\u'.reg t=u.reg t)->(MV ops n m full o->u'.own=u.own) ->
     ∀a' w',SimE C s' a' w'->wpAny P .any ops Q f (listed.setIfInBounds i true) a' w':=by
    intro u' s' hops' hown' hr1 hr2 hU a' w' h';refine ih (U.erase i) _ (p+1) u' s' a' w' hlen' (hnd.erase i) hmem' (by simp[hsz]) (fun k hk hkF=>?_) (fun t ht1 ht2=>?_) hops' (fun t hnt=>?_) hown' (fun t hnot=>?_) (fun hall'=>(hU (hall' i o J J ho)).trans (hown0 fun q oq h1 h2 h3=>hall' q oq h1 J h3)) hcl' h'
    .rw[hset,if_neg J];exact hhead k hk hkF
    .rw[hset];by_cases hti:t=i
     .rw[if_pos hti];simp;omega
     .rw[if_neg hti,htail t ht1 ht2];omega
    .have hne:o.dst≠some t:=hnt i o J J ho;rw[(hr2 t hne).2];exact hfull t fun q ot h1 h2 h3=>hnt q ot h1 J h3
    .by_cases hot:o.dst=some t
     .exact hr1 t hot
     .rw[(hr2 t hot).1,(hr2 t hot).2];exact hreg t fun j hj hl=>hnot j hj (by rw[hset,if_neg (by have:=(hd.late j hj).1;omega)];exact hl)
   have hmvn:∀ {u':St},MV ops n m full o->Eff P L u o u'->False:=by
    intro u' hmv he;obtain⟨⟨x,hx,hxn⟩,hnw⟩:=hmv;have hxe:u.ev x=full.ev x:=by
     have hmem:x∈o.op.operands:=by rcases hx with hx|hx<;>rw[hx]<;>simp[Op.operands]
     exact gu (ops:=ops) (s:=u) (s':=full) (o:=o) (fun t ht=>hfull t fun q oq h1 _ h3=>hnw t ht q oq h1 h3) x hmem
    cases he with
    |nils e sz kd ho' hd' hx' =>
     rename_i x' d;have:x'=x:=by rcases hx with hx|hx<;>rcases ho' with ho'|ho'<;>rw[hx]at ho'<;>cases ho'<;>rfl
     subst this;exact hxn (by rw[<-hxe];exact hx')
    |box ho'=>rcases hx with hx|hx<;>rw[hx]at ho'<;>cases ho'
    |alloc ho'=>rcases hx with hx|hx<;>rw[hx]at ho'<;>cases ho'
    |store kd ho'=>rcases hx with hx|hx<;>rw[hx]at ho'<;>cases ho'
    |appN ho'=>rcases hx with hx|hx<;>rw[hx]at ho'<;>cases ho'
    |app kd ho'=>rcases hx with hx|hx<;>rw[hx]at ho'<;>cases ho'
    |make ho'=>rcases hx with hx|hx<;>rw[hx]at ho'<;>cases ho'
    |callO ho'=>rcases hx with hx|hx<;>rw[hx]at ho'<;>cases ho'
    |slit kd ho'=>rcases hx with hx|hx<;>rw[hx]at ho'<;>cases ho'
    |makeMap ho'=>rcases hx with hx|hx<;>rw[hx]at ho'<;>cases ho'
    |mapOld ho'=>rcases hx with hx|hx<;>rw[hx]at ho'<;>cases ho'
    |mapNew ho'=>rcases hx with hx|hx<;>rw[hx]at ho'<;>cases ho'
    |entStore kd ho'=>rcases hx with hx|hx<;>rw[hx]at ho'<;>cases ho'
    |mapSet kd ho'=>rcases hx with hx|hx<;>rw[hx]at ho'<;>cases ho'
    |mapSetG kd ho'=>rcases hx with hx|hx<;>rw[hx]at ho'<;>cases ho'
    |range ho'=>rcases hx with hx|hx<;>rw[hx]at ho'<;>cases ho'
   have hput:∀v,(s.put o.dst v).own=(u.put o.dst v).own/\(∀t,o.dst=some t->(s.put o.dst v).reg t=(u.put o.dst v).reg t)/\∀t,o.dst≠some t->(s.put o.dst v).reg t=s.reg t/\(u.put o.dst v).reg t=u.reg t:=by
    intro v;cases hdst:o.dst with
    |none=>exact⟨hown,fun t ht=>by(cases ht),fun t _=>⟨rfl,rfl⟩⟩
    |some d =>
     refine⟨hown,fun t ht=>?_,fun t ht=>?_⟩
     .have:=Option.some.inj ht;subst this;show(bif Nat.beq d d then v else _)=(bif Nat.beq d d then v else _);simp
     .have:t≠d:=fun e=>ht (by rw[e]);exact⟨by show(bif Nat.beq t d then v else s.reg t)=_;rw[bm this];rfl,by show(bif Nat.beq t d then v else u.reg t)=_;rw[bm this];rfl⟩
   unfold wpOp;rw[ho];simp only;rcases hops with⟨hw,hp⟩|⟨hw,hp⟩
   .have hw':=hw.congr hsame;rw[if_pos (hw'.spec h)];refine .inl ?_;rcases hp with⟨v,hq,hk⟩|⟨u',hq,hk⟩|hq
    .obtain⟨g1,g2,g3⟩:=hput v;exact(hq.congr hown.symm (gu hsame)).wp hG h hNo fun a' w' h'=>hnext _ _ hk g1 g2 g3 (fun _=>bR u _ _) a' w' h'
    .obtain⟨s',hq',g1,g2,g3⟩:=hq.congr hown.symm (gu hsame);exact hq'.sound hG.lay hG.x hG.glob h hNo fun a' w' h'=>hnext _ _ hk g1 g2 g3 (fun hmv=>(hmvn hmv hq).elim) a' w' h'
    .exact(hq.congr hown.symm (gu hsame)).sound h hNo fun s' a' w' h' ⟨u',hk,g1,g2,g3⟩=>hnext _ _ hk g1 g2 g3 (fun hmv=>by
      exfalso;obtain⟨⟨x,hx,_⟩,_⟩:=hmv;cases hq with
      |next ho'=>rcases hx with hx|hx<;>rw[ho']at hx<;>cases hx) a' w' h'
   .have hw':=hw.congr hsame;rw[if_neg (by rw[hw'.spec h];simp)];obtain⟨g1,g2,g3⟩:=hput (.raw undef);exact hnext _ _ hp g1 g2 g3 (fun _=>bR u _ _) _ _ (h.put hNo undef)
def cM:List (Nat × Cont)->St->St
 |[],s=>s
 |(d,c)::l,s=>cM l ((s.fin d c).putR d (.ptr d ((s.own d).1+1) 0 0))
theorem vf {s s':St}(h:s.reg=s'.reg):∀l,(fx l s).reg=(fx l s').reg
 |[]=>h
 |(d,v)::l=>vf (by funext t;show(bif Nat.beq t d then v else s.reg t)=(bif Nat.beq t d then v else s'.reg t);rw[h]) l
theorem ns:∀(l:List (Nat × Cont)) (s:St),(l.map (·.1)).Nodup->(cM l s).reg=(fx (l.map fun p=>(p.1,.ptr p.1 ((s.own p.1).1+1) 0 0)) s).reg /\
  (∀k c,(k,c)∈l->(cM l s).own k=((s.own k).1+1,some c))/\∀k,k∉l.map (·.1)->(cM l s).own k=s.own k
 |[],s,_=>⟨rfl,fun k c h=>(by cases h),fun k _=>rfl⟩
 |(d,c)::l,s,hn=>by
  simp only[List.map_cons,List.nodup_cons]at hn;obtain⟨h1,h2,h3⟩:=ns l ((s.fin d c).putR d (.ptr d ((s.own d).1+1) 0 0)) hn.2;have hne:∀k,k≠d->((s.fin d c).putR d (.ptr d ((s.own d).1+1) 0 0)).own k=s.own k:=fun k hk=>by show(s.fin d c).own k=_;rw[St.fin,aF hk]
  have heq:((s.fin d c).putR d (.ptr d ((s.own d).1+1) 0 0)).own d=((s.own d).1+1,some c):=by show(s.fin d c).own d=_;rw[St.fin,ak]
  refine⟨?_,fun k c' hk=>?_,fun k hk=>?_⟩
  .rw[cM,h1,List.map_cons,fx];have:(l.map fun p=>((p.1,PV.ptr p.1 ((((s.fin d c).putR d (.ptr d ((s.own d).1+1) 0 0)).own p.1).1+1) 0 0):Nat × PV))=l.map fun p=>(p.1,PV.ptr p.1 ((s.own p.1).1+1) 0 0) :=
    List.map_congr_left fun p hp=>by rw[hne p.1 fun e=>hn.1 (by rw[<-e];exact List.mem_map_of_mem hp)]
   rw[this];exact vf (by rfl) _
  .rcases List.mem_cons.1 hk with hk|hk
   .have e1:k=d:=congrArg (·.1) hk;have e2:c'=c:=congrArg (·.2) hk;subst e1;subst e2;rw[cM,h3 k hn.1,heq]
   .have:k≠d:=fun e=>hn.1 (by rw[<-e];exact List.mem_map.2 ⟨_,hk,O⟩);rw[cM,h2 k c' hk,hne k this]
  .simp only[List.map_cons,List.mem_cons,not_or]at hk;rw[cM,h3 k hk.2,hne k hk.1]
def yb (L:Lay)(o:Oper)(c:Cont):Prop:=∃T r z,o.op = .alloc T/\L T=some r/\r.zero=some z/\0<z.length/\c=⟨T,z.length,[z],2⟩
theorem oD {K:St->Prop}{tl:List Oper}:∀(l:List Oper) (ds:List Nat) (s:St),(∀o∈l,∃T,o.op = .alloc T/\o.guard=none)->l.map (·.dst)=ds.map some->POps P L ops K (l++tl) s ->
  ∃cs:List Cont,cs.length=ds.length/\(∀(k:Nat) (o:Oper) (c:Cont),l[k]? = some o->cs[k]? = some c->yb L o c)/\POps P L ops K tl (cM (ds.zip cs) s)
 |[],ds,s,_,hds,h=>by
  have:ds=[]:=by simpa using hds.symm
  subst this;exact⟨[],O,fun k o c hk=>by simp at hk,h⟩
 |o::l,ds,s,hal,hds,h=>by
  cases ds with
  |nil=>simp at hds
  |cons d ds =>
   simp only[List.map_cons,List.cons.injEq]at hds;obtain⟨T,hop,hg⟩:=hal o ah;have main:POp P L s o (POps P L ops K (l++tl)):=by
    rcases h with⟨_,h⟩|⟨hw,_⟩
    .exact h
    .exfalso;cases hw with
     |no h=>rw[hg]at h;cases h
     |junk h=>rw[hg]at h;cases h
   rcases main with⟨v,hq,_⟩|⟨s',he,hk⟩|hdem
   .exfalso;cases hq with
    |v hq=>rw[hop]at hq;simp[qv]at hq
    |seq ho=>rw[hop]at ho;cases ho
    |idx ho=>rw[hop]at ho;cases ho
    |idxA ho=>rw[hop]at ho;cases ho
    |ldp ho=>rw[hop]at ho;cases ho
    |slc ho=>rw[hop]at ho;cases ho
    |slh ho=>rw[hop]at ho;cases ho
    |slg fr ho=>rw[hop]at ho;cases ho
    |slA ho=>rw[hop]at ho;cases ho
    |slE ho=>rw[hop]at ho;cases ho
    |call ho=>rw[hop]at ho;cases ho
    |callF ho=>rw[hop]at ho;cases ho
    |slit ho=>rw[hop]at ho;cases ho
    |slitD ho=>rw[hop]at ho;cases ho
    |mks ho=>rw[hop]at ho;cases ho
    |look ho=>rw[hop]at ho;cases ho
    |sem hx ho=>rw[hop]at ho;simp[Op.operands]at ho
    |semF hne=>rw[hop]at hne;exact hne rfl
    |lookG ho=>rw[hop]at ho;cases ho
    |s2b ho=>rw[hop]at ho;cases ho
    |b2s ho=>rw[hop]at ho;cases ho
    |entry ho=>rw[hop]at ho;cases ho
   .cases he with
    |alloc ho hd hr hz h0 =>
     rename_i T' r z d';rw[hds.1]at hd;have hd:=Option.some.inj hd;subst hd;obtain⟨cs,h1,h2,h3⟩:=oD l ds _ (fun o' ho'=>hal o' (by simp[ho'])) hds.2 hk;refine⟨⟨T',z.length,[z],2⟩::cs,by simp[h1],fun k o' c hk' hc=>?_,h3⟩;cases k with
     |zero =>
      simp at hk' hc;subst hk';subst hc;exact⟨T',r,z,ho,hr,hz,h0,O⟩
     |succ k=>exact h2 k o' c (by simpa using hk') (by simpa using hc)
    |nils e sz kd ho=>rcases ho with ho|ho<;>rw[hop]at ho<;>cases ho
    |box ho=>rw[hop]at ho;cases ho
    |store kd ho=>rw[hop]at ho;cases ho
    |appN ho=>rw[hop]at ho;cases ho
    |app kd ho=>rw[hop]at ho;cases ho
    |make ho=>rw[hop]at ho;cases ho
    |callO ho=>rw[hop]at ho;cases ho
    |slit kd ho=>rw[hop]at ho;cases ho
    |makeMap ho=>rw[hop]at ho;cases ho
    |mapOld ho=>rw[hop]at ho;cases ho
    |mapNew ho=>rw[hop]at ho;cases ho
    |entStore kd ho=>rw[hop]at ho;cases ho
    |range ho=>rw[hop]at ho;cases ho
    |mapSet kd ho=>rw[hop]at ho;cases ho
    |mapSetG kd ho=>rw[hop]at ho;cases ho
   .exfalso;cases hdem with
    |next ho=>rw[hop]at ho;cases ho
structure Agr2 (ds:List Nat) (vs:List PV) (cs:List Cont) (n m:Nat) (listed:Array Bool) (s0 s:St):Prop where
 hit:∀t j,j<n+m->listed.getD j true=true->ds[j]? = some t->vs[j]? = some (s.reg t)
 miss:∀t,(∀j,j<n+m->listed.getD j true=true->ds[j]? ≠ some t)->s.reg t=s0.reg t
 own1:∀k,(∀j,n<=j->j<n+m->listed.getD j true=true->ds[j]? ≠ some k)->s.own k=s0.own k
 own2:∀j k,n<=j->j<n+m->listed.getD j true=true->ds[j]? = some k->s.own k=((s0.own k).1+1,cs[j-n]?)
theorem Cu (hG:Good P L C){n m:Nat}{ds F:List Nat}(hd:Draw2Ok ops n m ds F){K':St->Prop}{Q:Exit->Act->World->Prop}(hK:∀s' a' w',SimE C s' a' w'->K' s'->Q .normal a' w')
  (hN:∀o∈ops.toList,b9 C.N o.dst=true) {s0 full:St} {vs:List PV} {cs:List Cont}
  (hdi:∀i o,i<n+m->ops[i]? = some o->∃d,ds[i]? = some d/\o.dst=some d) (hinj:∀(i j t:Nat),ds[i]? = some t->ds[j]? = some t->i=j)
  (hnone:∀j k,n<=j->j<n+m->ds[j]? = some k->(s0.own k).2=none)
  (hy:∀i o,i<n->ops[i]? = some o->∃v sf,vs[i]? = some v/\Yld P L ops sf o v/\sf.own=s0.own/\(∀t j,j<i->ds[j]? = some t->vs[j]? = some (sf.reg t))/\∀t,(∀j,j<i->ds[j]? ≠ some t)->sf.reg t=s0.reg t)
  (ha:∀i o,n<=i->i<n+m->ops[i]? = some o->∃c d,cs[i-n]? = some c/\yb L o c/\o.guard=none/\ds[i]? = some d/\vs[i]? = some (.ptr d ((s0.own d).1+1) 0 0))
  (hf1:∀t j,j<n+m->ds[j]? = some t->vs[j]? = some (full.reg t)) (hf2:∀t,(∀j,j<n+m->ds[j]? ≠ some t)->full.reg t=s0.reg t)
  (hf3:∀k,(∀j,n<=j->j<n+m->ds[j]? ≠ some k)->full.own k=s0.own k) (hf4:∀j k,n<=j->j<n+m->ds[j]? = some k->full.own k=((s0.own k).1+1,cs[j-n]?))
  (hend:POps P L ops K' (ops.toList.drop (n+m)) full) (hfda:∀i∈F,∀o,ops[i]? = some o->fE full o.op=true\/∀t ot,n+m<=t->ops[t]? = some ot->Jp ops t i=true\/MV ops n m full ot) :
  ∀(f:Nat) (U:List Nat) (listed:Array Bool) (s:St) (a:Act) (w:World),U.length=f->U.Nodup->(∀i,i∈U↔i<ops.size/\listed.getD i true=false)->listed.size=ops.size ->
   (∀t,n+m<=t->t<ops.size->listed.getD t true=false)->(∀i o,ops[i]? = some o->listed.getD i true=true->∀e∈o.after,Region.binds .any e=true->listed.getD e.on true=true) ->
   Agr2 ds vs cs n m listed s0 s->SimE C s a w->wpAny P .any ops Q f listed a w:=by
 have hole:OwnLe s0 full:=by
  intro k;by_cases hx:∃j,n<=j/\j<n+m/\ds[j]? = some k
  .obtain⟨j,g1,g2,g3⟩:=hx;exact .inr (hnone j k g1 g2 g3)
  .exact .inl (hf3 k fun j g1 g2 g3=>hx ⟨j,g1,g2,g3⟩)
 have late:∀(f:Nat) (U:List Nat) (listed:Array Bool) (s:St) (a:Act) (w:World),U.length=f->U.Nodup->(∀i,i∈U↔i<ops.size/\listed.getD i true=false)->listed.size=ops.size ->
   (∀t,n+m<=t->t<ops.size->listed.getD t true=false)->Agr2 ds vs cs n m listed s0 s->SimE C s a w->(∀i,i<n+m->i∉F->listed.getD i true=true) ->
   (∀i o,ops[i]? = some o->listed.getD i true=true->∀e∈o.after,Region.binds .any e=true->listed.getD e.on true=true)->wpAny P .any ops Q f listed a w:=by
  intro f U listed s a w hU hnd hmem hsz htail agr h hall hcl;refine Ab hG hd hK hN (full:=full) (s0:=s0) (vs:=vs) hdi hole (fun i hi o ho=>?_) f U listed 0 full s a w hU hnd hmem hsz hall (fun t h1 h2=>?_) hend (fun t _=>rfl) ?_ (fun t hnot=>?_) (fun _=>rfl) hcl h
  .have hin:=(hd.late i hi).1;obtain⟨v,sf,h1,h2,h3,h4,h5⟩:=hy i o hin ho;refine⟨v,sf,h1,h2,fun t ht=>?_,fun d hdd=>?_,h3,hfda i hi o ho⟩
   .by_cases hx:∃j,j<n+m/\ds[j]? = some t
    .obtain⟨j,hj,hjt⟩:=hx;obtain⟨hji,_⟩:=hd.looks i o J ho t ht j hj hjt;have e1:=h4 t j hji hjt;have e2:=hf1 t j hj hjt;rw[e1]at e2;exact Option.some.inj e2
    .rw[h5 t fun j hj hjt=>hx ⟨j,J,hjt⟩,hf2 t fun j hj hjt=>hx ⟨j,hj,hjt⟩]
   .have e2:=hf1 d i J hdd;rw[h1]at e2;exact(Option.some.inj e2).symm
  .rw[htail t h1 h2];simp;omega
  .funext k;by_cases hx:∃j,n<=j/\j<n+m/\ds[j]? = some k
   .obtain⟨j,h1,h2,h3⟩:=hx;rw[agr.own2 j k h1 h2 (hall j h2 fun hF=>by have:=(hd.late j hF).1;omega) h3,hf4 j k h1 h2 h3]
   .rw[agr.own1 k fun j h1 h2 _ h3=>hx ⟨j,h1,h2,h3⟩,hf3 k fun j h1 h2 h3=>hx ⟨j,h1,h2,h3⟩]
  .by_cases hx:∃j,j<n+m/\ds[j]? = some t
   .obtain⟨j,h1,h2⟩:=hx;have hl:listed.getD j true=true:=by
     by_cases hF:j∈F
     .cases hl:listed.getD j true with
      |true=>rfl
      |false=>exact absurd h2 (hnot j hF hl)
     .exact hall j h1 hF
    have e1:=agr.hit t j h1 hl h2;have e2:=hf1 t j h1 h2;rw[e1]at e2;exact Option.some.inj e2
   .rw[agr.miss t fun j h1 _ h2=>hx ⟨j,h1,h2⟩,hf2 t fun j h1 h2=>hx ⟨j,h1,h2⟩]
 intro f
 induction f with
 |zero =>
  intro U listed s a w hU hnd hmem hsz htail hclosed agr h;refine late 0 U listed s a w hU hnd hmem hsz htail agr h (fun i hi _=>?_) hclosed;have hU0:U=[]:=List.eq_nil_of_length_eq_zero hU;subst hU0;cases hb:listed.getD i true with
  |true=>rfl
  |false=>have:=(hmem i).2 ⟨by have:=hd.le;omega,hb⟩;cases this
 |succ f ih =>
  intro U listed s a w hU hnd hmem hsz htail hclosed agr h;by_cases hall:∀i,i<n+m->i∉F->listed.getD i true=true
  .exact late (f+1) U listed s a w hU hnd hmem hsz htail agr h hall hclosed
  have hex:∃i0,i0<n+m/\i0∉F/\listed.getD i0 true=false:=by
   refine Classical.byContradiction fun hx=>hall fun i hi hF=>?_;cases hb:listed.getD i true with
   |true=>rfl
   |false=>exact absurd ⟨i,hi,hF,hb⟩ hx
  refine⟨fun hnil=>absurd hnil (gM hsz hd.lex hmem (by intro e;rw[e]at hU;simp at hU)),fun i hi=>?_⟩;obtain⟨hun,o,ho,hallE⟩:=mem_ready.1 hi;have hisz:i<ops.size:=(cD ho).1;have hwait:∀j,Region.waitsFor .any ops i j=true->listed.getD j true=true:=by
   intro j hj;obtain⟨oj,hoj,e,he,hb,hon⟩:=Region.waitsFor_spec hj;rw[ho]at hoj;have hoj:=Option.some.inj hoj;subst hoj;have h1:=hallE e he hb;have h2:=hd.lex i o ho e he hb;rw[hon]at h1 h2;rw[gK J];exact h1
  have hin:i<n+m:=by
   rcases Nat.lt_or_ge i (n+m) with h1|h1
   .exact h1
   .exfalso;by_cases hit:i=n+m
    ·
     obtain⟨i0,h2,h3,h4⟩:=hex;have climb:∀(g j:Nat),n+m-j=g->j<n+m->j∉F->listed.getD j true=false->False:=by
      intro g
      induction g using Nat.strongRecOn with
      |_ g ihg =>
       intro j hg hj hF hl;obtain⟨j',h5,h6,h7,h8⟩:=hd.sink J j hj hF;by_cases hj':j'=n+m
       .have:=hwait j (by rw[hit,<-hj'];exact h8);rw[this]at hl;cases hl
       .have hF':j'∉F:=h7.resolve_left hj';cases hb:listed.getD j' true with
        |false=>exact ihg (n+m-j') J j' rfl J hF' hb
        |true =>
         obtain⟨oj,hoj,e,he,hbd,hon⟩:=Region.waitsFor_spec h8;have:=hclosed j' oj hoj hb e he hbd;rw[hon]at this;rw[this]at hl;cases hl
     exact climb _ i0 O h2 h3 h4
    .have h2:=hwait (i-1) (hd.chain i J hisz);rw[htail (i-1) J J]at h2;cases h2
  obtain⟨d,hdd,hod⟩:=hdi i o hin ho;have hUi:i∈U:=(hmem i).2 ⟨hisz,hun⟩;have hil:i<listed.size:=J;have hset:∀k,(listed.setIfInBounds i true).getD k true=(if k=i then true else listed.getD k true):=fun k=>by
   by_cases hki:k=i
   .subst hki;simp[hil]
   .rw[getD_set_ne true (Ne.symm hki),if_neg hki]
  have hNo:b9 C.N o.dst=true:=hN o (by have:=Array.mem_of_getElem? ho;simpa using this);have hgo:∀s' a' w',Agr2 ds vs cs n m (listed.setIfInBounds i true) s0 s'->SimE C s' a' w'->wpAny P .any ops Q f (listed.setIfInBounds i true) a' w':=by
   intro s' a' w' agr' h';refine ih (U.erase i) _ s' a' w' (by rw[List.length_erase_of_mem hUi];omega) (hnd.erase i) (fun k=>?_) (by simp[hsz]) (fun t h1 h2=>?_) (fun k ok hok hl e he hb=>?_) agr' h'
   .rw[hnd.mem_erase_iff,hmem k,hset];by_cases hki:k=i
    .subst hki;simp
    .simp[hki]
   .rw[hset,if_neg J];exact htail t h1 h2
   .rw[hset]at hl ⊢;split
    .rfl
    .by_cases hki:k=i
     .subst hki;rw[ho]at hok;have hok:=Option.some.inj hok;subst hok;have h1:=hallE e he hb;have h2:=hd.lex k o ho e he hb;rw[gK J];exact h1
     .rw[if_neg hki]at hl;exact hclosed k ok hok hl e he hb
  have hagr:∀v s',vs[i]? = some v->(∀t,s'.reg t=if t=d then v else s.reg t)->(i<n->s'.own=s.own)->(n<=i->(∀k,k≠d->s'.own k=s.own k)/\s'.own d=((s0.own d).1+1,cs[i-n]?))->Agr2 ds vs cs n m (listed.setIfInBounds i true) s0 s':=by
   intro v s' hv hreg ho1 ho2;have hself:(listed.setIfInBounds i true).getD i true=true:=by rw[hset,if_pos O]
   refine⟨fun t j hj hl hjt=>?_,fun t hm=>?_,fun k hm=>?_,fun j k h1 h2 hl hjk=>?_⟩
   .rw[hreg];by_cases htd:t=d
    .subst htd;rw[if_pos O,hinj j i t hjt hdd];exact hv
    .rw[if_neg htd];have hji:j≠i:=by
      intro e;subst e;rw[hdd]at hjt;exact htd (Option.some.inj hjt).symm
     rw[hset,if_neg hji]at hl;exact agr.hit t j hj hl hjt
   .have htd:t≠d:=by
     intro e;subst e;exact hm i hin hself hdd
    rw[hreg,if_neg htd];refine agr.miss t fun j hj hl hjt=>hm j hj ?_ hjt;rw[hset];split
    .rfl
    .exact hl
   .have hs':s'.own k=s.own k:=by
     rcases Nat.lt_or_ge i n with h1|h1
     .rw[ho1 h1]
     .refine(ho2 h1).1 k fun e=>?_;subst e;exact hm i h1 hin hself hdd
    rw[hs'];refine agr.own1 k fun j h1 h2 hl hjk=>hm j h1 h2 ?_ hjk;rw[hset];split
    .rfl
    .exact hl
   .by_cases hji:j=i
    .subst hji;rw[hdd]at hjk;have hjk:=Option.some.inj hjk;subst hjk;exact(ho2 h1).2
    .rw[hset,if_neg hji]at hl;have hkd:k≠d:=by
      intro e;subst e;exact hji (hinj j i k hjk hdd)
     have hs':s'.own k=s.own k:=by
      rcases Nat.lt_or_ge i n with h1|h1
      .rw[ho1 h1]
      .exact(ho2 h1).1 k hkd
     rw[hs'];exact agr.own2 j k h1 h2 hl hjk
  have hputr:∀v t,(s.put o.dst v).reg t=if t=d then v else s.reg t:=by
   intro v t;rw[hod];show(bif Nat.beq t d then v else s.reg t)=_;by_cases htd:t=d
   .subst htd;simp
   .rw[bm htd,if_neg htd];rfl
  unfold wpOp;rw[ho];simp only;rcases Nat.lt_or_ge i n with hq|hq
  .obtain⟨v,sf,h1,h2,h3,h4,h5⟩:=hy i o hq ho;have hsame:∀t∈o.looksAt ops,sf.reg t=s.reg t:=by
    intro t ht;by_cases hx:∃j,j<n+m/\ds[j]? = some t
    .obtain⟨j,hj,hjt⟩:=hx;obtain⟨hji,e,he,hb,hon⟩:=hd.looks i o hin ho t ht j hj hjt;have hl:listed.getD j true=true:=by
      have:=hallE e he hb;rw[hon]at this;rw[gK J];exact this
     have e1:=agr.hit t j hj hl hjt;have e2:=h4 t j hji hjt;rw[e1]at e2;exact(Option.some.inj e2).symm
    .rw[h5 t fun j hj hjt=>hx ⟨j,J,hjt⟩,agr.miss t fun j hj _ hjt=>hx ⟨j,hj,hjt⟩]
   have hown:OwnLe ⟨s.reg,s0.own⟩ s:=by
    intro k;by_cases hx:∃j,n<=j/\j<n+m/\ds[j]? = some k
    .obtain⟨j,g1,g2,g3⟩:=hx;exact .inr (hnone j k g1 g2 g3)
    .exact .inl (agr.own1 k fun j g1 g2 _ g3=>hx ⟨j,g1,g2,g3⟩)
   have hnext:∀a' w',SimE C (s.put o.dst v) a' w'->wpAny P .any ops Q f (listed.setIfInBounds i true) a' w':=fun a' w' h' =>
    hgo _ a' w' (hagr v _ h1 (hputr v) (fun _=>by rw[hod];rfl) (fun g=>by omega)) h'
   rcases h2 with⟨g1,g2⟩|⟨g1,g2⟩
   .have g1':=g1.congr hsame;rw[if_pos (g1'.spec h)];have g3:QOp P L ⟨s.reg,s0.own⟩ o v:=QOp.congr (s':=⟨s.reg,s0.own⟩) h3 (gu (s':=⟨s.reg,s0.own⟩) hsame) g2;exact .inl ((g3.le hown O).wp hG h hNo hnext)
   .have g1':=g1.congr hsame;rw[if_neg (by rw[g1'.spec h];simp)];refine hnext _ _ ?_;rw[g2];exact h.put hNo undef
  .obtain⟨c,d',h1,⟨T,r,z,h2,h3,h4,h5,h6⟩,h7,h8,h9⟩:=ha i o hq hin ho;rw[hdd]at h8;have h8:=Option.some.inj h8;subst h8;have hown:s.own d=s0.own d:=agr.own1 d fun j g1 g2 gl g3=>by
    have:=hinj j i d g3 hdd;subst this;rw[hun]at gl;cases gl
   have hw:Wants ops s o true := .none h7;rw[if_pos (hw.spec h)];have he:Eff P L s o ((s.fin d ⟨T,z.length,[z],2⟩).putR d (.ptr d ((s.own d).1+1) 0 0)) := .alloc h2 hod h3 h4 h5;refine .inl (he.sound hG.lay hG.x hG.glob h hNo fun a' w' h'=>hgo _ a' w' (hagr _ _ h9 (fun t=>?_) (fun g=>by omega) fun _=>⟨fun k hk=>?_,?_⟩) h')
   .show(bif Nat.beq t d then _ else s.reg t)=_;by_cases htd:t=d
    .subst htd;simp[hown]
    .rw[bm htd,if_neg htd];rfl
   .show(s.fin d _).own k=_;rw[St.fin,aF hk]
   .show(s.fin d _).own d=_;rw[St.fin,ak,hown,h1,h6]
def FD (ops:Array Oper)(nm:Nat)(F:List Nat)(s:St):Bool:=F.all fun i=>match ops[i]? with
 |some o=>fE s o.op||(List.range ops.size).all fun t=>decide (t<nm)||Jp ops t i||(match ops[t]? with
  |some ot=>(match ot.op with | .assign x=>!(s.ev x).isNil | .move x=>!(s.ev x).isNil | _=>false)&&(ot.looksAt ops).all fun x=>(List.range ops.size).all fun q=>decide (q<nm)||!((ops[q]?).bind (·.dst)==some x)
  |none=>false)
 |none=>false
def PDraw2 (P:Program)(L:Lay)(ops:Array Oper)(K:St->Prop)(s:St):Prop :=
 ∃n m ds F,n3 ops n m ds F=true/\(∀d∈ds.drop n,(s.own d).2=none)/\PQuiet P L ops (fun s'=>FD ops (n+m) F s'=true/\POps P L ops K (ops.toList.drop n) s') (ops.toList.take n) s
theorem PDraw2.sound (hG:Good P L C){K':St->Prop}{Q:Exit->Act->World->Prop}(hK:∀s' a' w',SimE C s' a' w'->K' s'->Q .normal a' w')(hN:∀o∈ops.toList,b9 C.N o.dst=true){s:St}
  (h:SimE C s a w) (hq:PDraw2 P L ops K' s):wpAny P .any ops Q ops.size (Array.replicate ops.size false) a { w with drawn:=w.drawn+1 }:=by
 obtain⟨n,m,ds,F,hok,hnone,hq⟩:=hq;have hd:=ss hok;have hle:=hd.le;have hdl:ds.length=n+m:=by
  have:=congrArg List.length hd.dst;simp at this;omega
 have hdi:∀i o,i<n+m->ops[i]? = some o->∃d,ds[i]? = some d/\o.dst=some d:=by
  intro i o hi ho;have h1:i<ds.length:=J;refine⟨ds[i],List.getElem?_eq_getElem h1,?_⟩;have h2:((ops.toList.take (n+m)).map (·.dst))[i]? = (ds.map some)[i]? := by rw[hd.dst]
  rw[List.getElem?_map,List.getElem?_map,List.getElem?_take,if_pos hi,List.getElem?_eq_getElem h1]at h2;have h3:ops.toList[i]? = some o:=by simpa using ho
  rw[h3]at h2;simpa using h2
 have hinj:∀(i j t:Nat),ds[i]? = some t->ds[j]? = some t->i=j:=by
  intro i j t h1 h2;have e1:=(bb h1).2;have e2:=(bb h2).2;exact(List.getElem_inj hd.nodup).1 (e1.trans e2.symm)
 have hdst1:(ops.toList.take n).map (·.dst)=(ds.take n).map some:=by
  have:=congrArg (List.take n) hd.dst;rwa [<-List.map_take,<-List.map_take,List.take_take,Nat.min_eq_left (Nat.le_add_right n m)]at this
 have hdst2:((ops.toList.drop n).take m).map (·.dst)=(ds.drop n).map some:=by
  have:=congrArg (List.drop n) hd.dst;rwa [<-List.map_drop,<-List.map_drop,List.drop_take,Nat.add_sub_cancel_left]at this
 obtain⟨vs1,h1,h2,hFD,h3⟩:=PQuiet.ylds _ (ds.take n) s hdst1 hq;have hv1:vs1.length=n:=by rw[h1,List.length_take];omega
 have hsplit:ops.toList.drop n=(ops.toList.drop n).take m++ops.toList.drop (n+m):=by
  rw[<-List.drop_drop,List.take_append_drop]
 rw[hsplit]at h3;have hget:∀q,q<m->((ops.toList.drop n).take m)[q]? = ops[n+q]? := fun q hq=>by
  rw[List.getElem?_take,if_pos hq,List.getElem?_drop];simp
 obtain⟨cs,g1,g2,g3⟩:=oD ((ops.toList.drop n).take m) (ds.drop n) _ (fun o ho=>by
  obtain⟨q,hql,rfl⟩:=List.getElem_of_mem ho;have hqm:q<m:=by simp at hql;omega
  obtain⟨o',T,e1,e2,e3⟩:=hd.allocs q hqm;have:=hget q hqm;rw[List.getElem?_eq_getElem hql,e1]at this;have:=Option.some.inj this
  rw[this];exact⟨T,e2,e3⟩) hdst2 h3
 have hcl:cs.length=m:=by rw[g1,List.length_drop];omega
 have hnod1:(ds.take n).Nodup:=hd.nodup.sublist (List.take_sublist _ _);have hnod2:(ds.drop n).Nodup:=hd.nodup.sublist (List.drop_sublist _ _);have hz1:((ds.take n).zip vs1).map (·.1)=ds.take n:=by rw[List.map_fst_zip J]
 have hz2:((ds.drop n).zip cs).map (·.1)=ds.drop n:=by rw[List.map_fst_zip (by rw[g1];exact aP)]
 let q0:=fx ((ds.take n).zip vs1) s;have hq0:q0.own=s.own:=gy _ _;obtain⟨a1,a2,a3⟩:=ns ((ds.drop n).zip cs) q0 (by rw[hz2];exact hnod2);have hpt:(((ds.drop n).zip cs).map fun p=>((p.1,PV.ptr p.1 ((q0.own p.1).1+1) 0 0):Nat × PV))=(ds.drop n).map fun d=>(d,PV.ptr d ((s.own d).1+1) 0 0):=by
  conv=>rhs;rw[<-hz2]
  rw[List.map_map];exact List.map_congr_left fun p _=>by simp[hq0]
 rw[hpt]at a1;have hdd:∀j t,n<=j->((ds.drop n)[j-n]? = some t↔ds[j]? = some t):=fun j t hj=>by rw[List.getElem?_drop,Nat.add_sub_cancel' hj]
 have before:∀(i t:Nat),i<=n->(∀j,j<i->ds[j]? = some t->vs1[j]? = some ((fx (((ds.take n).zip vs1).take i) s).reg t))/\((∀j,j<i->ds[j]? ≠ some t)->(fx (((ds.take n).zip vs1).take i) s).reg t=s.reg t):=by
  intro i t hi;refine⟨fun j hj hjt=>?_,fun hm=>eu _ _ _ fun p hp e=>?_⟩
  .have hjv:j<vs1.length:=J;rw[List.getElem?_eq_getElem hjv];congr 1;refine(gx _ s j t vs1[j] ?_ ?_).symm
   .rw[List.getElem?_take,if_pos hj];refine mz h1 ?_ (List.getElem?_eq_getElem hjv);rw[List.getElem?_take,if_pos J];exact hjt
   .rw[List.map_take,hz1];exact hnod1.sublist (List.take_sublist _ _)
  .obtain⟨j,hj,rfl⟩:=List.getElem_of_mem hp;simp at hj;refine hm j J ?_;rw[<-e];simp
 have hfull:((ds.take n).zip vs1).take n=(ds.take n).zip vs1:=List.take_of_length_le aU;have before':=fun t=>before n t (Nat.le_refl n);rw[hfull]at before';have ptrs:∀j t,n<=j->ds[j]? = some t->(cM ((ds.drop n).zip cs) q0).reg t = .ptr t ((s.own t).1+1) 0 0:=by
  intro j t hj hjt;rw[a1];refine gx _ q0 (j-n) t _ ?_ (by rw[List.map_map,show((fun x:Nat × PV=>x.1)∘fun d:Nat=>(d,PV.ptr d ((s.own d).1+1) 0 0))=_root_.id from O,List.map_id];exact hnod2);rw[List.getElem?_map,(hdd j t hj).2 hjt];rfl
 have olds:∀t,(∀j,n<=j->ds[j]? ≠ some t)->(cM ((ds.drop n).zip cs) q0).reg t=q0.reg t:=by
  intro t hm;rw[a1];refine eu _ _ _ fun p hp e=>?_;obtain⟨d,hdm,rfl⟩:=List.mem_map.1 hp;obtain⟨j,hj,hje⟩:=List.getElem_of_mem hdm;refine hm (n+j) J ?_;have:(ds.drop n)[j]? = some d:=by rw[List.getElem?_eq_getElem hj,hje]
  rw[List.getElem?_drop]at this;rw[this,<-e]
 have hfda:∀i∈F,∀o,ops[i]? = some o->fE (cM ((ds.drop n).zip cs) q0) o.op=true\/∀t ot,n+m<=t->ops[t]? = some ot->Jp ops t i=true\/MV ops n m (cM ((ds.drop n).zip cs) q0) ot:=by
  intro i hi o ho;have e1:=List.all_eq_true.1 hFD i hi;rw[ho]at e1;simp only[Bool.or_eq_true]at e1;rcases e1 with e1|e1
  case inr =>
   refine .inr fun t ot ht hot=>?_;have htl:t<ops.size:=(cD hot).1;have e2:=List.all_eq_true.1 e1 t (List.mem_range.2 htl);rw[hot]at e2;simp only[Bool.or_eq_true,decide_eq_true_eq,Bool.and_eq_true]at e2;rcases e2 with(e2|e2)|⟨e2,e3⟩
   .omega
   .exact .inl e2
   .have hnw:∀x∈ot.looksAt ops,∀(q:Nat) (oq:Oper),n+m<=q->ops[q]? = some oq->oq.dst≠some x:=by
     intro x hx q oq hq hoq he;have hql:q<ops.size:=(cD hoq).1;have e4:=List.all_eq_true.1 (List.all_eq_true.1 e3 x hx) q (List.mem_range.2 hql);rw[hoq]at e4;simp only[Option.bind_some,he,beq_self_eq_true,Bool.not_true,Bool.or_false,decide_eq_true_eq]at e4;omega
    have hev:∀x∈ot.op.operands,PV.isNil (q0.ev x)=false->(cM ((ds.drop n).zip cs) q0).ev x ≠ .nil:=by
     intro x hx hn' he;cases x with
     |tmp tx =>
      by_cases hal:∃j,n<=j/\ds[j]? = some tx
      .obtain⟨j,hj,hjt⟩:=hal;have hp:(cM ((ds.drop n).zip cs) q0).reg tx=_:=ptrs j tx hj hjt;rw[show(cM ((ds.drop n).zip cs) q0).ev (.tmp tx)=(cM ((ds.drop n).zip cs) q0).reg tx from O,hp]at he;cases he
      .have ho':(cM ((ds.drop n).zip cs) q0).reg tx=q0.reg tx:=olds tx fun j hj hjt=>hal ⟨j,hj,hjt⟩;rw[show(cM ((ds.drop n).zip cs) q0).ev (.tmp tx)=(cM ((ds.drop n).zip cs) q0).reg tx from O,ho']at he;rw[show q0.ev (.tmp tx)=q0.reg tx from O,he]at hn';cases hn'
     |const c =>
      have he:q0.ev (.const c) = .nil:=he;rw[he]at hn';cases hn'
     |global g=>cases he
     |func f=>cases he
    refine .inr ⟨?_,hnw⟩;split at e2
    .rename_i x hop;exact⟨x,.inl hop,hev x (by rw[hop];simp[Op.operands]) (by simpa using e2)⟩
    .rename_i x hop;exact⟨x,.inr hop,hev x (by rw[hop];simp[Op.operands]) (by simpa using e2)⟩
    .cases e2
  have hin:=(hd.late i hi).1;refine .inl (lJ (gu (ops:=ops) fun t ht=>(olds t fun j hj hjt=>?_).symm) e1);have hjl:j<n+m:=by have:=(bb hjt).1;omega
  have:=(hd.looks i o J ho t ht j hjl hjt).1;omega
 obtain⟨γ,h⟩:=h;have hrep:∀(j:Nat) (d:Bool),(Array.replicate ops.size false).getD j d=if j<ops.size then false else d:=by
  intro j d;by_cases hj:j<ops.size
  .simp[hj]
  .simp[hj]
 refine Cu hG hd (Q:=Q) hK hN (s0:=s) (full:=cM ((ds.drop n).zip cs) q0) (vs:=vs1++(ds.drop n).map fun d => .ptr d ((s.own d).1+1) 0 0) (cs:=cs) hdi hinj
  (fun j k hj1 hj2 hjk=>hnone k (bc ((hdd j k hj1).2 hjk))) (fun i o hi ho=>?_) (fun i o hi1 hi2 ho=>?_) (fun t j hj hjt=>?_) (fun t hm=>?_) (fun k hm=>?_) (fun j k hj1 hj2 hjk=>?_) g3 hfda
  ops.size (List.range ops.size) (Array.replicate ops.size false) s a _ ah List.nodup_range (fun i=>by
   rw[List.mem_range,hrep];constructor
   .intro hi;exact⟨hi,by rw[if_pos hi]⟩
   .exact fun x=>x.1)
  ah (fun t _ ht2=>by rw[hrep,if_pos ht2]) (fun i o ho hl=>by rw[hrep,if_pos (cD ho).1]at hl;cases hl)
  ⟨fun t j hj hl=>(by rw[hrep,if_pos J]at hl;cases hl),fun _ _=>rfl,fun _ _=>rfl,fun j k _ hj hl=>(by rw[hrep,if_pos J]at hl;cases hl)⟩ ⟨γ,h.ext (f7 w)⟩
 .have hiv:i<vs1.length:=J;have hti:(ops.toList.take n)[i]? = some o:=by rw[List.getElem?_take,if_pos hi];simpa using ho
  refine⟨vs1[i],_,?_,h2 i o vs1[i] hti (List.getElem?_eq_getElem hiv),gy _ _,fun t j hj hjt=>?_,fun t hm=>(before i t J).2 hm⟩
  .rw[List.getElem?_append_left hiv];exact List.getElem?_eq_getElem hiv
  .rw[List.getElem?_append_left J];exact(before i t J).1 j hj hjt
 .obtain⟨d,hdd',hod⟩:=hdi i o hi2 ho;have hic:i-n<cs.length:=J;obtain⟨o',T,e1,e2,e3⟩:=hd.allocs (i-n) J;have hin:n+(i-n)=i:=J;rw[hin,ho]at e1;have e1:=Option.some.inj e1;subst e1;refine⟨cs[i-n],d,List.getElem?_eq_getElem hic,g2 (i-n) o _ (by rw[hget (i-n) J,hin];exact ho) (List.getElem?_eq_getElem hic),e3,hdd',?_⟩;rw[List.getElem?_append_right J,hv1,List.getElem?_map,(hdd i d hi1).2 hdd'];rfl
 .rcases Nat.lt_or_ge j n with hjn|hjn
  .rw[List.getElem?_append_left J,olds t fun j' hj' hjt'=>by have:=hinj j j' t hjt hjt';omega];exact(before' t).1 j hjn hjt
  .rw[List.getElem?_append_right J,hv1,List.getElem?_map,(hdd j t hjn).2 hjt,ptrs j t hjn hjt];rfl
 .rw[olds t fun j hj hjt=>hm j (by have:=(bb hjt).1;omega) hjt];exact(before' t).2 fun j hj=>hm j J
 .rw[a3 k fun hk=>?_,hq0];rw[hz2]at hk;obtain⟨j,hj,hje⟩:=List.getElem_of_mem hk;have:(ds.drop n)[j]? = some k:=by rw[List.getElem?_eq_getElem hj,hje]
  rw[List.getElem?_drop]at this;exact hm (n+j) J (by simp at hj;omega) this
 .have hic:j-n<cs.length:=J;rw[a2 k cs[j-n] ?_,hq0,List.getElem?_eq_getElem hic];refine bc (i:=j-n) ?_;rw[List.getElem?_zip_eq_some];exact⟨(hdd j k hj1).2 hjk,List.getElem?_eq_getElem hic⟩
end
end Go.Pv
namespace Go.Pv
open Go.RowKit
variable [Globs]
def eH:List Nat->Nat->Bool
 |[],_=>false
 |z::Z,k=>bif Nat.beq k z then true else eH Z k
def St.erase (Z:List Nat)(s:St):St:={ s with own:=fun k=>bif eH Z k then((s.own k).1,none) else s.own k }
section
variable {P:Program}{L:Lay}{C:Ctx}{a:Act}{w w':World}{ops:Array Oper}
inductive Step3 (P:Program) (L:Lay) (ops:Array Oper) (Z:List Nat):Bool->St->Oper->St->Prop
 |no {c:Bool} {s:St} {o:Oper} (h:Wants ops s o false):Step3 P L ops Z c s o (s.put o.dst (.raw undef))
 |free {s:St} {o:Oper} {v:PV} (h:Wants ops s o true) (hq:QOp P L (s.erase Z) o v):Step3 P L ops Z false s o (s.put o.dst v)
 |quiet {s:St} {o:Oper} {v:PV} (h:Wants ops s o true) (hq:QOp P L s o v):Step3 P L ops Z true s o (s.put o.dst v)
 |eff {s s':St} {o:Oper} (h:Wants ops s o true) (he:Eff P L s o s') (hz:∀k,eH Z k=false->s'.own k=s.own k):Step3 P L ops Z true s o s'
def P3 (P:Program)(L:Lay)(ops:Array Oper)(Z:Nat->List Nat)(cls:Nat->Bool)(K:St->Prop):Nat->List Oper->St->Prop
 |_,[],s=>K s
 |i,o::rest,s=>∃s',Step3 P L ops (Z i) (cls i) s o s'/\P3 P L ops Z cls K (i+1) rest s'
theorem P3.run {Z:Nat->List Nat}{cls:Nat->Bool}{K:St->Prop}:∀(l:List Oper) (i:Nat) (s:St),P3 P L ops Z cls K i l s->∃S:Nat->St,S 0=s/\(∀(j:Nat) (o:Oper),l[j]? = some o->Step3 P L ops (Z (i+j)) (cls (i+j)) (S j) o (S (j+1)))/\K (S l.length)
 |[],i,s,h=>⟨fun _=>s,rfl,fun j o hj=>by simp at hj,h⟩
 |o::l,i,s,⟨s',h1,h2⟩=>by
  obtain⟨S,g1,g2,g3⟩:=P3.run l (i+1) s' h2;refine⟨fun n=>match n with|0=>s|n+1=>S n,rfl,fun j o' hj=>?_,g3⟩;cases j with
  |zero=>simp at hj;subst hj;show Step3 _ _ _ _ _ s o (S 0);rw[g1];exact h1
  |succ j =>
   have:=g2 j o' (by simpa using hj);rw[show i+1+j=i+(j+1) by omega]at this;exact this
def wZ (acc:List Nat)(o:Oper):Nat:=o.after.toList.foldl (fun m e=>bif Region.binds .any e then m ||| 2^e.on ||| acc.getD e.on 0 else m) 0
def sC:List Oper->List Nat->List Nat
 |[],acc=>acc
 |o::l,acc=>sC l (acc++[wZ acc o])
def i7 (ops:Array Oper):List Nat:=sC ops.toList []
theorem nB {acc:List Nat}{j:Nat}:∀(l:List Edge) (m:Nat),(l.foldl (fun m e=>bif Region.binds .any e then m ||| 2^e.on ||| acc.getD e.on 0 else m) m).testBit j=true ->
  m.testBit j=true\/∃e∈l,Region.binds .any e=true/\(e.on=j\/(acc.getD e.on 0).testBit j=true)
 |[],m,h => .inl h
 |e::l,m,h=>by
  rw[List.foldl_cons]at h;rcases nB l _ h with h1|⟨e',he',h2⟩
  .cases hb:Region.binds .any e with
   |false=>rw[hb]at h1;exact .inl h1
   |true =>
    rw[hb,cond_true,Nat.testBit_or,Nat.testBit_or,Nat.testBit_two_pow]at h1;simp only[Bool.or_eq_true,decide_eq_true_eq]at h1;rcases h1 with(h1|h1)|h1
    .exact .inl h1
    .exact .inr ⟨e,ah,hb,.inl h1⟩
    .exact .inr ⟨e,ah,hb,.inr h1⟩
  .exact .inr ⟨e',by simp[he'],h2⟩
def wu (all:List Oper)(acc:List Nat):Prop:=∀i j:Nat,(acc.getD i 0).testBit j=true->∃o,all[i]? = some o/\∃e∈o.after,Region.binds .any e=true/\(e.on=j\/(acc.getD e.on 0).testBit j=true)
theorem po (all:List Oper):∀(l:List Oper) (acc:List Nat),all=all.take acc.length++l->acc.length<=all.length->wu all acc->wu all (sC l acc)
 |[],_,_,_,h=>h
 |o::l,acc,ha,hle,h=>by
  have hlt:acc.length<all.length:=by
   have:=congrArg List.length ha;rw[List.length_append,List.length_take,List.length_cons]at this;omega
  have ho:all[acc.length]? = some o:=by
   have:(all.take acc.length).length=acc.length:=by rw[List.length_take];omega
   rw[ha,List.getElem?_append_right J,this];simp
  refine po all l _ ?_ aU fun i j hij=>?_
  .rw[List.length_append,List.length_singleton,take_snoc' ho,List.append_assoc];exact ha
  .have low:∀q,(acc.getD q 0).testBit j=true->((acc++[wZ acc o]).getD q 0).testBit j=true:=by
    intro q hq;rcases Nat.lt_or_ge q acc.length with h1|h1
    .rw[List.getD_eq_getElem?_getD,List.getElem?_append_left h1,<-List.getD_eq_getElem?_getD];exact hq
    .rw[List.getD_eq_getElem?_getD,List.getElem?_eq_none h1]at hq;simp at hq
   rcases Nat.lt_trichotomy i acc.length with h1|h1|h1
   .rw[List.getD_eq_getElem?_getD,List.getElem?_append_left h1,<-List.getD_eq_getElem?_getD]at hij;obtain⟨o',e1,e,e2,e3,e4⟩:=h i j hij;exact⟨o',e1,e,e2,e3,e4.imp _root_.id (low _)⟩
   .subst h1;rw[List.getD_eq_getElem?_getD,List.getElem?_append_right (aP),Nat.sub_self]at hij;rcases nB _ 0 (show(wZ acc o).testBit j=true from hij) with h2|⟨e,e2,e3,e4⟩
    .simp at h2
    .exact⟨o,ho,e,by simpa using e2,e3,e4.imp _root_.id (low _)⟩
   .rw[List.getD_eq_getElem?_getD,List.getElem?_eq_none aU]at hij;simp at hij
where
 take_snoc' {α:Type} {l:List α} {k:Nat} {x:α} (hx:l[k]? = some x):l.take (k+1)=l.take k++[x]:=by
  rw[List.take_add_one,hx];rfl
theorem uL (ops:Array Oper):wu ops.toList (i7 ops) :=
 po ops.toList ops.toList [] ah ah fun i j h=>by simp at h
def iF (ops:Array Oper)(ch:List Nat):Bool :=
 decide (ops.toList.filterMap (·.dst)).Nodup&&(List.range ops.size).all fun i=>match ops[i]? with
  |some o=>o.after.all (fun e=>!Region.binds .any e||decide (e.on<i)) &&
   ((o.looksAt ops).all fun t=>(List.range ops.size).all fun j=>decide (j=i)||!((ops[j]?).bind (·.dst)==some t)||(bif decide (j<i) then((i7 ops).getD i 0).testBit j else((i7 ops).getD j 0).testBit i)) &&
   (!eH ch i||(List.range i).all fun j=>!eH ch j||((i7 ops).getD i 0).testBit j)
  |none=>false
structure Draw3Ok (ops:Array Oper) (ch:List Nat):Prop where
 nodup:∀(i j:Nat) (o o':Oper) (t:Nat),ops[i]? = some o->ops[j]? = some o'->o.dst=some t->o'.dst=some t->i=j
 lex:∀i o,ops[i]? = some o->∀e∈o.after,Region.binds .any e=true->e.on<i
 reads:∀i o,ops[i]? = some o->∀t∈o.looksAt ops,∀j o',ops[j]? = some o'->o'.dst=some t->j≠i->(j<i->((i7 ops).getD i 0).testBit j=true)/\(i<j->((i7 ops).getD j 0).testBit i=true)
 chain:∀i j,i<ops.size->eH ch i=true->eH ch j=true->j<i->((i7 ops).getD i 0).testBit j=true
theorem i4 {α:Type}{f:α->Option Nat}:∀ {l:List α},(l.filterMap f).Nodup->∀(i j:Nat) (x y:α) (t:Nat),l[i]? = some x->l[j]? = some y->f x=some t->f y=some t->i=j
 |[],_,i,j,x,y,t,h1,_,_,_=>by simp at h1
 |b::l,hn,i,j,x,y,t,h1,h2,h3,h4=>by
  have hl:(l.filterMap f).Nodup:=by
   rw[List.filterMap_cons]at hn;split at hn
   .exact hn
   .exact(List.nodup_cons.1 hn).2
  have one:∀(k:Nat) z,f b=some t->l[k]? = some z->f z=some t->False:=by
   intro k z g1 g2 g3;rw[List.filterMap_cons,g1]at hn;exact(List.nodup_cons.1 hn).1 (List.mem_filterMap.2 ⟨z,bc g2,g3⟩)
  cases i with
  |zero =>
   cases j with
   |zero=>rfl
   |succ j=>simp at h1 h2;subst h1;exact(one j y h3 h2 h4).elim
  |succ i =>
   cases j with
   |zero=>simp at h1 h2;subst h2;exact(one i x h4 h1 h3).elim
   |succ j=>rw[i4 hl i j x y t (by simpa using h1) (by simpa using h2) h3 h4]
theorem lK {ch:List Nat}(h:iF ops ch=true):Draw3Ok ops ch:=by
 simp only[iF,Bool.and_eq_true,decide_eq_true_eq]at h;obtain⟨h0,h⟩:=h;have hget:∀ {i:Nat} {o:Oper},ops[i]? = some o->ops.toList[i]? = some o:=fun {i} {o} h=>by rw[Array.getElem?_toList];exact h
 refine⟨fun i j o o' t h1 h2 h3 h4=>i4 h0 i j o o' t (hget h1) (hget h2) h3 h4,fun i o ho e he hb=>?_,fun i o ho t ht j o' ho' hd hne=>?_,fun i j hi hzi hzj hlt=>?_⟩
 .have hi:=(cD ho).1;have e1:=List.all_eq_true.1 h i (List.mem_range.2 hi);rw[ho]at e1;simp only[Bool.and_eq_true]at e1;have e2:=Array.all_eq_true_iff_forall_mem.1 e1.1.1 e he;simpa [hb] using e2
 .have hi:=(cD ho).1;have hj:=(cD ho').1;have e1:=List.all_eq_true.1 h i (List.mem_range.2 hi);rw[ho]at e1;simp only[Bool.and_eq_true]at e1;have e2:=List.all_eq_true.1 (List.all_eq_true.1 e1.1.2 t ht) j (List.mem_range.2 hj);rw[ho']at e2;simp only[Option.bind_some,hd,beq_self_eq_true,Bool.not_true,Bool.or_false,Bool.or_eq_true,decide_eq_true_eq]at e2;rcases e2 with e2|e2
  .exact absurd e2 hne
  .refine⟨fun hlt=>?_,fun hlt=>?_⟩
   .rw[decide_eq_true hlt]at e2;exact e2
   .rw[decide_eq_false J]at e2;exact e2
 .have e1:=List.all_eq_true.1 h i (List.mem_range.2 hi);rw[Array.getElem?_eq_getElem hi]at e1;simp only[Bool.and_eq_true,hzi,Bool.not_true,Bool.false_or]at e1;have e2:=List.all_eq_true.1 e1.2 j (List.mem_range.2 hlt);simpa [hzj] using e2
def HW (ops:Array Oper)(listed:Array Bool):Prop:=∀i o,ops[i]? = some o->listed.getD i true=true->∀e∈o.after,Region.binds .any e=true->listed.getD e.on true=true
theorem c_ {ch:List Nat}(hd:Draw3Ok ops ch){listed:Array Bool}(hc:HW ops listed):∀(f i:Nat) (o:Oper),i<=f->ops[i]? = some o->(∀e∈o.after,Region.binds .any e=true->listed.getD e.on true=true)->∀j,((i7 ops).getD i 0).testBit j=true->listed.getD j true=true:=by
 intro f
 induction f with
 |zero =>
  intro i o hi ho hall j hj;obtain⟨o',e1,e,e2,e3,e4⟩:=uL ops i j hj;have e1:ops[i]? = some o':=by simpa using e1
  rw[ho]at e1;cases e1;have:=hd.lex i o ho e e2 e3;omega
 |succ f ih =>
  intro i o hi ho hall j hj;obtain⟨o',e1,e,e2,e3,e4⟩:=uL ops i j hj;have e1:ops[i]? = some o':=by simpa using e1
  rw[ho]at e1;cases e1;have hlt:=hd.lex i o ho e e2 e3;have hl:=hall e e2 e3;rcases e4 with e4|e4
  .rw[<-e4];exact hl
  .have hsz:e.on<ops.size:=by have:=(cD ho).1;omega
   exact ih e.on ops[e.on] J (Array.getElem?_eq_getElem hsz) (fun e' he' hb=>hc e.on _ (Array.getElem?_eq_getElem hsz) hl e' he' hb) j e4
theorem d9 {o:Oper}{s:St}{v:PV}{t:Nat}(h:o.dst≠some t):(s.put o.dst v).reg t=s.reg t:=by
 cases hd:o.dst with
 |none=>rfl
 |some d =>
  show(bif Nat.beq t d then v else s.reg t)=_;have:t≠d:=fun e=>h (by rw[hd,e]);rw[bm this];rfl
theorem fq {o:Oper}{s:St}{v:PV}{t:Nat}(h:o.dst=some t):(s.put o.dst v).reg t=v:=by
 rw[h];show(bif Nat.beq t t then v else s.reg t)=_;simp
variable {ch:List Nat}{S:Nat->St}
section
variable {Z:List Nat}
theorem Step3.reg {c:Bool}{s s':St}{o:Oper}(h:Step3 P L ops Z c s o s'){t:Nat}(ht:o.dst≠some t):s'.reg t=s.reg t:=by
 cases h with
 |no h=>exact d9 ht
 |free h hq=>exact d9 ht
 |quiet h hq=>exact d9 ht
 |eff h he hz =>
  obtain⟨_,_,_,_,h4⟩:=he.congr O fun _ _=>rfl;exact(h4 t ht).2
theorem Step3.off {c:Bool}{s s':St}{o:Oper}(h:Step3 P L ops Z c s o s'){k:Nat}(hk:eH Z k=false):s'.own k=s.own k:=by
 cases h with
 |no h=>rw[bR]
 |free h hq=>rw[bR]
 |quiet h hq=>rw[bR]
 |eff h he hz=>exact hz k hk
theorem Step3.same {s s':St}{o:Oper}(h:Step3 P L ops Z false s o s'):s'.own=s.own:=by
 cases h with
 |no h=>rw[bR]
 |free h hq=>rw[bR]
end
variable {Z:Nat->List Nat}{A:List Nat}
abbrev tF (P:Program)(L:Lay)(ops:Array Oper)(Z:Nat->List Nat)(ch:List Nat)(S:Nat->St):Prop:=∀(i:Nat) (o:Oper),ops[i]? = some o->Step3 P L ops (Z i) (eH ch i) (S i) o (S (i+1))
structure Late (ops:Array Oper) (Z:Nat->List Nat) (A ch:List Nat):Prop where
 sub:∀i k,eH A k=false->eH (Z i) k=false
 late:∀i j k,i<ops.size->j<ops.size->eH ch i=true->eH (Z i) k=true->eH (Z j) k=false->((i7 ops).getD i 0).testBit j=true/\j<i
theorem mb (hr:tF P L ops Z ch S){k:Nat}:∀i,i<=ops.size->(∀q,q<i->eH ch q=true->eH (Z q) k=false)->(S i).own k=(S 0).own k
 |0,_,_=>rfl
 |i+1,hi,h=>by
  have h1:=hr i _ (Array.getElem?_eq_getElem J);rw[<-mb hr i J fun q hq=>h q J];cases hc:eH ch i with
  |true=>exact h1.off (h i J hc)
  |false=>rw[hc]at h1;rw[h1.same]
theorem tj (hr:tF P L ops Z ch S)(hA:Late ops Z A ch){k:Nat}(hk:eH A k=false)(i:Nat)(hi:i<=ops.size):(S i).own k=(S 0).own k:=mb hr i hi fun q _ _=>hA.sub q k hk
theorem tk (hr:tF P L ops Z ch S){i:Nat}:∀d,i+d<=ops.size->(∀q,i<=q->q<i+d->eH ch q=false)->(S (i+d)).own=(S i).own
 |0,_,_=>rfl
 |d+1,hd,h=>by
  have h1:=hr (i+d) _ (Array.getElem?_eq_getElem J);rw[h (i+d) J J]at h1;rw[<-Nat.add_assoc,h1.same,tk hr d J fun q h1 h2=>h q h1 J]
theorem iR (hr:tF P L ops Z ch S){t i:Nat}:∀d,i+d<=ops.size->(∀q o,i<=q->q<i+d->ops[q]? = some o->o.dst≠some t)->(S (i+d)).reg t=(S i).reg t
 |0,_,_=>rfl
 |d+1,hd,h=>by
  rw[<-Nat.add_assoc,(hr (i+d) _ (Array.getElem?_eq_getElem J)).reg (h (i+d) _ J J (Array.getElem?_eq_getElem J)),iR hr d J fun q o h1 h2=>h q o h1 J]
structure Agr3 (ops:Array Oper) (A ch:List Nat) (S:Nat->St) (listed:Array Bool) (s:St):Prop where
 hit:∀i o t,ops[i]? = some o->listed.getD i true=true->o.dst=some t->s.reg t=(S (i+1)).reg t
 miss:∀t,(∀i o,ops[i]? = some o->listed.getD i true=true->o.dst≠some t)->s.reg t=(S 0).reg t
 off:∀k,eH A k=false->s.own k=(S 0).own k
 on:∃q,q<=ops.size/\(∀i,i<ops.size->eH ch i=true->(listed.getD i true=true↔i<q))/\∀k,eH A k=true->s.own k=(S q).own k
theorem zO (hd:Draw3Ok ops ch)(hr:tF P L ops Z ch S){listed:Array Bool}{s:St}(hag:Agr3 ops A ch S listed s)(hc:HW ops listed){j:Nat}{o:Oper}(ho:ops[j]? = some o)(hun:listed.getD j true=false)
  (hall:∀e∈o.after,Region.binds .any e=true->listed.getD e.on true=true) {t:Nat} (ht:t∈o.looksAt ops):(S j).reg t=s.reg t:=by
 have hjl:=(cD ho).1;by_cases hx:∃(i:Nat) (o':Oper),ops[i]? = some o'/\o'.dst=some t
 .obtain⟨i,o',hi,hdi⟩:=hx;have hil:=(cD hi).1;have hone:∀(q:Nat) (o:Oper),ops[q]? = some o->o.dst=some t->q=i:=fun q o h1 h2=>hd.nodup q i o o' t h1 hi h2 hdi;have hno:listed.getD i true=false->s.reg t=(S 0).reg t:=fun hl=>hag.miss t fun q oq h1 h2 h3=>by
   rw[hone q oq h1 h3,hl]at h2;cases h2
  rcases Nat.lt_trichotomy i j with hlt|he|hlt
  .have hm:=(hd.reads j o ho t ht i o' hi hdi J).1 hlt;have hl:=c_ hd hc j j o (aP) ho hall i hm;rw[hag.hit i o' t hi hl hdi];have:=iR hr (t:=t) (i:=i+1) (j-(i+1)) J fun q oq h1 h2 h3 h4=>by have:=hone q oq h3 h4;omega
   rwa [show i+1+(j-(i+1))=j by omega]at this
  .subst he;rw[hno hun];have:=iR hr (t:=t) (i:=0) i J fun q oq h1 h2 h3 h4=>by have:=hone q oq h3 h4;omega
   rwa [Nat.zero_add]at this
  .have hm:=(hd.reads j o ho t ht i o' hi hdi J).2 hlt;have hl:listed.getD i true=false:=by
    cases hb:listed.getD i true with
    |false=>rfl
    |true =>
     have:=c_ hd hc i i o' (aP) hi (fun e he hbd=>hc i o' hi hb e he hbd) j hm;rw[hun]at this;cases this
   rw[hno hl];have:=iR hr (t:=t) (i:=0) j J fun q oq h1 h2 h3 h4=>by have:=hone q oq h3 h4;omega
   rwa [Nat.zero_add]at this
 .rw[hag.miss t fun q oq h1 _ h3=>hx ⟨q,oq,h1,h3⟩];have:=iR hr (t:=t) (i:=0) j J fun q oq h1 h2 h3 h4=>hx ⟨q,oq,h3,h4⟩;rwa [Nat.zero_add]at this
theorem nT (hA:Late ops Z A ch)(hd:Draw3Ok ops ch)(hr:tF P L ops Z ch S){listed:Array Bool}{s:St}(hag:Agr3 ops A ch S listed s)(hc:HW ops listed){j:Nat}{o:Oper}(ho:ops[j]? = some o)(hun:listed.getD j true=false)
  (hall:∀e∈o.after,Region.binds .any e=true->listed.getD e.on true=true) (hz:eH ch j=true):(S j).own=s.own/\∀i,i<ops.size->eH ch i=true->i≠j->(listed.getD i true=true↔i<j):=by
 have hjl:=(cD ho).1;have hord:∀i,i<ops.size->eH ch i=true->i≠j->(listed.getD i true=true↔i<j):=by
  intro i hi hzi hne;constructor
  .intro hl;rcases Nat.lt_or_ge i j with h|h
   .exact h
   .have hm:=hd.chain i j hi hzi hz J;have:=c_ hd hc i i _ (aP) (Array.getElem?_eq_getElem hi) (fun e he hb=>hc i _ (Array.getElem?_eq_getElem hi) hl e he hb) j hm;rw[hun]at this;cases this
  .intro hlt;exact c_ hd hc j j o (aP) ho hall i (hd.chain j i hjl hz hzi hlt)
 refine⟨?_,hord⟩;funext k;cases hk:eH A k with
 |false=>rw[tj hr hA hk j J,hag.off k hk]
 |true =>
  obtain⟨q,hq,h1,h2⟩:=hag.on;rw[h2 k hk];have hjq:¬j<q:=fun h=>by
   have:=(h1 j hjl hz).2 h;rw[hun]at this;cases this
  have:=tk hr (i:=q) (j-q) J fun i g1 g2=>by
   cases hzi:eH ch i with
   |false=>rfl
   |true =>
    have hlt:i<j:=J;have:=(h1 i J hzi).1 ((hord i J hzi J).2 hlt);omega
  rw[show q+(j-q)=j by omega]at this;rw[this]
theorem wN (hG:Good P L C)(hA:Late ops Z A ch)(hd:Draw3Ok ops ch){K':St->Prop}{Q:Exit->Act->World->Prop}(hK:∀s' a' w',SimE C s' a' w'->K' s'->Q .normal a' w')
  (hN:∀o∈ops.toList,b9 C.N o.dst=true) (hr:tF P L ops Z ch S) (hend:K' (S ops.size)) :
  ∀(f:Nat) (U:List Nat) (listed:Array Bool) (s:St) (a:Act) (w:World),U.length=f->U.Nodup->(∀i,i∈U↔i<ops.size/\listed.getD i true=false)->listed.size=ops.size->HW ops listed->Agr3 ops A ch S listed s->SimE C s a w ->
   wpAny P .any ops Q f listed a w:=by
 intro f
 induction f with
 |zero =>
  intro U listed s a w hU _ hmem hsz hc hag h;have hU0:U=[]:=List.eq_nil_of_length_eq_zero hU;subst hU0;have hall:∀i,i<ops.size->listed.getD i true=true:=fun i hi=>by
   cases hb:listed.getD i true with
   |true=>rfl
   |false=>have:=(hmem i).2 ⟨hi,hb⟩;cases this
  refine⟨kA hmem,hK _ _ _ h ?_⟩;have:s=S ops.size:=by
   refine St.ext' (funext fun t=>?_) (funext fun k=>?_)
   .by_cases hx:∃(i:Nat) (o':Oper),ops[i]? = some o'/\o'.dst=some t
    .obtain⟨i,o',hi,hdi⟩:=hx;have hil:=(cD hi).1;rw[hag.hit i o' t hi (hall i hil) hdi];have:=iR hr (t:=t) (i:=i+1) (ops.size-(i+1)) J fun q oq h1 h2 h3 h4=>by have:=hd.nodup q i oq o' t h3 hi h4 hdi;omega
     rw[show i+1+(ops.size-(i+1))=ops.size by omega]at this;exact this.symm
    .rw[hag.miss t fun q oq h1 _ h3=>hx ⟨q,oq,h1,h3⟩];have:=iR hr (t:=t) (i:=0) ops.size J fun q oq h1 h2 h3 h4=>hx ⟨q,oq,h3,h4⟩;rw[Nat.zero_add]at this;exact this.symm
   .cases hk:eH A k with
    |false=>rw[tj hr hA hk _ (aP),hag.off k hk]
    |true =>
     obtain⟨q,hq,h1,h2⟩:=hag.on;rw[h2 k hk];have:=tk hr (i:=q) (ops.size-q) J fun i g1 g2=>by
      cases hzi:eH ch i with
      |false=>rfl
      |true =>
       have:=(h1 i J hzi).1 (hall i J);omega
     rw[show q+(ops.size-q)=ops.size by omega]at this;rw[this]
  rw[this];exact hend
 |succ f ih =>
  intro U listed s a w hU hnd hmem hsz hc hag h;refine⟨fun hnil=>absurd hnil (gM hsz hd.lex hmem (fun he=>by rw[he]at hU;simp at hU)),fun j hj=>?_⟩;obtain⟨hun,o,ho,hall0⟩:=mem_ready.1 hj;have hjl:=(cD ho).1;have hlex:=hd.lex j o ho;have hall:∀e∈o.after,Region.binds .any e=true->listed.getD e.on true=true:=fun e he hb=>by
   have h1:=hall0 e he hb;rw[gK (by rw[hsz];have:=hlex e he hb;omega)];exact h1
  have hjs:j<listed.size:=by rw[hsz];exact hjl
  have hNo:b9 C.N o.dst=true:=hN o (by have:=Array.mem_of_getElem? ho;simpa using this);have hreads:∀t∈o.looksAt ops,(S j).reg t=s.reg t:=fun t ht=>zO hd hr hag hc ho hun hall ht;have hnew:∀q,(listed.setIfInBounds j true).getD q true=true↔q=j\/listed.getD q true=true:=fun q=>by
   by_cases hq:q=j
   .subst hq;simp[hjs]
   .rw[getD_set_ne true (Ne.symm hq)];simp[hq]
  have hnext:∀s' a' w',(∀t,o.dst=some t->s'.reg t=(S (j+1)).reg t)->(∀t,o.dst≠some t->s'.reg t=s.reg t)->(∀k,eH A k=false->s'.own k=s.own k) ->
    (eH ch j=false->s'.own=s.own)->(eH ch j=true->∀k,eH A k=true->s'.own k=(S (j+1)).own k)->SimE C s' a' w'->wpAny P .any ops Q f (listed.setIfInBounds j true) a' w':=by
   intro s' a' w' g1 g2 g3 g4 g5 h';have hUj:j∈U:=(hmem j).2 ⟨hjl,hun⟩;refine ih (U.erase j) _ s' a' w' (by rw[List.length_erase_of_mem hUj];omega) (hnd.erase j) (fun k=>?_) (by simpa using hsz) ?_ ?_ h'
   .rw[hnd.mem_erase_iff,hmem k];by_cases hki:k=j
    .subst hki;simp[hjs]
    .rw[getD_set_ne true (Ne.symm hki)];exact⟨fun x=>x.2,fun x=>⟨hki,x⟩⟩
   .intro i oi hi hl e he hb;rw[hnew];rcases(hnew i).1 hl with rfl|hl'
    .rw[ho]at hi;cases hi;exact .inr (hall e he hb)
    .exact .inr (hc i oi hi hl' e he hb)
   .refine⟨fun i oi t hi hl hdi=>?_,fun t hm=>?_,fun k hk=>by rw[g3 k hk,hag.off k hk],?_⟩
    .rcases(hnew i).1 hl with rfl|hl'
     .rw[ho]at hi;cases hi;exact g1 t hdi
     .have hij:i≠j:=fun e=>by rw[e,hun]at hl';cases hl'
      rw[g2 t (fun hdj=>hij (hd.nodup i j oi o t hi ho hdi hdj)),hag.hit i oi t hi hl' hdi]
    .rw[g2 t (hm j o ho ((hnew j).2 (.inl O)))];exact hag.miss t fun i oi hi hl=>hm i oi hi ((hnew i).2 (.inr hl))
    .obtain⟨q,hq,h1,h2⟩:=hag.on;cases hz:eH ch j with
     |false =>
      refine⟨q,hq,fun i hi hzi=>?_,fun k hk=>by rw[g4 hz,h2 k hk]⟩;rw[hnew,<-h1 i hi hzi];constructor
      .rintro(rfl|hl)
       .rw[hz]at hzi;cases hzi
       .exact hl
      .exact .inr
     |true =>
      have hord:=(nT hA hd hr hag hc ho hun hall hz).2;refine⟨j+1,J,fun i hi hzi=>?_,fun k hk=>g5 hz k hk⟩;rw[hnew];by_cases hij:i=j
      .subst hij;simp
      .rw[hord i hi hzi hij];omega
  have hev:∀x∈o.op.operands,(S j).ev x=s.ev x:=gu (ops:=ops) hreads;have hstep:=hr j o ho;have hoff:=fun k (hk:eH A k=false)=>hstep.off (k:=k) (hA.sub j k hk);unfold wpOp;rw[ho];simp only;generalize hzj:eH ch j=cj at hstep;generalize hSj:S (j+1)=s1 at hstep hnext hoff;cases hstep with
  |no hw =>
   have hw':Wants ops s o false:=hw.congr hreads;rw[if_neg (by rw[hw'.spec h];simp)];refine hnext (s.put o.dst (.raw undef)) _ _ (fun t ht=>by rw[fq ht,fq ht]) (fun t ht=>d9 ht) (fun k _=>by rw[bR]) (fun _=>by rw[bR]) (fun hz k hk=>?_) (h.put hNo undef);rw[bR,bR,(nT hA hd hr hag hc ho hun hall hz).1]
  |free hw hq =>
   have hw':Wants ops s o true:=hw.congr hreads;rw[if_pos (hw'.spec h)];have hle:OwnLe ((S j).erase (Z j)) ⟨(S j).reg,s.own⟩:=fun k=>by
    cases hk:eH (Z j) k with
    |true=>exact .inr (by simp[St.erase,hk])
    |false =>
     refine .inl ?_;show s.own k=(bif eH (Z j) k then _ else(S j).own k);rw[hk];show s.own k=(S j).own k;cases hkA:eH A k with
     |false=>rw[tj hr hA hkA j J,hag.off k hkA]
     |true =>
      obtain⟨q,hq,h1,h2⟩:=hag.on;have k1:=mb hr (k:=k) j J fun i hi hzi=>by
       cases hzk:eH (Z i) k with
       |false=>rfl
       |true=>have:=(hA.late i j k J hjl hzi hzk hk).2;omega
      have k2:=mb hr (k:=k) q hq fun i hi hzi=>by
       cases hzk:eH (Z i) k with
       |false=>rfl
       |true =>
        have hli:=(h1 i J hzi).2 hi;have hm:=(hA.late i j k J hjl hzi hzk hk).1;have:=c_ hd hc i i _ (aP) (Array.getElem?_eq_getElem J) (fun e he hb=>hc i _ (Array.getElem?_eq_getElem J) hli e he hb) j hm;rw[hun]at this;cases this
      rw[h2 k hkA,k1,k2]
   have hq2:=hq.le hle O;have hq3:QOp P L s o _:=QOp.congr (s:=⟨(S j).reg,s.own⟩) (s':=s) O hev hq2;refine .inl (hq3.wp hG h hNo fun a' w' h'=>hnext _ a' w' (fun t ht=>by rw[fq ht,fq ht]) (fun t ht=>d9 ht) (fun k _=>by rw[bR]) (fun _=>by rw[bR]) (fun hz=>by rw[hzj]at hz;cases hz) h')
  |quiet hw hq =>
   have hw':Wants ops s o true:=hw.congr hreads;rw[if_pos (hw'.spec h)];have hown:=(nT hA hd hr hag hc ho hun hall hzj).1;have hq3:QOp P L s o _:=QOp.congr (s:=S j) hown hev hq;refine .inl (hq3.wp hG h hNo fun a' w' h'=>hnext _ a' w' (fun t ht=>by rw[fq ht,fq ht]) (fun t ht=>d9 ht) (fun k _=>by rw[bR]) (fun hz=>by rw[bR]) (fun _ k _=>by rw[bR,bR,hown]) h')
  |eff hw he hz =>
   have hw':Wants ops s o true:=hw.congr hreads;rw[if_pos (hw'.spec h)];have hown:=(nT hA hd hr hag hc ho hun hall hzj).1;obtain⟨s',e1,e2,e3,e4⟩:=he.congr hown hev;refine .inl (e1.sound hG.lay hG.x hG.glob h hNo fun a' w' h'=>hnext s' a' w' (fun t ht=>e3 t ht) (fun t ht=>(e4 t ht).1) (fun k hk=>by rw[e2,hoff k hk,hown]) (fun hz=>by rw[hzj]at hz;cases hz) (fun _ k _=>by rw[e2]) h')
def I8 (Z Y0:List Nat)(f i:Nat):List Nat:=bif Nat.blt i f then Z else Z++Y0
theorem oy {k:Nat}:∀(Z Y0:List Nat),eH (Z++Y0) k=(eH Z k||eH Y0 k)
 |[],Y0=>by simp[eH]
 |z::Z,Y0=>by
  show(bif Nat.beq k z then true else eH (Z++Y0) k)=((bif Nat.beq k z then true else eH Z k)||eH Y0 k);rw[oy Z Y0];cases Nat.beq k z<;>rfl
def pg (ops:Array Oper)(ch:List Nat)(f:Nat):Bool:=(List.range ops.size).all fun i=>!eH ch i||Nat.blt i f||(List.range f).all fun j=>((i7 ops).getD i 0).testBit j
theorem FJ {Z Y0:List Nat}{f:Nat}(h:pg ops ch f=true):Late ops (I8 Z Y0 f) (Z++Y0) ch:=by
 refine⟨fun i k hk=>?_,fun i j k hi hj hc h1 h2=>?_⟩
 .rw[oy,Bool.or_eq_false_iff]at hk;rw[I8];cases Nat.blt i f
  .rw[cond_false,oy,hk.1,hk.2];rfl
  .exact hk.1
 .rw[I8]at h1 h2;cases hb:Nat.blt i f with
  |true =>
   rw[hb,cond_true]at h1;cases hb2:Nat.blt j f with
   |true=>rw[hb2,cond_true,h1]at h2;cases h2
   |false=>rw[hb2,cond_false,oy,h1]at h2;cases h2
  |false =>
   rw[hb,cond_false]at h1;cases hb2:Nat.blt j f with
   |false=>rw[hb2,cond_false,h1]at h2;cases h2
   |true =>
    have e:=List.all_eq_true.1 h i (List.mem_range.2 hi);rw[hc,hb,Bool.not_true,Bool.false_or,Bool.false_or]at e;have hjf:j<f:=by simpa using hb2
    have hif:¬i<f:=fun hlt=>by
     have:Nat.blt i f=true:=by simpa using hlt
     rw[hb]at this;cases this
    exact⟨List.all_eq_true.1 e j (List.mem_range.2 hjf),J⟩
def PDrawZ (P:Program)(L:Lay)(ops:Array Oper)(K:St->Prop)(s:St):Prop:=∃Z Y0 f ch,iF ops ch=true/\pg ops ch f=true/\P3 P L ops (I8 Z Y0 f) (eH ch) K 0 ops.toList s
theorem PDrawZ.sound (hG:Good P L C){K':St->Prop}{Q:Exit->Act->World->Prop}(hK:∀s' a' w',SimE C s' a' w'->K' s'->Q .normal a' w')(hN:∀o∈ops.toList,b9 C.N o.dst=true){s:St}
  (h:SimE C s a w) (hq:PDrawZ P L ops K' s):wpAny P .any ops Q ops.size (Array.replicate ops.size false) a { w with drawn:=w.drawn+1 }:=by
 obtain⟨Z,Y0,f,ch,hok,hlt,hq⟩:=hq;obtain⟨S,h0,h1,h2⟩:=P3.run _ _ _ hq;have hd:=lK hok;have hA:=FJ (Z:=Z) (Y0:=Y0) hlt;have hr:tF P L ops (I8 Z Y0 f) ch S:=fun i o ho=>by
  have:=h1 i o (by simpa using ho);rwa [Nat.zero_add]at this
 have hend:K' (S ops.size):=by simpa using h2
 have hrep:∀i,i<ops.size->(Array.replicate ops.size false).getD i true=false:=fun i hi=>by simp[hi]
 refine wN hG hA hd hK hN hr hend ops.size (List.range ops.size) (Array.replicate ops.size false) s a _ ah List.nodup_range (fun i=>?_) ah ?_ ?_ (let ⟨γ,h⟩:=h;⟨γ,mf h⟩)
 .rw[List.mem_range];exact⟨fun hi=>⟨hi,hrep i hi⟩,fun x=>x.1⟩
 .intro i o ho hl;rw[hrep i (cD ho).1]at hl;cases hl
 .refine⟨fun i o t ho hl=>?_,fun t _=>by rw[h0],fun k _=>by rw[h0],0,J,fun i hi _=>?_,fun k _=>by rw[h0]⟩
  .rw[hrep i (cD ho).1]at hl;cases hl
  .rw[hrep i hi];exact⟨fun h=>(by cases h),fun h=>J⟩
def E6 (P:Program)(L:Lay)(s:St)(o:Oper)(t:Nat)(s':St):Prop :=
 (∀k,k≠t->s'.own k=s.own k)/\(∀r,o.dst≠some r->s'.reg r=s.reg r) /\
  ∀(C:Ctx) (a:Act) (w:World) (K:Act->World->Prop) (Q:Exit->Act->World->Prop),Good P L C->SimE C s a w->b9 C.N o.dst=true->(∀a' w',SimE C s' a' w'->K a' w')->o.wp P a w K Q
inductive Loc (P:Program) (L:Lay) (s:St) (o:Oper):Nat->St->Prop
 |any {t:Nat} {s':St} (h:E6 P L s o t s') (hc:∀u:St,u.own t=s.own t->(∀x∈o.op.operands,u.ev x=s.ev x)->∃u',E6 P L u o t u'/\u'.own t=s'.own t/\∀r,o.dst=some r->u'.reg r=s'.reg r):Loc P L s o t s'
 |alloc {T:TypeId} {r:LRow} {z:List PV} {d:Nat} (ho:o.op = .alloc T) (hd:o.dst=some d) (hr:L T=some r) (hz:r.zero=some z) (h0:0<z.length) :
   Loc P L s o d ((s.fin d ⟨T,z.length,[z],2⟩).putR d (.ptr d ((s.own d).1+1) 0 0))
 |store {T:TypeId} {r:LRow} {x y:Operand} {k g i j:Nat} {c:Cont} {row:List PV} {Pr:Prop} (kd:Nat) (ho:o.op = .store T x y) (hd:o.dst=none) (hr:L T=some r) (hx:s.ev x = .ptr k g i j) (hown:s.own k=(g,some c))
   (hrow:c.rows[i]? = some row) (h1:∀s':St,du s' (s.ev y).cells=some Pr) (h2:Pr) (hsz:(s.ev y).cells.length=r.size) (hle:j+r.size<=row.length) (hk:c.kind<=kd) (hkd:(s.ev y).cells.all (mA kd)=true) :
   Loc P L s o k (s.setOwn k g (some ⟨c.ty,c.sz,c.rows.set i (mg row j ((s.ev y).cells.map (dY kd))),kd⟩))
theorem Loc.sound {s s':St}{o:Oper}{t:Nat}(h:Loc P L s o t s'){C:Ctx}{a:Act}{w:World}{K:Act->World->Prop}{Q:Exit->Act->World->Prop}(hG:Good P L C)(hs:SimE C s a w)(hN:b9 C.N o.dst=true)(hK:∀a' w',SimE C s' a' w'->K a' w'):o.wp P a w K Q:=by
 cases h with
 |any h hc=>exact h.2.2 C a w K Q hG hs hN hK
 |alloc ho hd hr hz h0=>exact(Eff.alloc (P:=P) ho hd hr hz h0).sound hG.lay hG.x hG.glob hs hN hK
 |store kd ho hd hr hx hown hrow h1 h2 hsz hle hk hkd=>exact(Eff.store (P:=P) kd ho hd hr hx hown hrow (h1 s) h2 hsz hle hk hkd).sound hG.lay hG.x hG.glob hs hN hK
theorem FC {s:St}{d k:Nat}{c:Cont}(h:k≠d):(s.fin d c).own k=s.own k:=aF h
theorem Loc.off {s s':St}{o:Oper}{t:Nat}(h:Loc P L s o t s'){k:Nat}(hk:k≠t):s'.own k=s.own k:=by
 cases h with
 |any h hc=>exact h.1 k hk
 |alloc ho hd hr hz h0=>exact FC hk
 |store kd ho hd hr hx hown hrow h1 h2 hsz hle hk' hkd=>exact aF hk
theorem Loc.reg {s s':St}{o:Oper}{t:Nat}(h:Loc P L s o t s'){r:Nat}(hr:o.dst≠some r):s'.reg r=s.reg r:=by
 cases h with
 |any h hc=>exact h.2.1 r hr
 |alloc ho hd _ hz h0 =>
  show(bif Nat.beq r _ then _ else s.reg r)=_;have:r≠_:=fun e=>hr (by rw[e];exact hd);rw[bm this];rfl
 |store=>rfl
theorem Loc.congr {u s u':St}{o:Oper}{t:Nat}(ht:u.own t=s.own t)(he:∀x∈o.op.operands,u.ev x=s.ev x)(h:Loc P L u o t u'):∃s',Loc P L s o t s'/\s'.own t=u'.own t/\∀r,o.dst=some r->s'.reg r=u'.reg r:=by
 cases h with
 |any h hc =>
  obtain⟨s',h1,h2,h3⟩:=hc s ht.symm fun x hx=>(he x hx).symm;refine⟨s',.any h1 fun v hv hev=>?_,h2,h3⟩;obtain⟨v',g1,g2,g3⟩:=hc v (hv.trans ht.symm) fun x hx=>(hev x hx).trans (he x hx).symm;exact⟨v',g1,g2.trans h2.symm,fun r hr=>(g3 r hr).trans (h3 r hr).symm⟩
 |alloc ho hd hr hz h0 =>
  refine⟨_,.alloc ho hd hr hz h0,?_,fun r hr'=>?_⟩
  .show((s.fin t _).own t)=((u.fin t _).own t);rw[St.fin,St.fin,ak,ak,ht]
  .rw[hd]at hr';cases hr';show(bif Nat.beq t t then _ else _)=(bif Nat.beq t t then _ else _);simp[ht]
 |store kd ho hd hr hx hown hrow h1 h2 hsz hle hk hkd =>
  rename_i T r x y g i j c row Pr;have hx':u.ev x=s.ev x:=he x (by rw[ho];simp[Op.operands]);have hy':u.ev y=s.ev y:=he y (by rw[ho];simp[Op.operands]);rw[hx']at hx;rw[hy']at h1 hsz hkd ⊢;rw[ht]at hown;exact⟨_,.store kd ho hd hr hx hown hrow h1 h2 hsz hle hk hkd,by rw[ak,ak],fun r hr'=>by rw[hd]at hr';cases hr'⟩
inductive Step5 (P:Program) (L:Lay) (ops:Array Oper) (Z:List Nat):Option Nat->St->Oper->St->Prop
 |no {c:Option Nat} {s:St} {o:Oper} (h:Wants ops s o false):Step5 P L ops Z c s o (s.put o.dst (.raw undef))
 |free {c:Option Nat} {s:St} {o:Oper} {v:PV} (h:Wants ops s o true) (hq:QOp P L (s.erase Z) o v):Step5 P L ops Z c s o (s.put o.dst v)
 |loc {t:Nat} {s s':St} {o:Oper} (h:Wants ops s o true) (hl:Loc P L s o t s'):Step5 P L ops Z (some t) s o s'
def P5 (P:Program)(L:Lay)(ops:Array Oper)(Z:List Nat)(lc:Nat->Option Nat)(K:St->Prop):Nat->List Oper->St->Prop
 |_,[],s=>K s
 |i,o::rest,s=>∃s',Step5 P L ops Z (lc i) s o s'/\P5 P L ops Z lc K (i+1) rest s'
theorem P5.run {Z:List Nat}{lc:Nat->Option Nat}{K:St->Prop}:∀(l:List Oper) (i:Nat) (s:St),P5 P L ops Z lc K i l s->∃S:Nat->St,S 0=s/\(∀(j:Nat) (o:Oper),l[j]? = some o->Step5 P L ops Z (lc (i+j)) (S j) o (S (j+1)))/\K (S l.length)
 |[],i,s,h=>⟨fun _=>s,rfl,fun j o hj=>by simp at hj,h⟩
 |o::l,i,s,⟨s',h1,h2⟩=>by
  obtain⟨S,g1,g2,g3⟩:=P5.run l (i+1) s' h2;refine⟨fun n=>match n with|0=>s|n+1=>S n,rfl,fun j o' hj=>?_,g3⟩;cases j with
  |zero=>simp at hj;subst hj;show Step5 _ _ _ _ _ s o (S 0);rw[g1];exact h1
  |succ j =>
   have:=g2 j o' (by simpa using hj);rw[show i+1+j=i+(j+1) by omega]at this;exact this
def uC:List (Nat × Nat)->Nat->Option Nat
 |[],_=>none
 |p::l,i=>bif Nat.beq i p.1 then some p.2 else uC l i
def Da (ops:Array Oper)(l:List (Nat × Nat)):Bool:=(List.range ops.size).all fun i=>(List.range i).all fun j=>match uC l i,uC l j with
 |some t,some t'=>!Nat.beq t t'||((i7 ops).getD i 0).testBit j
 |_,_=>true
structure Run5 (P:Program) (L:Lay) (ops:Array Oper) (Z:List Nat) (lc:Nat->Option Nat) (S:Nat->St):Prop where
 step:∀(i:Nat) (o:Oper),ops[i]? = some o->Step5 P L ops Z (lc i) (S i) o (S (i+1))
 cov:∀i t,i<ops.size->lc i=some t->eH Z t=true
 ord:∀i j t,i<ops.size->lc i=some t->lc j=some t->j<i->((i7 ops).getD i 0).testBit j=true
section
variable {Z:List Nat}{lc:Nat->Option Nat}{S:Nat->St}
theorem Step5.own {c:Option Nat}{s s':St}{o:Oper}(h:Step5 P L ops Z c s o s'){k:Nat}(hk:c≠some k):s'.own k=s.own k:=by
 cases h with
 |no h=>rw[bR]
 |free h hq=>rw[bR]
 |loc h hl=>exact hl.off fun e=>hk (by rw[e])
theorem Step5.reg {c:Option Nat}{s s':St}{o:Oper}(h:Step5 P L ops Z c s o s'){t:Nat}(ht:o.dst≠some t):s'.reg t=s.reg t:=by
 cases h with
 |no h=>exact d9 ht
 |free h hq=>exact d9 ht
 |loc h hl=>exact hl.reg ht
theorem l_ (hr:Run5 P L ops Z lc S){k i:Nat}:∀d,i+d<=ops.size->(∀q,i<=q->q<i+d->lc q≠some k)->(S (i+d)).own k=(S i).own k
 |0,_,_=>rfl
 |d+1,hd,h=>by
  rw[<-Nat.add_assoc,(hr.step (i+d) _ (Array.getElem?_eq_getElem J)).own (h (i+d) J J),l_ hr d J fun q h1 h2=>h q h1 J]
theorem gz (hr:Run5 P L ops Z lc S){t i:Nat}:∀d,i+d<=ops.size->(∀q o,i<=q->q<i+d->ops[q]? = some o->o.dst≠some t)->(S (i+d)).reg t=(S i).reg t
 |0,_,_=>rfl
 |d+1,hd,h=>by
  rw[<-Nat.add_assoc,(hr.step (i+d) _ (Array.getElem?_eq_getElem J)).reg (h (i+d) _ J J (Array.getElem?_eq_getElem J)),gz hr d J fun q o h1 h2=>h q o h1 J]
structure Agr5 (ops:Array Oper) (lc:Nat->Option Nat) (S:Nat->St) (listed:Array Bool) (s:St):Prop where
 hit:∀i o t,ops[i]? = some o->listed.getD i true=true->o.dst=some t->s.reg t=(S (i+1)).reg t
 miss:∀t,(∀i o,ops[i]? = some o->listed.getD i true=true->o.dst≠some t)->s.reg t=(S 0).reg t
 on:∀k,∃q,q<=ops.size/\(∀i,i<ops.size->lc i=some k->(listed.getD i true=true↔i<q))/\s.own k=(S q).own k
theorem ww (hd:Draw3Ok ops ch)(hr:Run5 P L ops Z lc S){listed:Array Bool}{s:St}(hag:Agr5 ops lc S listed s)(hc:HW ops listed){j:Nat}{o:Oper}(ho:ops[j]? = some o)(hun:listed.getD j true=false)
  (hall:∀e∈o.after,Region.binds .any e=true->listed.getD e.on true=true) {t:Nat} (ht:t∈o.looksAt ops):(S j).reg t=s.reg t:=by
 have hjl:=(cD ho).1;by_cases hx:∃(i:Nat) (o':Oper),ops[i]? = some o'/\o'.dst=some t
 .obtain⟨i,o',hi,hdi⟩:=hx;have hil:=(cD hi).1;have hone:∀(q:Nat) (o:Oper),ops[q]? = some o->o.dst=some t->q=i:=fun q o h1 h2=>hd.nodup q i o o' t h1 hi h2 hdi;have hno:listed.getD i true=false->s.reg t=(S 0).reg t:=fun hl=>hag.miss t fun q oq h1 h2 h3=>by
   rw[hone q oq h1 h3,hl]at h2;cases h2
  rcases Nat.lt_trichotomy i j with hlt|he|hlt
  .have hm:=(hd.reads j o ho t ht i o' hi hdi J).1 hlt;have hl:=c_ hd hc j j o (aP) ho hall i hm;rw[hag.hit i o' t hi hl hdi];have:=gz hr (t:=t) (i:=i+1) (j-(i+1)) J fun q oq h1 h2 h3 h4=>by have:=hone q oq h3 h4;omega
   rwa [show i+1+(j-(i+1))=j by omega]at this
  .subst he;rw[hno hun];have:=gz hr (t:=t) (i:=0) i J fun q oq h1 h2 h3 h4=>by have:=hone q oq h3 h4;omega
   rwa [Nat.zero_add]at this
  .have hm:=(hd.reads j o ho t ht i o' hi hdi J).2 hlt;have hl:listed.getD i true=false:=by
    cases hb:listed.getD i true with
    |false=>rfl
    |true =>
     have:=c_ hd hc i i o' (aP) hi (fun e he hbd=>hc i o' hi hb e he hbd) j hm;rw[hun]at this;cases this
   rw[hno hl];have:=gz hr (t:=t) (i:=0) j J fun q oq h1 h2 h3 h4=>by have:=hone q oq h3 h4;omega
   rwa [Nat.zero_add]at this
 .rw[hag.miss t fun q oq h1 _ h3=>hx ⟨q,oq,h1,h3⟩];have:=gz hr (t:=t) (i:=0) j J fun q oq h1 h2 h3 h4=>hx ⟨q,oq,h3,h4⟩;rwa [Nat.zero_add]at this
theorem je {ch:List Nat}(hd:Draw3Ok ops ch)(hr:Run5 P L ops Z lc S){listed:Array Bool}{s:St}(hag:Agr5 ops lc S listed s)(hc:HW ops listed){j:Nat}{o:Oper}(ho:ops[j]? = some o)(hun:listed.getD j true=false)
  (hall:∀e∈o.after,Region.binds .any e=true->listed.getD e.on true=true) {k:Nat} (hk:∀i,i<ops.size->lc i=some k->lc j=some k):s.own k=(S j).own k/\∀i,i<ops.size->lc i=some k->i≠j->(listed.getD i true=true↔i<j):=by
 have hjl:=(cD ho).1;have hord:∀i,i<ops.size->lc i=some k->i≠j->(listed.getD i true=true↔i<j):=by
  intro i hi hli hne;have hlj:=hk i hi hli;constructor
  .intro hl;rcases Nat.lt_or_ge i j with h|h
   .exact h
   .have hm:=hr.ord i j k hi hli hlj J;have:=c_ hd hc i i _ (aP) (Array.getElem?_eq_getElem hi) (fun e he hb=>hc i _ (Array.getElem?_eq_getElem hi) hl e he hb) j hm;rw[hun]at this;cases this
  .intro hlt;exact c_ hd hc j j o (aP) ho hall i (hr.ord j i k hjl hlj hli hlt)
 refine⟨?_,hord⟩;obtain⟨q,hq,h1,h2⟩:=hag.on k;rw[h2];rcases Nat.le_total q j with hqj|hqj
 .have:=l_ hr (k:=k) (i:=q) (j-q) J fun i g1 g2 hli=>by
   have:=(h1 i J hli).1 ((hord i J hli J).2 J);omega
  rw[show q+(j-q)=j by omega]at this;exact this.symm
 .have:=l_ hr (k:=k) (i:=j) (q-j) J fun i g1 g2 hli=>by
   by_cases hij:i=j
   .subst hij;have:=(h1 i hjl hli).2 J;rw[hun]at this;cases this
   .have:=(hord i J hli hij).1 ((h1 i J hli).2 J);omega
  rw[show j+(q-j)=q by omega]at this;exact this
theorem Aa {ch:List Nat}(hG:Good P L C)(hd:Draw3Ok ops ch){K':St->Prop}{Q:Exit->Act->World->Prop}(hK:∀s' a' w',SimE C s' a' w'->K' s'->Q .normal a' w')
  (hN:∀o∈ops.toList,b9 C.N o.dst=true) (hr:Run5 P L ops Z lc S) (hend:K' (S ops.size)) :
  ∀(f:Nat) (U:List Nat) (listed:Array Bool) (s:St) (a:Act) (w:World),U.length=f->U.Nodup->(∀i,i∈U↔i<ops.size/\listed.getD i true=false)->listed.size=ops.size->HW ops listed->Agr5 ops lc S listed s->SimE C s a w ->
   wpAny P .any ops Q f listed a w:=by
 intro f
 induction f with
 |zero =>
  intro U listed s a w hU _ hmem hsz hc hag h;have hU0:U=[]:=List.eq_nil_of_length_eq_zero hU;subst hU0;have hall:∀i,i<ops.size->listed.getD i true=true:=fun i hi=>by
   cases hb:listed.getD i true with
   |true=>rfl
   |false=>have:=(hmem i).2 ⟨hi,hb⟩;cases this
  refine⟨kA hmem,hK _ _ _ h ?_⟩;have:s=S ops.size:=by
   refine St.ext' (funext fun t=>?_) (funext fun k=>?_)
   .by_cases hx:∃(i:Nat) (o':Oper),ops[i]? = some o'/\o'.dst=some t
    .obtain⟨i,o',hi,hdi⟩:=hx;have hil:=(cD hi).1;rw[hag.hit i o' t hi (hall i hil) hdi];have:=gz hr (t:=t) (i:=i+1) (ops.size-(i+1)) J fun q oq h1 h2 h3 h4=>by have:=hd.nodup q i oq o' t h3 hi h4 hdi;omega
     rw[show i+1+(ops.size-(i+1))=ops.size by omega]at this;exact this.symm
    .rw[hag.miss t fun q oq h1 _ h3=>hx ⟨q,oq,h1,h3⟩];have:=gz hr (t:=t) (i:=0) ops.size J fun q oq h1 h2 h3 h4=>hx ⟨q,oq,h3,h4⟩;rw[Nat.zero_add]at this;exact this.symm
   .obtain⟨q,hq,h1,h2⟩:=hag.on k;rw[h2];have:=l_ hr (k:=k) (i:=q) (ops.size-q) J fun i g1 g2 hli=>by
     have:=(h1 i J hli).1 (hall i J);omega
    rw[show q+(ops.size-q)=ops.size by omega]at this;exact this.symm
  rw[this];exact hend
 |succ f ih =>
  intro U listed s a w hU hnd hmem hsz hc hag h;refine⟨fun hnil=>absurd hnil (gM hsz hd.lex hmem (fun he=>by rw[he]at hU;simp at hU)),fun j hj=>?_⟩;obtain⟨hun,o,ho,hall0⟩:=mem_ready.1 hj;have hjl:=(cD ho).1;have hlex:=hd.lex j o ho;have hall:∀e∈o.after,Region.binds .any e=true->listed.getD e.on true=true:=fun e he hb=>by
   have h1:=hall0 e he hb;rw[gK (by rw[hsz];have:=hlex e he hb;omega)];exact h1
  have hjs:j<listed.size:=by rw[hsz];exact hjl
  have hNo:b9 C.N o.dst=true:=hN o (by have:=Array.mem_of_getElem? ho;simpa using this);have hreads:∀t∈o.looksAt ops,(S j).reg t=s.reg t:=fun t ht=>ww hd hr hag hc ho hun hall ht;have hnew:∀q,(listed.setIfInBounds j true).getD q true=true↔q=j\/listed.getD q true=true:=fun q=>by
   by_cases hq:q=j
   .subst hq;simp[hjs]
   .rw[getD_set_ne true (Ne.symm hq)];simp[hq]
  have hnext:∀s' a' w',(∀t,o.dst=some t->s'.reg t=(S (j+1)).reg t)->(∀t,o.dst≠some t->s'.reg t=s.reg t)->(∀k,lc j≠some k->s'.own k=s.own k) ->
    (∀k,lc j=some k->s'.own k=(S (j+1)).own k)->SimE C s' a' w'->wpAny P .any ops Q f (listed.setIfInBounds j true) a' w':=by
   intro s' a' w' g1 g2 g3 g4 h';have hUj:j∈U:=(hmem j).2 ⟨hjl,hun⟩;refine ih (U.erase j) _ s' a' w' (by rw[List.length_erase_of_mem hUj];omega) (hnd.erase j) (fun k=>?_) (by simpa using hsz) ?_ ?_ h'
   .rw[hnd.mem_erase_iff,hmem k];by_cases hki:k=j
    .subst hki;simp[hjs]
    .rw[getD_set_ne true (Ne.symm hki)];exact⟨fun x=>x.2,fun x=>⟨hki,x⟩⟩
   .intro i oi hi hl e he hb;rw[hnew];rcases(hnew i).1 hl with rfl|hl'
    .rw[ho]at hi;cases hi;exact .inr (hall e he hb)
    .exact .inr (hc i oi hi hl' e he hb)
   .refine⟨fun i oi t hi hl hdi=>?_,fun t hm=>?_,fun k=>?_⟩
    .rcases(hnew i).1 hl with rfl|hl'
     .rw[ho]at hi;cases hi;exact g1 t hdi
     .have hij:i≠j:=fun e=>by rw[e,hun]at hl';cases hl'
      rw[g2 t (fun hdj=>hij (hd.nodup i j oi o t hi ho hdi hdj)),hag.hit i oi t hi hl' hdi]
    .rw[g2 t (hm j o ho ((hnew j).2 (.inl O)))];exact hag.miss t fun i oi hi hl=>hm i oi hi ((hnew i).2 (.inr hl))
    .by_cases hlj:lc j=some k
     .have hord:=(je hd hr hag hc ho hun hall (k:=k) fun _ _ _=>hlj).2;refine⟨j+1,J,fun i hi hli=>?_,g4 k hlj⟩;rw[hnew];by_cases hij:i=j
      .subst hij;simp
      .rw[hord i hi hli hij];omega
     .obtain⟨q,hq,h1,h2⟩:=hag.on k;refine⟨q,hq,fun i hi hli=>?_,by rw[g3 k hlj,h2]⟩;rw[hnew,<-h1 i hi hli];constructor
      .rintro(rfl|hl)
       .exact absurd hli hlj
       .exact hl
      .exact .inr
  have hev:∀x∈o.op.operands,(S j).ev x=s.ev x:=gu (ops:=ops) hreads;have hstep:=hr.step j o ho;unfold wpOp;rw[ho];simp only;generalize hlj:lc j=cj at hstep hnext;generalize hSj:S (j+1)=s1 at hstep hnext;cases hstep with
  |no hw =>
   have hw':Wants ops s o false:=hw.congr hreads;rw[if_neg (by rw[hw'.spec h];simp)];refine hnext (s.put o.dst (.raw undef)) _ _ (fun t ht=>by rw[fq ht,fq ht]) (fun t ht=>d9 ht) (fun k _=>by rw[bR]) (fun k hk=>?_) (h.put hNo undef);rw[bR,bR];exact(je hd hr hag hc ho hun hall (k:=k) fun _ _ _=>by rw[hlj,hk]).1
  |free hw hq =>
   have hw':Wants ops s o true:=hw.congr hreads;rw[if_pos (hw'.spec h)];have hle:OwnLe ((S j).erase Z) ⟨(S j).reg,s.own⟩:=fun k=>by
    cases hk:eH Z k with
    |true=>exact .inr (by simp[St.erase,hk])
    |false =>
     refine .inl ?_;show s.own k=(bif eH Z k then _ else(S j).own k);rw[hk];exact(je hd hr hag hc ho hun hall (k:=k) fun i hi hli=>by have:=hr.cov i k hi hli;rw[hk]at this;cases this).1
   have hq2:=hq.le hle O;have hq3:QOp P L s o _:=QOp.congr (s:=⟨(S j).reg,s.own⟩) (s':=s) O hev hq2;refine .inl (hq3.wp hG h hNo fun a' w' h'=>hnext _ a' w' (fun t ht=>by rw[fq ht,fq ht]) (fun t ht=>d9 ht) (fun k _=>by rw[bR]) (fun k hk=>by rw[bR,bR];exact(je hd hr hag hc ho hun hall (k:=k) fun _ _ _=>by rw[hlj,hk]).1) h')
  |loc hw hl =>
   rename_i t;have hw':Wants ops s o true:=hw.congr hreads;rw[if_pos (hw'.spec h)];have hown:=(je hd hr hag hc ho hun hall (k:=t) fun _ _ _=>hlj).1;obtain⟨s',e1,e2,e3⟩:=hl.congr hown.symm hev;refine .inl (e1.sound hG h hNo fun a' w' h'=>hnext s' a' w' (fun t ht=>e3 t ht) (fun t ht=>e1.reg ht) (fun k hk=>e1.off fun e=>hk (by rw[e])) (fun k hk=>by cases hk;exact e2) h')
theorem uD {i t:Nat}:∀ {l:List (Nat × Nat)},uC l i=some t->eH (l.map (·.2)) t=true
 |[],h=>by cases h
 |p::l,h=>by
  show(bif Nat.beq t p.2 then true else eH (l.map (·.2)) t)=true;rw[uC]at h;cases hb:Nat.beq i p.1 with
  |true =>
   rw[hb,cond_true]at h;cases h;simp
  |false =>
   rw[hb,cond_false]at h;rw[uD h];cases Nat.beq t p.2<;>rfl
def PDraw5 (P:Program)(L:Lay)(ops:Array Oper)(K:St->Prop)(s:St):Prop:=∃l,iF ops []=true/\Da ops l=true/\P5 P L ops (l.map (·.2)) (uC l) K 0 ops.toList s
theorem PDraw5.sound (hG:Good P L C){K':St->Prop}{Q:Exit->Act->World->Prop}(hK:∀s' a' w',SimE C s' a' w'->K' s'->Q .normal a' w')(hN:∀o∈ops.toList,b9 C.N o.dst=true){s:St}
  (h:SimE C s a w) (hq:PDraw5 P L ops K' s):wpAny P .any ops Q ops.size (Array.replicate ops.size false) a { w with drawn:=w.drawn+1 }:=by
 obtain⟨l,hok,hlc,hq⟩:=hq;obtain⟨S,h0,h1,h2⟩:=P5.run _ _ _ hq;have hd:=lK hok;have hr:Run5 P L ops (l.map (·.2)) (uC l) S:=by
  refine⟨fun i o ho=>?_,fun i t _ ht=>uD ht,fun i j t hi h1 h2 hlt=>?_⟩
  .have:=h1 i o (by simpa using ho);rwa [Nat.zero_add]at this
  .have e:=List.all_eq_true.1 (List.all_eq_true.1 hlc i (List.mem_range.2 hi)) j (List.mem_range.2 hlt);rw[h1,h2]at e;simpa using e
 have hend:K' (S ops.size):=by simpa using h2
 have hrep:∀i,i<ops.size->(Array.replicate ops.size false).getD i true=false:=fun i hi=>by simp[hi]
 refine Aa hG hd hK hN hr hend ops.size (List.range ops.size) (Array.replicate ops.size false) s a _ ah List.nodup_range (fun i=>?_) ah ?_ ?_ (let ⟨γ,h⟩:=h;⟨γ,mf h⟩)
 .rw[List.mem_range];exact⟨fun hi=>⟨hi,hrep i hi⟩,fun x=>x.1⟩
 .intro i o ho hl;rw[hrep i (cD ho).1]at hl;cases hl
 .refine⟨fun i o t ho hl=>?_,fun t _=>by rw[h0],fun k=>⟨0,J,fun i hi _=>?_,by rw[h0]⟩⟩
  .rw[hrep i (cD ho).1]at hl;cases hl
  .rw[hrep i hi];exact⟨fun h=>(by cases h),fun h=>J⟩
def PDraw3 (P:Program)(L:Lay)(ops:Array Oper)(K:St->Prop)(s:St):Prop:=PDrawZ P L ops K s\/PDraw5 P L ops K s
theorem PDraw3.sound (hG:Good P L C){K':St->Prop}{Q:Exit->Act->World->Prop}(hK:∀s' a' w',SimE C s' a' w'->K' s'->Q .normal a' w')(hN:∀o∈ops.toList,b9 C.N o.dst=true){s:St}
  (h:SimE C s a w) (hq:PDraw3 P L ops K' s):wpAny P .any ops Q ops.size (Array.replicate ops.size false) a { w with drawn:=w.drawn+1 }:=by
 rcases hq with hq|hq
 .exact PDrawZ.sound hG hK hN h hq
 .exact PDraw5.sound hG hK hN h hq
end
def PTree (P:Program)(L:Lay)(ops:Array Oper)(K:St->Prop):Nat->Array Bool->St->Prop
 |0,listed,s=>Region.ready .any ops listed=[]/\K s
 |f+1,listed,s=>(Region.ready .any ops listed=[]->K s)/\∀i∈Region.ready .any ops listed,∃o,ops[i]? = some o/\PSem P L ops (PTree P L ops K f (listed.setIfInBounds i true)) [o] s
theorem PTree.sound (hG:Good P L C){K':St->Prop}{Q:Exit->Act->World->Prop}(hK:∀s' a' w',SimE C s' a' w'->K' s'->Q .normal a' w')(hN:∀o∈ops.toList,b9 C.N o.dst=true) :
  ∀(f:Nat) (listed:Array Bool) (s:St) (a:Act) (w:World),SimE C s a w->PTree P L ops K' f listed s->wpAny P .any ops Q f listed a w
 |0,listed,s,a,w,h,hp=>⟨hp.1,hK s a w h hp.2⟩
 |f+1,listed,s,a,w,h,hp=>by
  refine⟨fun e=>hK s a w h (hp.1 e),fun i hi=>?_⟩;obtain⟨o,ho,hs⟩:=hp.2 i hi;have hNo:b9 C.N o.dst=true:=hN o (by have:=Array.mem_of_getElem? ho;simpa using this);unfold wpOp;rw[ho];simp only;rcases hs with⟨hw,hs⟩|⟨hw,hs⟩
  .rw[if_pos (hw.spec h)];rcases hs with hs|hs
   .exact .inl (hs.wp hG h hNo fun s' a' w' h' hp'=>PTree.sound hG hK hN f _ s' a' w' h' hp')
   .exact .inl (Oper.wp_mono (fun a' w' ⟨s',h',hp'⟩=>PTree.sound hG hK hN f _ s' a' w' h' hp') (hs C a w _ hG h hNo))
  .rw[if_neg (by rw[hw.spec h];simp)];exact PTree.sound hG hK hN f _ _ _ w (h.put hNo undef) hs
def PTree0 (P:Program)(L:Lay)(ops:Array Oper)(K:St->Prop)(s:St):Prop:=PTree P L ops K ops.size (Array.replicate ops.size false) s
theorem PTree0.sound (hG:Good P L C){K':St->Prop}{Q:Exit->Act->World->Prop}(hK:∀s' a' w',SimE C s' a' w'->K' s'->Q .normal a' w')(hN:∀o∈ops.toList,b9 C.N o.dst=true){s:St}
  (h:SimE C s a w) (hq:PTree0 P L ops K' s):wpAny P .any ops Q ops.size (Array.replicate ops.size false) a { w with drawn:=w.drawn+1 } :=
 PTree.sound hG hK hN _ _ s a _ (let ⟨γ,h⟩:=h;⟨γ,mf h⟩) hq
theorem jw {K:St->Prop}{f i:Nat}{o:Oper}{listed:Array Bool}{s:St}(hr:Region.ready .any ops listed=[i])(ho:ops[i]? = some o)(h:PSem P L ops (PTree P L ops K f (listed.setIfInBounds i true)) [o] s):PTree P L ops K (f+1) listed s :=
 ⟨fun e=>(by rw[e]at hr;cases hr),fun j hj=>by rw[hr]at hj;simp at hj;subst hj;exact⟨o,ho,h⟩⟩
theorem Dz {K:St->Prop}{f i j:Nat}{o o2:Oper}{listed:Array Bool}{s:St}(hr:Region.ready .any ops listed=[i,j])(ho:ops[i]? = some o)(ho2:ops[j]? = some o2)
  (h:PSem P L ops (PTree P L ops K f (listed.setIfInBounds i true)) [o] s) (h2:PSem P L ops (PTree P L ops K f (listed.setIfInBounds j true)) [o2] s):PTree P L ops K (f+1) listed s :=
 ⟨fun e=>(by rw[e]at hr;cases hr),fun q hq=>by
  rw[hr]at hq;simp at hq;rcases hq with rfl|rfl
  .exact⟨o,ho,h⟩
  .exact⟨o2,ho2,h2⟩⟩
end
end Go.Pv
namespace Go.Pv
open Go.RowKit
def Fr (ro:Option Nat):Fence:={ Fence.wide with round:=ro }
theorem CK (ro:Option Nat)(l:Nat):(Fr ro).inRound l=Fr (some l):=rfl
section
variable {P:Program}{ro:Option Nat}{n:Nat}{ops:Array Oper}{Q:Exit->Act->World->Prop}
theorem Cj {f:FuncId}{args:Array Value}{w:World}{R:Ending->World->Prop}(h:Calls P f args w R):CallsIn (Fr ro) n P f args w R:=callsIn_wide.2 h
theorem CJ {f:FuncId}{args:Array Value}{w:World}{R:Ending->World->Prop}(h:CallsIn (Fr ro) n P f args w R):Calls P f args w R:=callsIn_wide (n:=n).1 h
theorem Gq {row:String}{args:Array Value}{w:World}{R:Value->World->Prop}(h:Rows P row args w R):RowsIn (Fr ro) n P row args w R:=fun c cs _ =>
 let ⟨v,w',r,s⟩:=h c cs;⟨v,w',r,stepsIn_wide.2 s⟩
theorem qx {op:Op}(h:cS op=true)(c:Call):op ≠ .defer c:=fun e=>by subst e;cases h
theorem GV {o:Oper}{a:Act}{next:Act->World->Prop}{r:Result Next}(h:o.upon P a next Q r):o.uponIn (Fr ro) n P a next Q r:=by
 have hd:(Fr ro).depth.isSome=true->1<=n:=fun e=>by simp[Fr,Fence.wide]at e
 cases r with
 |ok x w' =>
  cases x with
  |value v=>exact h
  |skip=>exact h
  |defer d=>exact h
  |enter f args=>exact⟨hd,(Cj (show Calls P f args w' _ from h)).mono fun e w'' he=>by cases e<;>exact he⟩
  |row row args=>exact⟨hd,Gq (show Rows P row args w' _ from h)⟩
  |_=>exact False.elim h
 |halt x w' =>
  cases x with
  |panic v=>exact h
  |_=>exact False.elim h
theorem zG {o:Oper}(hd:cS o.op=true){a:Act}{w:World}{next:Act->World->Prop}(h:o.wp P a w next Q):o.wpIn (Fr ro) n P a w next Q:=by
 refine⟨fun _ _=>trivial,?_⟩;rw[Oper.semAt_eq _ _ _ (qx hd)];exact GV h
theorem jM (hQ:¬LetsOut Q)(hd:∀o∈ops.toList,cS o.op=true):∀(l:List Nat) (a:Act) (w:World),wpOps P ops Q l a w->wpOpsIn (Fr ro) n P ops Q l a w
 |[],a,w,h=>h
 |i::rest,a,w,h=>by
  unfold wpOps at h;unfold wpOpsIn;cases ho:ops[i]? with
  |none=>simp only[ho]at h ⊢;exact jM hQ hd rest a w h
  |some o =>
   simp only[ho]at h ⊢;have hm:o∈ops.toList:=bc (by rw[Array.getElem?_toList];exact ho);split
   .rename_i hw;simp only[hw,if_true]at h;rcases h with h|h
    .exact Oper.wpIn_mono (fun a w h=>jM hQ hd rest a w h) (zG (hd o hm) h)
    .exact absurd h.2 hQ
   .rename_i hw;simp only[hw]at h;exact⟨fun _ _=>trivial,jM hQ hd rest _ w h⟩
theorem rH {id:Nat}{a:Act}{w:World}(hQ:¬LetsOut Q)(hd:∀o∈ops.toList,cS o.op=true)(h:wpList P ops Q ops.toList a w):(Code.region id ops false).wpIn (Fr ro) n P Q a w :=
 wpIn_region (jM hQ hd _ _ _ (by rw[List.range_eq_range',<-Array.length_toList,wpOps_eq_wpList ops.toList 0 ah];exact h))
theorem n6 {id:Nat}{a:Act}{w:World}(hm:P.follows .mixedOrders=true)(hQ:¬LetsOut Q)(hd:∀o∈ops.toList,cS o.op=true)(h:wpAny P .any ops Q ops.size (Array.replicate ops.size false) a { w with drawn:=w.drawn+1 }) :
  (Code.region id ops true).wpIn (Fr ro) n P Q a w :=
 wpIn_region_draw fun t=>by
  simp only[Region.schedule,hm,Bool.true_or,if_true];exact jM hQ hd _ _ _ (wpAny_sound ops.size t _ a _ h)
end
section
variable [Globs]
variable {P:Program}{L:Lay}{C:Ctx}{s:St}{a:Act}{w w':World}{ops:Array Oper}
theorem jL {ro:Option Nat}{nn:Nat}{md:Region.Mode}{Q':Exit->Act->World->Prop}:∀(l:List Oper) (k:Nat) (listed:Array Bool) (a:Act) (w:World),(∀j,l[j]? = ops[k+j]?) ->
  Region.seqB md ops l.length k listed=true->wpListIn (Fr ro) nn P ops Q' l a w->wpAnyIn (Fr ro) nn P md ops Q' l.length listed a w
 |[],_,_,_,_,_,hB,h=>⟨by simpa [Region.seqB] using hB,h⟩
 |o::l,k,listed,a,w,hl,hB,h=>by
  have h0:ops[k]? = some o:=by simpa using (hl 0).symm
  simp only[List.length_cons,Region.seqB,Bool.and_eq_true,decide_eq_true_eq]at hB;refine⟨fun h1=>(by rw[hB.1]at h1;cases h1),fun i hi=>?_⟩;rw[hB.1]at hi;have hik:i=k:=by simpa using hi
  subst hik;have hw:wpOpIn (Fr ro) nn P ops Q' i (wpListIn (Fr ro) nn P ops Q' l) a w:=by unfold wpOpIn;simp only[h0];exact h
  exact wpOpIn_mono (fun a' w' h'=>jL l (i+1) _ a' w' (fun j=>by have:=hl (j+1);simpa [Nat.add_assoc,Nat.add_comm 1 j] using this) hB.2 h') hw
theorem z_ {ro:Option Nat}{nn:Nat}(hG:Good P L C){n:Nat}{ds:List Nat}(hd:DrawOk ops n ds){Q:Exit->Act->World->Prop}
  (hN:∀o∈ops.toList,b9 C.N o.dst=true/\cS o.op=true) {s0:St} {vs:List PV} (hvl:vs.length=ds.length)
  (hy:∀(k:Nat) (o:Oper) (v:PV),(ops.toList.take n)[k]? = some o->vs[k]? = some v->Yld P L ops (fx ((ds.zip vs).take k) s0) o v)
  (hend:∀a w,SimE C (fx (ds.zip vs) s0) a w->wpListIn (Fr ro) nn P ops Q (ops.toList.drop n) a w) :
  ∀(m:Nat) (U:List Nat) (listed:Array Bool) (s:St) (a:Act) (w:World),U.length=m->U.Nodup->(∀i,i∈U↔i<n/\listed.getD i true=false)->HeadInv .any ops n listed->Agr ds vs n listed s0 s->SimE C s a w ->
   wpAnyIn (Fr ro) nn P .any ops Q (m+(ops.size-n)) listed a w:=by
 have hdl:ds.length=n:=by
  have:=congrArg List.length hd.dst;simp at this;have h1:=hd.le;omega
 have hdi:∀i o,i<n->ops[i]? = some o->∃d,ds[i]? = some d/\o.dst=some d:=by
  intro i o hi ho;have h1:i<ds.length:=J;refine⟨ds[i],List.getElem?_eq_getElem h1,?_⟩;have h2:((ops.toList.take n).map (·.dst))[i]? = (ds.map some)[i]? := by rw[hd.dst]
  rw[List.getElem?_map,List.getElem?_map,List.getElem?_take,if_pos hi,List.getElem?_eq_getElem h1]at h2;have h3:ops.toList[i]? = some o:=by simpa using ho
  rw[h3]at h2;simpa using h2
 have hzn:(ds.zip vs).map (·.1)=ds:=by rw[List.map_fst_zip J]
 have hinj:∀(i j t:Nat),ds[i]? = some t->ds[j]? = some t->i=j:=by
  intro i j t h1 h2;have hi:=(bb h1).1;have hj:=(bb h2).1;have e1:=(bb h1).2;have e2:=(bb h2).2;exact(List.getElem_inj hd.nodup).1 (e1.trans e2.symm)
 intro m
 induction m with
 |zero =>
  intro U listed s a w hU _ hmem inv agr h;have hU0:U=[]:=List.eq_nil_of_length_eq_zero hU;subst hU0;have hall:∀i,i<n->listed.getD i true=true:=fun i hi=>by
   cases hb:listed.getD i true with
   |true=>rfl
   |false=>have:=(hmem i).2 ⟨hi,hb⟩;cases this
  have hle:=hd.le;have hlist:listed=(List.replicate n true++List.replicate (ops.size-n) false).toArray:=by
   apply Array.ext
   .rw[inv.size];simp;omega
   .intro i h1 h2;have hi:i<ops.size:=by rw[<-inv.size];exact h1
    by_cases hlt:i<n
    .have:=hall i hlt;simp[h1]at this;simp[this,hlt]
    .have:=inv.tail i J hi;simp[h1]at this;simp[this,List.getElem_append,hlt]
  have hs:s=fx (ds.zip vs) s0:=by
   refine St.ext' (funext fun t=>?_) (by rw[gy];exact agr.own);by_cases ht:∃j:Nat,ds[j]? = some t
   .obtain⟨j,hj⟩:=ht;have hjn:j<n:=by rw[<-hdl];exact(bb hj).1
    have hl:listed.getD j false=true:=by
     have h1:=hall j hjn;have h2:j<listed.size:=by rw[inv.size];omega
     simp[h2]at h1 ⊢;exact h1
    have hv:=agr.hit t j hjn hl hj;exact(gx _ s0 j t _ (mz hvl hj hv) (by rw[hzn];exact hd.nodup)).symm
   .rw[agr.miss t (fun j _ _ hj=>ht ⟨j,hj⟩),eu];intro p hp e;obtain⟨j,hj,rfl⟩:=List.getElem_of_mem hp;refine ht ⟨j,?_⟩;have:((ds.zip vs).map (·.1))[j]? = some t:=by rw[List.getElem?_map,List.getElem?_eq_getElem hj];simp[<-e]
    rwa [hzn]at this
  rw[Nat.zero_add];have hlen:(ops.toList.drop n).length=ops.size-n:=ah;have:=jL (P:=P) (ops:=ops) (md := .any) (Q':=Q) (ro:=ro) (nn:=nn) (ops.toList.drop n) n listed a w (fun j=>by rw[List.getElem?_drop];simp) (by rw[hlen,hlist];exact hd.seq)
   (hend a w (by rw[<-hs];exact h))
  rwa [hlen]at this
 |succ m ih =>
  intro U listed s a w hU hnd hmem inv agr h;have hlt_in:∀i,i∈Region.ready .any ops listed->i<n:=by
   intro i hi;have hisz:i<ops.size:=by
    obtain⟨_,o,ho,_⟩:=mem_ready.1 hi;exact(cD ho).1
   rcases hd.tail with ht|⟨ht1,ht2⟩
   .omega
   .rcases Nat.lt_or_ge i n with h1|h1
    .exact h1
    .cases hUU:U with
     |nil=>rw[hUU]at hU;simp at hU
     |cons u U' =>
      have hu:=(hmem u).1 (by rw[hUU];simp);exact absurd hi (tail_waits ht1 ht2 J inv _ u O hu.1 hu.2 i h1)
  rw[show m+1+(ops.size-n)=(m+(ops.size-n))+1 by omega];refine⟨fun hnil=>?_,fun i hi=>?_⟩
  .exfalso;obtain⟨i0,hi0,hmin⟩:∃i∈U,∀j∈U,i<=j:=by
    have hne:∃i,i∈U:=by
     cases hUU:U with
     |nil=>rw[hUU]at hU;simp at hU
     |cons u U'=>exact⟨u,ah⟩
    have hd':∀k,(∃i,i∈U/\i<=k)->∃i∈U,∀j∈U,i<=j:=by
     intro k
     induction k with
     |zero=>rintro⟨i,hi,h0⟩;exact⟨i,hi,fun j _=>by omega⟩
     |succ k ihk =>
      rintro⟨i,hi,hk⟩;by_cases hex:∃j,j∈U/\j<=k
      .exact ihk hex
      .refine⟨i,hi,fun j hj=>?_⟩;rcases Nat.lt_or_ge j i with h1|h1
       .exact absurd ⟨j,hj,J⟩ hex
       .exact h1
    obtain⟨i,hi⟩:=hne;exact hd' i ⟨i,hi,aP⟩
   have hu:=(hmem i0).1 hi0;have hsz:i0<ops.size:=by have:=hd.le;omega
   have hr:i0∈Region.ready .any ops listed:=by
    refine mem_ready.2 ⟨hu.2,ops[i0],Array.getElem?_eq_getElem hsz,fun e he hb=>?_⟩;have hlt:=hd.lex i0 _ (Array.getElem?_eq_getElem hsz) e he hb;cases hl:listed.getD e.on true with
    |false =>
     have:=hmin e.on ((hmem e.on).2 ⟨J,hl⟩);omega
    |true =>
     have h2:e.on<listed.size:=by rw[inv.size];omega
     simp[h2]at hl ⊢;exact hl
   rw[hnil]at hr;cases hr
  .have hin:=hlt_in i hi;obtain⟨hun,o,ho,hall⟩:=mem_ready.1 hi;obtain⟨d,hdd,hod⟩:=hdi i o hin ho;have hiv:i<vs.length:=J;have hyi:=hy i o vs[i] (by rw[List.getElem?_take,if_pos hin];simpa using ho) (List.getElem?_eq_getElem hiv);have hisz:i<listed.size:=by rw[inv.size];exact(cD ho).1
   have hsame:∀t∈o.looksAt ops,(fx ((ds.zip vs).take i) s0).reg t=s.reg t:=by
    intro t ht;by_cases hx:∃j:Nat,j<n/\ds[j]? = some t
    .obtain⟨j,hjn,hj⟩:=hx;obtain⟨hji,e,he,hb,hon⟩:=hd.looks i o hin ho t ht j hjn hj;have hl:listed.getD j false=true:=by rw[<-hon];exact hall e he hb
     have hv:=agr.hit t j hjn hl hj;refine gx _ s0 j t _ ?_ ?_
     .rw[List.getElem?_take,if_pos hji];exact mz hvl hj hv
     .rw[List.map_take,hzn];exact hd.nodup.sublist (List.take_sublist _ _)
    .rw[agr.miss t (fun j hj _ hdj=>hx ⟨j,hj,hdj⟩),eu];intro p hp e;have hp':=List.mem_of_mem_take hp;obtain⟨j,hj,rfl⟩:=List.getElem_of_mem hp';refine hx ⟨j,by simp at hj;omega,?_⟩;have:((ds.zip vs).map (·.1))[j]? = some t:=by rw[List.getElem?_map,List.getElem?_eq_getElem hj];simp[<-e]
     rwa [hzn]at this
   have hyl:Yld P L ops s o vs[i]:=hyi.congr (by rw[gy];exact agr.own.symm) hsame;have hnext:∀a' w',SimE C (s.put o.dst vs[i]) a' w'->wpAnyIn (Fr ro) nn P .any ops Q (m+(ops.size-n)) (listed.setIfInBounds i true) a' w':=by
    intro a' w' h';have hUi:i∈U:=(hmem i).2 ⟨hin,hun⟩;refine ih (U.erase i) _ _ a' w' (by rw[List.length_erase_of_mem hUi];omega) (hnd.erase i) (fun k=>?_) (inv.set hi hin) ?_ h'
    .rw[hnd.mem_erase_iff,hmem k];by_cases hki:k=i
     .subst hki;simp[hisz]
     .rw[getD_set_ne true (Ne.symm hki)];exact⟨fun x=>x.2,fun x=>⟨hki,x⟩⟩
    .have hreg:∀t,(s.put o.dst vs[i]).reg t=if t=d then vs[i] else s.reg t:=by
      intro t;rw[hod];show(bif Nat.beq t d then vs[i] else s.reg t)=_;by_cases htd:t=d
      .subst htd;simp
      .rw[bm htd,if_neg htd];rfl
     refine⟨by rw[hod];exact agr.own,fun t j hjn hl hj=>?_,fun t hm=>?_⟩
     .rw[hreg];by_cases htd:t=d
      .subst htd;rw[if_pos O,hinj j i t hj hdd];exact List.getElem?_eq_getElem hiv
      .rw[if_neg htd];have hji:j≠i:=by
        intro e;subst e;rw[hdd]at hj;exact htd (Option.some.inj hj).symm
       rw[getD_set_ne false (Ne.symm hji)]at hl;exact agr.hit t j hjn hl hj
     .rw[hreg];have hli:(listed.setIfInBounds i true).getD i false=true:=by simp[hisz]
      have htd:t≠d:=by
       intro e;subst e;exact hm i hin hli hdd
      rw[if_neg htd];refine agr.miss t fun j hjn hl hj=>?_;by_cases hji:j=i
      .subst hji;exact hm j hjn hli hj
      .exact hm j hjn (by rw[getD_set_ne false (Ne.symm hji)];exact hl) hj
   have hNo:b9 C.N o.dst=true/\cS o.op=true:=hN o (by have:=Array.mem_of_getElem? ho;simpa using this);unfold wpOpIn;rw[ho];simp only;rcases hyl with⟨hw,hq⟩|⟨hw,hq⟩
   .rw[if_pos (hw.spec h)];exact zG hNo.2 (hq.wp hG h hNo.1 hnext)
   .rw[if_neg (by rw[hw.spec h];simp)];refine⟨fun _ _=>trivial,hnext _ _ ?_⟩;rw[hq];exact h.put hNo.1 undef
end
variable [Globs]
def aw (next:St->Prop)(Q:Exit->St->Prop):Exit->St->Prop
 |.normal,s=>next s
 |e,s=>Q e s
def aq (id:Nat)(Q:Exit->St->Prop):Exit->St->Prop
 |.exit id',s=>if id'=id then Q .normal s else Q (.exit id') s
 |e,s=>Q e s
def Ghost (s s1:St):Prop:=∀C a w,(∀b,C.X b->b<C.B)->SimE C s a w->SimE C s1 a w
theorem Ghost.refl (s:St):Ghost s s:=fun _ _ _ _ h=>h
theorem Ghost.trans {s1 s2 s3:St}(h1:Ghost s1 s2)(h2:Ghost s2 s3):Ghost s1 s3:=fun C a w hx h=>h2 C a w hx (h1 C a w hx h)
def Gh (K:St->Prop)(s:St):Prop:=∃s1,Ghost s s1/\K s1
theorem Gh.of {K:St->Prop}{s:St}(h:K s):Gh K s:=⟨s,.refl s,h⟩
def Dk (C:Ctx):Prop:=C.dfs.Nodup/\∀D0∈C.dfs,C.B<=D0/\C.keep .dfd (.pointer (some ⟨D0,0,none⟩))
structure Ext (C C':Ctx):Prop where
 B:C'.B=C.B
 X:C'.X=C.X
 w0:C'.w0=C.w0
 N:C'.N=C.N
 keep:∀c v,C.keep c v->C'.keep c v
 dk:Dk C->Dk C'
theorem Ext.refl (C:Ctx):Ext C C:=⟨O,O,O,O,fun _ _ h=>h,id⟩
theorem Ext.trans {A C D0:Ctx}(h:Ext A C)(k:Ext C D0):Ext A D0:=⟨k.B.trans h.B,k.X.trans h.X,k.w0.trans h.w0,k.N.trans h.N,fun c v hk=>k.keep c v (h.keep c v hk),fun hk=>k.dk (h.dk hk)⟩
def BO (X:Ctx->Ctx->Prop)(C:Ctx)(Q:Exit->St->Prop)(e:Exit)(a:Act)(w:World):Prop:=∃C' s,X C C'/\SimE C' s a w/\Q e s
def wv (P:Program)(L:Lay)(g:Operand)(ps:Array Tmp)(assign body:Code)(Q:Exit->St->Prop)(s:St):Prop :=
 ∀(n:Nat) (C:Ctx) (a:Act) (w:World),Good P L C->SimE C s a w->fL true C.N (.rangeFunc g ps assign body)=true->(∀s,¬Q .outgrown s)->(Code.rangeFunc g ps assign body).wpIn (Fr none) n P (BO Ext C Q) a w
def KB (P:Program)(L:Lay)(s:St)(o:Oper)(K:St->Prop):Prop:=∀(ro:Option Nat) (n:Nat) (C:Ctx) (a:Act) (w:World) (Q:Exit->Act->World->Prop),Good P L C->SimE C s a w->b9 C.N o.dst=true->¬LetsOut Q ->
 o.wpIn (Fr ro) n P a w (fun a' w'=>∃s',SimE C s' a' w'/\K s') Q
def PSemI (P:Program)(L:Lay)(ops:Array Oper)(K:St->Prop):List Oper->St->Prop
 |[],s=>K s
 |o::rest,s=>(Wants ops s o true/\(POp P L s o (PSemI P L ops K rest)\/Sm P L s o (PSemI P L ops K rest)\/KB P L s o (PSemI P L ops K rest)))\/(Wants ops s o false/\PSemI P L ops K rest (s.put o.dst (.raw undef)))
theorem PSemI.sound {P:Program}{L:Lay}{C:Ctx}{ops:Array Oper}{ro:Option Nat}{n:Nat}(hG:Good P L C){K':St->Prop}{Q:Exit->Act->World->Prop}(hQ:¬LetsOut Q)(hK:∀s' a' w',SimE C s' a' w'->K' s'->Q .normal a' w') :
  ∀(l:List Oper) (s:St) (a:Act) (w:World),(∀o∈l,b9 C.N o.dst=true/\cS o.op=true)->SimE C s a w->PSemI P L ops K' l s->wpListIn (Fr ro) n P ops Q l a w
 |[],s,a,w,_,h,hp=>hK s a w h hp
 |o::l,s,a,w,hN,h,hp=>by
  unfold wpListIn;have hN':∀o'∈l,b9 C.N o'.dst=true/\cS o'.op=true:=fun o' ho'=>hN o' (by simp[ho']);obtain⟨h1,h2⟩:=hN o ah;rcases hp with⟨hw,hp⟩|⟨hw,hp⟩
  .rw[if_pos (hw.spec h)];rcases hp with hp|hp|hp
   .exact zG h2 (hp.wp hG h h1 fun s' a' w' h' hp'=>PSemI.sound hG hQ hK l s' a' w' hN' h' hp')
   .exact zG h2 (Oper.wp_mono (fun a' w' ⟨s',h',hp'⟩=>PSemI.sound hG hQ hK l s' a' w' hN' h' hp') (hp C a w _ hG h h1))
   .exact Oper.wpIn_mono (fun a' w' ⟨s',h',hp'⟩=>PSemI.sound hG hQ hK l s' a' w' hN' h' hp') (hp ro n C a w _ hG h h1 hQ)
  .rw[if_neg (by rw[hw.spec h];simp)];exact⟨fun _ _=>trivial,PSemI.sound hG hQ hK l _ _ w hN' (h.put h1 undef) hp⟩
def PDrawI (P:Program)(L:Lay)(ops:Array Oper)(K:St->Prop)(s:St):Prop :=
 ∃n ds,kM ops n ds=true/\PQuiet P L ops (fun s'=>PSemI P L ops K (ops.toList.drop n) s') (ops.toList.take n) s
section
variable {P:Program}{L:Lay}{C:Ctx}{s:St}{a:Act}{w w':World}{ops:Array Oper}
theorem PDrawI.sound {ro:Option Nat}{nn:Nat}(hG:Good P L C){K':St->Prop}{Q:Exit->Act->World->Prop}(hK:∀s' a' w',SimE C s' a' w'->K' s'->Q .normal a' w')(hQ:¬LetsOut Q)(hN:∀o∈ops.toList,b9 C.N o.dst=true/\cS o.op=true)
  (h:SimE C s a w) (hq:PDrawI P L ops K' s):wpAnyIn (Fr ro) nn P .any ops Q ops.size (Array.replicate ops.size false) a { w with drawn:=w.drawn+1 }:=by
 obtain⟨n,ds,hok,hq⟩:=hq;have hd:=nt hok;obtain⟨vs,h1,h2,h3⟩:=PQuiet.ylds _ ds s hd.dst hq;have hle:=hd.le;obtain⟨γ,h⟩:=h;have hget:∀(j:Nat) (d:Bool),(Array.replicate ops.size false).getD j d=if j<ops.size then false else d:=by
  intro j d;by_cases hj:j<ops.size
  .simp[hj]
  .simp[hj]
 have:=z_ (ro:=ro) (nn:=nn) hG hd (Q:=Q) hN h1 h2 (fun a w h=>PSemI.sound hG hQ hK _ _ a w (fun o ho=>hN o (List.mem_of_mem_drop ho)) h h3) n (List.range n) (Array.replicate ops.size false) s a _ ah List.nodup_range (fun i=>by
   rw[List.mem_range,hget];constructor
   .intro hi;exact⟨hi,by rw[if_pos J]⟩
   .exact fun x=>x.1)
  ⟨ah,(fun j oj _ hl=>by rw[hget]at hl;split at hl<;>cases hl),fun t ht1 ht2=>by rw[hget,if_pos ht2]⟩
  ⟨O,(fun t j _ hl=>by rw[hget]at hl;split at hl<;>cases hl),fun _ _=>rfl⟩ ⟨γ,h.ext (f7 w)⟩
 rwa [show n+(ops.size-n)=ops.size by omega]at this
end
def PWP (P:Program)(L:Lay):Code->(Exit->St->Prop)->St->Prop
 |.skip,Q,s=>Gh (Q .normal) s
 |.region _ ops d,Q,s=>Gh (fun s=>bif d then(PDraw P L ops (Q .normal) s\/PDraw2 P L ops (Q .normal) s\/PDraw3 P L ops (Q .normal) s\/PTree0 P L ops (Q .normal) s\/PDrawI P L ops (Q .normal) s) else(POps P L ops (Q .normal) ops.toList s\/PSem P L ops (Q .normal) ops.toList s\/PSemI P L ops (Q .normal) ops.toList s)) s
 |.seq x y,Q,s=>PWP P L x (aw (fun s'=>PWP P L y Q s') Q) s
 |.cond c x y,Q,s=>Gh (fun s=>∃b,s.ev c = .bool b/\(b=true->PWP P L x Q s)/\(b=false->PWP P L y Q s)) s
 |.block id c,Q,s=>PWP P L c (aq id Q) s
 |.loop c,Q,s=>Gh (fun s=>∃(I:St->Prop) (μ:St->Nat),I s/\∀s,I s->PWP P L c (aw (fun s'=>I s'/\μ s'<μ s) Q) s) s
 |.exit id,Q,s=>Gh (Q (.exit id)) s
 |.ret,Q,s=>Gh (Q .ret) s
 |.label _,Q,s=>Gh (Q .normal) s
 |.rangeFunc g ps assign body,Q,s=>Gh (wv P L g ps assign body Q) s
 |_,_,_=>False
theorem aE {P:Program}{L:Lay}{s s1:St}(hg:Ghost s s1):∀ {c:Code} {Q:Exit->St->Prop},PWP P L c Q s1->PWP P L c Q s
 |.skip,_,⟨s2,h1,h2⟩=>⟨s2,hg.trans h1,h2⟩
 |.region ..,_,⟨s2,h1,h2⟩=>⟨s2,hg.trans h1,h2⟩
 |.seq x _,_,h=>aE (c:=x) hg h
 |.cond ..,_,⟨s2,h1,h2⟩=>⟨s2,hg.trans h1,h2⟩
 |.block _ c,_,h=>aE (c:=c) hg h
 |.loop ..,_,⟨s2,h1,h2⟩=>⟨s2,hg.trans h1,h2⟩
 |.exit ..,_,⟨s2,h1,h2⟩=>⟨s2,hg.trans h1,h2⟩
 |.ret,_,⟨s2,h1,h2⟩=>⟨s2,hg.trans h1,h2⟩
 |.label ..,_,⟨s2,h1,h2⟩=>⟨s2,hg.trans h1,h2⟩
 |.goto ..,_,h=>h.elim
 |.rangeFunc ..,_,⟨s2,h1,h2⟩=>⟨s2,hg.trans h1,h2⟩
 |.scope ..,_,h=>h.elim
 |.refuse ..,_,h=>h.elim
section
variable {P:Program}{L:Lay}{C:Ctx}{s:St}{a:Act}{w w':World}
def Up (C:Ctx)(Q:Exit->St->Prop)(e:Exit)(a:Act)(w:World):Prop:=∃s,SimE C s a w/\Q e s
theorem Good.ext {C':Ctx}(hG:Good P L C)(h:Ext C C'):Good P L C':=⟨hG.lay,by rw[h.X,h.B];exact hG.x,hG.mixed,by rw[h.B,h.w0];exact hG.glob⟩
theorem PWP.soundX {X:Ctx->Ctx->Prop}(hXr:∀C,X C C)(hXt:∀ {A B D0},X A B->X B D0->X A D0)(hXe:∀ {A B},X A B->Ext A B){r:Bool}{ro:Option Nat}(hr:r=true->ro=none/\∀A B,Ext A B->X A B){n:Nat} :
  ∀(c:Code) (Q:Exit->St->Prop) (C:Ctx) (s:St) (a:Act) (w:World),Good P L C->fL r C.N c=true->(∀s,¬Q .outgrown s)->SimE C s a w->PWP P L c Q s->c.wpIn (Fr ro) n P (BO X C Q) a w
 |.skip,Q,C,s,a,w,hG,_,_,h,⟨s1,g,hp⟩=>wpIn_skip ⟨C,s1,hXr C,g C a w hG.x h,hp⟩
 |.region id ops d,Q,C,s,a,w,hG,hc,hQ,h,hp=>by
  obtain⟨s1,g,hp⟩:=hp;replace h:=g C a w hG.x h;have hcc:∀o∈ops.toList,b9 C.N o.dst=true/\cS o.op=true:=fun o ho=>by
   have:=List.all_eq_true.1 hc o ho;simpa using this
  have hN:∀o∈ops.toList,b9 C.N o.dst=true:=fun o ho=>(hcc o ho).1;have hD:∀o∈ops.toList,cS o.op=true:=fun o ho=>(hcc o ho).2;have hL:¬LetsOut (BO X C Q):=fun⟨_,_,_,s,_,_,hq⟩=>hQ s hq;have fin:∀s' a' w',SimE C s' a' w'->Q .normal s'->BO X C Q .normal a' w':=fun s' a' w' h' hk=>⟨C,s',hXr C,h',hk⟩;cases d with
  |true =>
   rcases hp with hp|hp|hp|hp|hp
   .exact n6 hG.mixed hL hD (PDraw.sound hG (Q:=BO X C Q) fin hN h hp)
   .exact n6 hG.mixed hL hD (PDraw2.sound hG (Q:=BO X C Q) fin hN h hp)
   .exact n6 hG.mixed hL hD (PDraw3.sound hG (Q:=BO X C Q) fin hN h hp)
   .exact n6 hG.mixed hL hD (PTree0.sound hG (Q:=BO X C Q) fin hN h hp)
   .exact wpIn_region_any hG.mixed (PDrawI.sound hG (Q:=BO X C Q) fin hL hcc h hp)
  |false =>
   rcases hp with hp|hp|hp
   .exact rH hL hD (POps.sound hG (Q:=BO X C Q) fin ops.toList s1 a w hN h hp)
   .exact rH hL hD (PSem.sound hG (Q:=BO X C Q) fin ops.toList s1 a w hN h hp)
   .exact wpIn_region_list (PSemI.sound hG hL fin ops.toList s1 a w hcc h hp)
 |.seq x y,Q,C,s,a,w,hG,hc,hQ,h,hp=>by
  simp only[fL,Bool.and_eq_true]at hc;refine wpIn_seq (wpIn_mono (PWP.soundX hXr hXt hXe hr x (aw (fun s'=>PWP P L y Q s') Q) C s a w hG hc.1 (fun s hq=>hQ s hq) h hp) ?_);rintro e a' w' ⟨C',s',hX,h',hq⟩;cases e
  case normal =>
   have he:=hXe hX;refine wpIn_mono (PWP.soundX hXr hXt hXe hr y Q C' s' a' w' (hG.ext he) (by rw[he.N];exact hc.2) hQ h' hq) ?_;rintro e2 a2 w2 ⟨C2,s2,hX2,h2,hq2⟩;exact⟨C2,s2,hXt hX hX2,h2,hq2⟩
  all_goals exact⟨C',s',hX,h',hq⟩
 |.cond c x y,Q,C,s,a,w,hG,hc,hQ,h,hp=>by
  simp only[fL,Bool.and_eq_true]at hc;obtain⟨s1,g,b,hb,h1,h2⟩:=hp;obtain⟨γ,h'⟩:=g C a w hG.x h;have he:=h'.ev c;rw[hb]at he;refine wpIn_cond (t:=b) he.bool_inv ?_;cases b
  .exact PWP.soundX hXr hXt hXe hr y Q C s1 a w hG hc.2 hQ ⟨γ,h'⟩ (h2 O)
  .exact PWP.soundX hXr hXt hXe hr x Q C s1 a w hG hc.1 hQ ⟨γ,h'⟩ (h1 O)
 |.block id c,Q,C,s,a,w,hG,hc,hQ,h,hp=>by
  refine wpIn_block (wpIn_mono (PWP.soundX hXr hXt hXe hr c (aq id Q) C s a w hG hc (fun s hq=>hQ s hq) h hp) ?_);rintro e a' w' ⟨C',s',hX,h',hq⟩;cases e
  case exit id' =>
   show if id'=id then _ else _
   have hq':if id'=id then Q .normal s' else Q (.exit id') s':=hq
   split
   .rename_i hid;rw[if_pos hid]at hq';exact⟨C',s',hX,h',hq'⟩
   .rename_i hid;rw[if_neg hid]at hq';exact⟨C',s',hX,h',hq'⟩
  all_goals exact⟨C',s',hX,h',hq⟩
 |.loop c,Q,C,s,a,w,hG,hc,hQ,h,hp=>by
  obtain⟨s1,g,I,μ,h0,hround⟩:=hp;replace h:=g C a w hG.x h;let J0:Act->World->Nat->Prop:=fun a w n=>∃C' s,X C C'/\SimE C' s a w/\I s/\μ s=n;have least:∀a w,(∃n,J0 a w n)->∃n,J0 a w n/\∀m,J0 a w m->n<=m:=by
   intro a w ⟨n,hn⟩
   induction n using Nat.strongRecOn with
   |_ n ih =>
    by_cases hx:∃m,m<n/\J0 a w m
    .obtain⟨m,hm,hj⟩:=hx;exact ih m hm hj
    .exact⟨n,hn,fun m hm=>by
      rcases Nat.lt_or_ge m n with h|h
      .exact absurd ⟨m,h,hm⟩ hx
      .exact h⟩
  have hμ:∃f:Act->World->Nat,∀a w,(∃n,J0 a w n)->J0 a w (f a w)/\∀m,J0 a w m->f a w<=m:=by
   refine⟨fun a w=>Classical.epsilon fun n=>J0 a w n/\∀m,J0 a w m->n<=m,fun a w hx=>?_⟩;exact Classical.epsilon_spec (least a w hx)
  obtain⟨f,hf⟩:=hμ;refine wpIn_loop (fun a w=>∃C' s,X C C'/\SimE C' s a w/\I s) f ⟨C,s1,hXr C,h,h0⟩ ?_;rintro a1 w1 ⟨C1,s1,hX1,hs1,hI1⟩;obtain⟨⟨C2,s2,hX2,hs2,hI2,hm2⟩,_⟩:=hf a1 w1 ⟨_,C1,s1,hX1,hs1,hI1,O⟩;have he:=hXe hX2;refine wpIn_mono (PWP.soundX hXr hXt hXe hr c (aw (fun s'=>I s'/\μ s'<μ s2) Q) C2 s2 a1 w1 (hG.ext he) (by rw[he.N];exact hc) (fun s hq=>hQ s hq) hs2 (hround s2 hI2)) ?_;rintro e a3 w3 ⟨C3,s3,hX3,h3,hq⟩;cases e
  case normal =>
   obtain⟨i3,m3⟩:=hq;refine⟨⟨C3,s3,hXt hX2 hX3,h3,i3⟩,?_⟩;have:=(hf a3 w3 ⟨_,C3,s3,hXt hX2 hX3,h3,i3,O⟩).2 _ ⟨C3,s3,hXt hX2 hX3,h3,i3,O⟩;omega
  all_goals exact⟨C3,s3,hXt hX2 hX3,h3,hq⟩
 |.exit id,Q,C,s,a,w,hG,_,_,h,⟨s1,g,hp⟩=>wpIn_exit ⟨C,s1,hXr C,g C a w hG.x h,hp⟩
 |.ret,Q,C,s,a,w,hG,_,_,h,⟨s1,g,hp⟩=>wpIn_ret ⟨C,s1,hXr C,g C a w hG.x h,hp⟩
 |.label l,Q,C,s,a,w,hG,_,_,h,⟨s1,g,hp⟩=>wpIn_label ⟨C,s1,hXr C,g C a w hG.x h,hp⟩
 |.rangeFunc gg ps assign body,Q,C,s,a,w,hG,hc,hQ,h,⟨s1,g,hp⟩=>by
  have hrt:r=true:=by
   simp only[fL,Bool.and_eq_true]at hc;exact hc.1.1.1
  obtain⟨rfl,hX⟩:=hr hrt;subst hrt;refine wpIn_mono (hp n C a w hG (g C a w hG.x h) hc hQ) ?_;rintro e a' w' ⟨C',s',he,h',hq⟩;exact⟨C',s',hX _ _ he,h',hq⟩
 |.goto _,_,_,_,_,_,_,_,_,_,hp=>hp.elim
 |.scope _,_,_,_,_,_,_,_,_,_,hp=>hp.elim
 |.refuse _,_,_,_,_,_,_,_,_,_,hp=>hp.elim
theorem PWP.sound (hG:Good P L C)(c:Code)(Q:Exit->St->Prop)(s:St)(a:Act)(w:World)(hc:kI C.N c=true)(hQ:∀s,¬Q .outgrown s)(h:SimE C s a w)(hp:PWP P L c Q s):c.wp P (Up C Q) a w:=by
 refine wpIn_wide (n:=0).1 (wpIn_mono (PWP.soundX (X:=fun A B=>A=B) (fun _=>rfl) (fun h k=>h.trans k) (fun h=>by subst h;exact .refl _) (r:=false) (ro:=none) (fun h=>by cases h) c Q C s a w hG hc hQ h hp) ?_);rintro e a' w' ⟨C',s',rfl,h',hq⟩;exact⟨s',h',hq⟩
def rv (L:Lay)(s:St):ResultVar->Option (PV × Prop)
 |.tmp t=>some (s.reg t,True)
 |.cell t T=>qv L s (.load T (.tmp t))
def D_ (L:Lay)(s:St):List ResultVar->Option (List PV × Prop)
 |[]=>some ([],True)
 |x::xs=>match rv L s x with
  |some (v,A)=>(match D_ L s xs with|some (vs,B)=>some (v::vs,A/\B)|none=>none)
  |none=>none
def iW:List PV->PV
 |[x]=>x
 |l => .tup l
def oA (L:Lay)(fn:Func)(m:Mode)(r:PV)(s:St):Prop :=
 ∃l Cd d Cd2 fl,D_ L s fn.results.toList=some (l,Cd)/\Cd/\eZ s 5 (iW l)=some (d,Cd2,fl)/\Cd2/\(match m with | .shared=>True | .fresh=>fl.fr=true)/\d=r
def ai (L:Lay)(fn:Func)(m:Mode)(r:PV):Exit->St->Prop
 |.normal,s | .ret,s=>oA L fn m r s
 |_,_=>False
def dh (pargs:List PV):St:={ reg:=fun t=>pargs.getD t (.raw undef),own:=fun _=>(0,none) }
theorem mY (hL:ig P L){γ:Nat->Option Nat}(h:Sim C γ s a w):∀(xs:List ResultVar) (l:List PV) (Cd:Prop),D_ L s xs=some (l,Cd)->Cd ->
  ∃vs:List Value,(∀w2:World,(∀a u,w.cell? a=some u->w2.cell? a=some u)->(xs.mapM (fun | .tmp t=>pure (a.tmps.getD t undef) | .cell p t=>do loadVar t (<-asAddr (a.tmps.getD p undef)):ResultVar->Sem Value)).run P w2 = .ok vs w2)/\l.length=vs.length /\
   ∀(i:Nat) (c:PV) (v:Value),l[i]? = some c->vs[i]? = some v->Rep (ao C γ s w) c v
 |[],l,Cd,hq,_=>by
  simp only[D_,Option.some.injEq,Prod.mk.injEq]at hq;obtain⟨rfl,_⟩:=hq;exact⟨[],fun _ _=>by simp,O,fun i c v h=>by simp at h⟩
 |x::xs,l,Cd,hq,hc=>by
  simp only[D_]at hq;split at hq
  .rename_i v A hv;split at hq
   .rename_i vs B hvs;simp only[Option.some.injEq,Prod.mk.injEq]at hq;obtain⟨rfl,rfl⟩:=hq;obtain⟨us,h1,h2,h3⟩:=mY hL h xs vs B hvs hc.2;have key:∃u,(∀w2:World,(∀a u,w.cell? a=some u->w2.cell? a=some u)->((fun | .tmp t=>pure (a.tmps.getD t undef) | .cell p t=>do loadVar t (<-asAddr (a.tmps.getD p undef)):ResultVar->Sem Value) x).run P w2 = .ok u w2)/\Rep (ao C γ s w) v u:=by
     cases x with
     |tmp t =>
      simp only[rv,Option.some.injEq,Prod.mk.injEq]at hv;obtain⟨rfl,_⟩:=hv;exact⟨_,fun _ _=>rfl,h.regs t⟩
     |cell p T =>
      obtain⟨u,e1,e2⟩:=rP (P:=P) hL h hv hc.1;refine⟨u,fun w2 hk=>?_,e2⟩;replace e1:=e1 w2 hk;have he:a.eval (.tmp p)=a.tmps.getD p undef:=O;rw[he]at e1;simp only[Sem.run_bind];generalize a.tmps.getD p undef=y at e1;unfold Instr.loadAt Instr.sureAddr at e1;split at e1
      .simpa [asAddr] using e1
      .simp at e1
    obtain⟨u,k1,k2⟩:=key;refine⟨u::us,fun w2 hk=>?_,by simp[h2],fun i c v' e1 e2=>?_⟩
    .rw[List.mapM_cons,Sem.run_bind,k1 w2 hk];simp only[Result.andThen_ok,Sem.run_bind,h1 w2 hk,Sem.run_pure]
    .cases i with
     |zero=>simp at e1 e2;subst e1;subst e2;exact k2
     |succ i=>exact h3 i c v' (by simpa using e1) (by simpa using e2)
   .cases hq
  .cases hq
theorem vE (hL:ig P L){γ:Nat->Option Nat}(h:Sim C γ s a w)  (xs:List ResultVar) (l:List PV) (Cd:Prop) (hq:D_ L s xs=some (l,Cd)) (hc:Cd) :
  ∃vs:List Value,(xs.mapM (fun | .tmp t=>pure (a.tmps.getD t undef) | .cell p t=>do loadVar t (<-asAddr (a.tmps.getD p undef)):ResultVar->Sem Value)).run P w = .ok vs w/\l.length=vs.length /\
   ∀(i:Nat) (c:PV) (v:Value),l[i]? = some c->vs[i]? = some v->Rep (ao C γ s w) c v:=by
 obtain⟨vs,h1,h2,h3⟩:=mY (P:=P) hL h xs l Cd hq hc;exact⟨vs,h1 _ fun _ _ h=>h,h2,h3⟩
theorem Ret.of_pwp {m : Mode}{f : FuncId}{fn : Func}{body : Code}{pargs : List PV}{r : PV}(hL : ig P L)(hm : P.follows .mixedOrders = true)(hf : P.funcs[f]? = some fn)(hb : fn.body = some body)(hn : (fn.name == "runtime.NumGoroutine") = false)
  (hlen:Nat.ble pargs.length fn.ntmps=true) (hc:kI fn.ntmps body=true) (h:PWP P L body (ai L fn m r) (dh pargs)):Ret P m f pargs r:=by
 refine⟨⟨fn,hf,hn,by simp[hb]⟩,fun w X args hg hX hl hargs=>?_⟩;let C:Ctx:=⟨w.heap.size,X,w,fn.ntmps,fun _ _=>False,[]⟩;have hG:Good P L C:=⟨hL,hX,hm,fun w' hb=>Globs.keep w w' hg hb⟩;have hle:args.length<=fn.ntmps:=by rw[<-hl];simpa using hlen
 have hsim:SimE C (dh pargs) { tmps:=args.toArray++Array.replicate (fn.ntmps-args.toArray.size) undef,defers:=[] } w:=by
  refine⟨fun _=>none,O,by simp[C];omega,fun t=>?_,fun k c hk=>by simp[dh]at hk,fun k k' c c' b hk=>by simp[dh]at hk,fun k c b hk=>by simp[dh]at hk,Below.refl _ _,aP,fun c v hk=>hk.elim⟩;show Rep _ (pargs.getD t (.raw undef)) _;rcases Nat.lt_or_ge t args.length with hlt|hge
  .have hlt':t<pargs.length:=J;have e1:pargs.getD t (.raw undef)=pargs[t]:=by simp[hlt']
   have e2:(args.toArray++Array.replicate (fn.ntmps-args.toArray.size) undef).getD t undef=args[t]:=by
    rw[Array.getD_eq_getD_getElem?,Array.getElem?_append_left (by simpa using hlt)];simp[hlt]
   rw[e1,e2];refine .d ((hargs t pargs[t] args[t] (List.getElem?_eq_getElem hlt') (List.getElem?_eq_getElem hlt)).weaken fun b hb=>⟨hb.1,hb.2,fun k c hk=>by simp[dh]at hk⟩)
  .have e1:pargs.getD t (.raw undef) = .raw undef:=by simp[List.getElem?_eq_none (by omega:pargs.length<=t)]
   have e2:(args.toArray++Array.replicate (fn.ntmps-args.toArray.size) undef).getD t undef=undef:=by
    rw[Array.getD_eq_getD_getElem?,Array.getElem?_append_right (by simpa using hge)];rcases Nat.lt_or_ge (t-args.toArray.size) (fn.ntmps-args.toArray.size) with h1|h1
    .rw[Array.getElem?_replicate,if_pos h1];rfl
    .rw[Array.getElem?_eq_none (by simpa using h1)];rfl
   rw[e1,e2];exact .d (.raw _)
 refine calls_of_wp hf hb (wp_mono (PWP.sound hG body _ _ _ w hc (fun _ hq=>hq) hsim h) ?_);have fin:∀ {s:St} {a:Act} {w':World},SimE C s a w'->oA L fn m r s->a.defers=[]/\∃v,(results fn a.tmps).run P w' = .ok v w'/\∃u,Ending.returned v = .returned u/\Below w.heap.size w w'/\DRep w' (m.ok X w w') r u:=by
  rintro s a w' ⟨γ,hs⟩ ⟨l,Cd,d,Cd2,fl,h1,h2,h3,h4,h5,rfl⟩;obtain⟨vs,g1,g2,g3⟩:=vE (P:=P) hL hs fn.results.toList l Cd h1 h2;have hbel:Below w.heap.size w w':=hs.below;have hok:∀k,dM C γ s w' fl k->m.ok X w w' k:=by
   intro k hk;cases m with
   |shared=>exact⟨hk.1,hk.2.1⟩
   |fresh=>exact⟨hk.2.2.2 h5,hk.1⟩
  refine⟨hs.defers,?_⟩;have hrun:(results fn a.tmps).run P w' = .ok (if h:vs.toArray.size=1 then vs.toArray[0] else .tuple vs.toArray) w':=by
   unfold results;rw[<-Array.toArray_toList (xs:=fn.results),List.mapM_toArray];simp only[Sem.run_bind,Sem.run_map,Sem.run_pure];exact congrArg (fun q:Result (List Value)=>(q.andThen fun a w'=>Result.ok a.toArray w').andThen fun a w'=>Result.ok (if h:a.size=1 then a[0] else .tuple a) w') g1
  rw[hrun];refine⟨_,O,_,O,hbel,?_⟩;have hrep:Rep (ao C γ s w') (iW l) (if h:vs.toArray.size=1 then vs.toArray[0] else .tuple vs.toArray):=by
   match l,vs,g2,g3 with
   |[],[],_,_=>exact .tup [] [] rfl fun i c v e=>by simp at e
   |[c],[v],_,g3=>exact g3 0 c v rfl rfl
   |c1::c2::l,v1::v2::vs,hlen,g3 =>
    rw[dif_neg ah];exact .tup _ _ hlen g3
  exact(iz hX hs 5 _ _ _ _ _ h3 h4 hrep).weaken hok
 rintro e a w' ⟨s,hs,hq⟩;cases e
 case normal=>exact fin hs hq
 case ret=>exact fin hs hq
 all_goals exact hq.elim
structure Taken (dfs:List Nat) (w w':World):Prop where
 os:w'.os=w.os
 tape:w'.tape=w.tape
 output:w'.output=w.output
 size:w'.heap.size=w.heap.size
 same:∀b,w'.heap[b]? = w.heap[b]? \/ (b∈dfs/\w.heap[b]? = some (.deferred (some [])))
theorem lW {fn:Func}{tmps:Array Value}{R:Ending->World->Prop}{n:Nat}(all:List Nat)(w0:World)(hfin:∀w',Taken all w0 w'->∃v,(results fn tmps).run P w' = .ok v w'/\R (.returned v) w') :
  ∀(l:List Nat) (w:World),l.Nodup->(∀D0∈l,D0∈all/\w.heap[D0]? = some (.deferred (some []))/\w0.heap[D0]? = some (.deferred (some [])))->Taken all w0 w->LeavesInM (Fr none) n P fn tmps R (l.map wY) .returning w
 |[],w,_,_,ht=>hfin w ht
 |D0::l,w,hn,hd,ht=>by
  rw[List.nodup_cons]at hn;obtain⟨h1,h2,h3⟩:=hd D0 (.head _);refine⟨(fun e=>by cases e),.inl ⟨D0,_,O,run_takeDeferred h2,?_⟩⟩;have hlt:D0<w.heap.size:=(cD h2).1;have hoth:∀b,b≠D0->(w.putObj D0 (.deferred none)).heap[b]? = w.heap[b]? := fun b hb=>World.putObj_heap_other hb;refine lW all w0 hfin l _ hn.2 (fun D' hD'=>?_) ⟨ht.os,ht.tape,ht.output,?_,fun b=>?_⟩
  .obtain⟨q1,q2,q3⟩:=hd D' (.tail _ hD');have hne:D'≠D0:=fun e=>hn.1 (by rw[<-e];exact hD');exact⟨q1,by rw[hoth D' hne];exact q2,q3⟩
  .have:(w.putObj D0 (.deferred none)).heap.size=w.heap.size:=by simp[World.putObj]
   rw[this];exact ht.size
  .by_cases hb:b=D0
   .subst hb;exact .inr ⟨h1,h3⟩
   .rw[hoth b hb];exact ht.same b
theorem Ret.of_pwpR {m : Mode}{f : FuncId}{fn : Func}{body : Code}{pargs : List PV}{r : PV}(hL : ig P L)(hm : P.follows .mixedOrders = true)(hf : P.funcs[f]? = some fn)(hb : fn.body = some body)(hn : (fn.name == "runtime.NumGoroutine") = false)
  (hlen:Nat.ble pargs.length fn.ntmps=true) (hc:fL true fn.ntmps body=true) (_hres:fn.results=fn.results) (h:PWP P L body (ai L fn m r) (dh pargs)):Ret P m f pargs r:=by
 refine⟨⟨fn,hf,hn,by simp[hb]⟩,fun w X args hg hX hl hargs=>?_⟩;let C:Ctx:=⟨w.heap.size,X,w,fn.ntmps,fun _ _=>False,[]⟩;have hG:Good P L C:=⟨hL,hX,hm,fun w' hb=>Globs.keep w w' hg hb⟩;have hle:args.length<=fn.ntmps:=by rw[<-hl];simpa using hlen
 have hsim:SimE C (dh pargs) { tmps:=args.toArray++Array.replicate (fn.ntmps-args.toArray.size) undef,defers:=[] } w:=by
  refine⟨fun _=>none,O,by simp[C];omega,fun t=>?_,fun k c hk=>by simp[dh]at hk,fun k k' c c' b hk=>by simp[dh]at hk,fun k c b hk=>by simp[dh]at hk,Below.refl _ _,aP,fun c v hk=>hk.elim⟩;show Rep _ (pargs.getD t (.raw undef)) _;rcases Nat.lt_or_ge t args.length with hlt|hge
  .have hlt':t<pargs.length:=J;have e1:pargs.getD t (.raw undef)=pargs[t]:=by simp[hlt']
   have e2:(args.toArray++Array.replicate (fn.ntmps-args.toArray.size) undef).getD t undef=args[t]:=by
    rw[Array.getD_eq_getD_getElem?,Array.getElem?_append_left (by simpa using hlt)];simp[hlt]
   rw[e1,e2];refine .d ((hargs t pargs[t] args[t] (List.getElem?_eq_getElem hlt') (List.getElem?_eq_getElem hlt)).weaken fun b hb=>⟨hb.1,hb.2,fun k c hk=>by simp[dh]at hk⟩)
  .have e1:pargs.getD t (.raw undef) = .raw undef:=by simp[List.getElem?_eq_none (by omega:pargs.length<=t)]
   have e2:(args.toArray++Array.replicate (fn.ntmps-args.toArray.size) undef).getD t undef=undef:=by
    rw[Array.getD_eq_getD_getElem?,Array.getElem?_append_right (by simpa using hge)];rcases Nat.lt_or_ge (t-args.toArray.size) (fn.ntmps-args.toArray.size) with h1|h1
    .rw[Array.getElem?_replicate,if_pos h1];rfl
    .rw[Array.getElem?_eq_none (by simpa using h1)];rfl
   rw[e1,e2];exact .d (.raw _)
 refine CJ (ro:=none) (n:=0) (callsIn_of_wp_marks hf hb trivial (wpIn_mono (PWP.soundX (X:=Ext) .refl .trans id (r:=true) (ro:=none) (fun _=>⟨O,fun _ _ h=>h⟩) body _ C _ _ w hG hc (fun _ hq=>hq) hsim h) ?_));have fin:∀ {C':Ctx} {s:St} {a:Act} {w':World},Ext C C'->SimE C' s a w'->oA L fn m r s->LeavesInM (Fr none) 0 P fn a.tmps (fun e w'=>∃u,e = .returned u/\Below w.heap.size w w'/\DRep w' (m.ok X w w') r u) a.defers .returning w':=by
  rintro C' s a w' hE ⟨γ,hs⟩ ⟨l,Cd,d,Cd2,fl,h1,h2,h3,h4,h5,rfl⟩;obtain⟨vs',hvs,g2,g3⟩:=mY (P:=P) hL hs fn.results.toList l Cd h1 h2;have hX':∀b,C'.X b->b<C'.B:=by rw[hE.X,hE.B];exact hX
  have hBe:C'.B=w.heap.size:=hE.B;have hbel:Below w.heap.size w w':=by
   have:=hs.below;rw[hE.B,hE.w0]at this;exact this
  have hok:∀k,dM C' γ s w' fl k->m.ok X w w' k:=by
   intro k hk;have h6:¬X k:=by have:=hk.2.1;rw[hE.X]at this;exact this
   cases m with
   |shared=>exact⟨hk.1,h6⟩
   |fresh=>exact⟨by rw[<-hBe];exact hk.2.2.2 h5,hk.1⟩
  obtain⟨hnd,hdk⟩:=hE.dk ⟨List.nodup_nil,fun D0 hD=>by cases hD⟩;have hD:∀D0∈C'.dfs,C'.B<=D0/\w'.heap[D0]? = some (.deferred (some [])):=fun D0 hD=>by
   obtain⟨q1,q2⟩:=hdk D0 hD;have:=hs.kept _ _ q2;cases this with
   |d hd=>cases hd
   |dfd _ hd=>exact⟨q1,hd⟩
  have hrep:Rep (ao C' γ s w') (iW l) (if h:vs'.toArray.size=1 then vs'.toArray[0] else .tuple vs'.toArray):=by
   match l,vs',g2,g3 with
   |[],[],_,_=>exact .tup [] [] rfl fun i c v e=>by simp at e
   |[c],[v],_,g3=>exact g3 0 c v rfl rfl
   |c1::c2::l,v1::v2::vs,hlen,g3 =>
    rw[dif_neg ah];exact .tup _ _ hlen g3
  have hdr:=(iz hX' hs 5 _ _ _ _ _ h3 h4 hrep).weaken hok;rw[hs.defers];refine lW C'.dfs w' (fun w'' ht=>?_) C'.dfs w' hnd (fun D0 hDm=>⟨hDm,(hD D0 hDm).2,(hD D0 hDm).2⟩) ⟨O,O,O,O,fun b => .inl O⟩;have hkeep:∀b (o:Obj),w'.heap[b]? = some o->(∀ds,o ≠ .deferred ds)->w''.heap[b]? = some o:=fun b o ho hne=>by
   rcases ht.same b with q|⟨_,q⟩
   .rw[q];exact ho
   .rw[ho]at q;cases q;exact absurd O (hne _)
  have hcell:∀a u,w'.cell? a=some u->w''.cell? a=some u:=fun ad u hc=>by
   obtain⟨ob,q1,q2⟩:∃ob:Obj,w'.heap[ad.block]? = some ob/\∀ds,ob ≠ .deferred ds:=by
    simp only[World.cell?]at hc;cases hob:w'.heap[ad.block]? with
    |none=>rw[hob]at hc;simp at hc
    |some ob =>
     refine⟨ob,O,fun ds e=>?_⟩;subst e;rw[hob]at hc;simp at hc
   rw[World.cell?_of_block (w:=w') (a:=ad) ((hkeep ad.block ob q1 q2).trans q1.symm)];exact hc
  have hrun:(results fn a.tmps).run P w'' = .ok (if h:vs'.toArray.size=1 then vs'.toArray[0] else .tuple vs'.toArray) w'':=by
   unfold results;rw[<-Array.toArray_toList (xs:=fn.results),List.mapM_toArray];simp only[Sem.run_bind,Sem.run_map,Sem.run_pure];exact congrArg (fun q:Result (List Value)=>(q.andThen fun a w'=>Result.ok a.toArray w').andThen fun a w'=>Result.ok (if h:a.size=1 then a[0] else .tuple a) w') (hvs w'' hcell)
  refine⟨_,hrun,_,O,hbel.trans ⟨ht.os,ht.tape,ht.output,by rw[ht.size];exact aP,fun b hb=>?_⟩,hdr.mono (fun b hb=>?_) (fun b o v _ hc=>?_) (fun b es k _ hc=>hkeep b _ hc (fun ds e=>by cases e))⟩
  .rcases ht.same b with q|⟨q1,_⟩
   .exact q
   .have:=(hD b q1).1;rw[hBe]at this;omega
  .cases m with
   |shared=>exact⟨by rw[ht.size];exact hb.1,hb.2⟩
   |fresh=>exact⟨hb.1,by rw[ht.size];exact hb.2⟩
  .obtain⟨ob,q1,q2⟩:∃ob:Obj,w'.heap[b]? = some ob/\∀ds,ob ≠ .deferred ds:=by
    simp only[World.cell?]at hc;cases hob:w'.heap[b]? with
    |none=>rw[hob]at hc;simp at hc
    |some ob =>
     refine⟨ob,O,fun ds e=>?_⟩;subst e;rw[hob]at hc;simp at hc
   rw[World.cell?_of_block (w:=w') (a:=⟨b,o,none⟩) ((hkeep b ob q1 q2).trans q1.symm)];exact hc
 rintro e a w' ⟨C',s,hE,hs,hq⟩;cases e
 case normal=>exact fin hE hs hq
 case ret=>exact fin hE hs hq
 all_goals exact hq.elim
def aj (L:Lay)(fn:Func)(K:St->PV->Prop):Exit->St->Prop
 |.normal,s | .ret,s=>∃l Cd,D_ L s fn.results.toList=some (l,Cd)/\Cd/\K s (iW l)
 |_,_=>False
def bh (s:St)(pargs:List PV):St:={ reg:=fun t=>pargs.getD t (.raw undef),own:=s.own }
theorem bT {o:Oper}{fop:Operand}{args:Array Operand}{tys:Array TypeId}{f:FuncId}{caps:List PV}{fn:Func}{body:Code}{K:St->Prop}(hL:ig P L)(ho:o.op = .call ⟨.value fop,args,tys⟩)(hclo:s.ev fop = .clo f caps)
  (hf : P.funcs[f]? = some fn) (hb : fn.body = some body) (hn : (fn.name == "runtime.NumGoroutine") = false) (hlen : Nat.ble (args.toList.map s.ev ++ caps).length fn.ntmps = true) (hc : kI fn.ntmps body = true)
  (h:PWP P L body (aj L fn (fun s' r=>K (({ reg:=s.reg,own:=s'.own }:St).put o.dst r))) (bh s (args.toList.map s.ev++caps))):Sm P L s o K:=by
 intro C a w Q hG hs hN;obtain⟨γ,hs⟩:=hs;have hfv:=hs.ev fop;rw[hclo]at hfv;obtain⟨vs,hv,hcl,hcd⟩:=hfv.clo_inv;unfold Oper.wp;rw[jC (f:=f) ho hv ⟨fn,hf,hn,by simp[hb]⟩,Oper.upon_enter];let C':Ctx:=⟨C.B,C.X,C.w0,fn.ntmps,fun c v=>C.keep c v\/∃t,c=s.reg t/\v=a.tmps.getD t undef,[]⟩;have hG':Good P L C':=⟨hG.lay,hG.x,hG.mixed,hG.glob⟩;have hargs:∀(i:Nat) (c:PV) (v:Value),(args.toList.map s.ev++caps)[i]? = some c->(args.toList.map a.eval++vs)[i]? = some v->Rep (ao C γ s w) c v:=by
  intro i c v e1 e2;rw[List.getElem?_append]at e1 e2;simp only[List.length_map]at e1 e2;split at e1
  .rename_i hlt;rw[if_pos hlt]at e2;rw[List.getElem?_map]at e1 e2;cases hx:args.toList[i]? with
   |none=>rw[hx]at e1;simp at e1
   |some x=>rw[hx]at e1 e2;simp at e1 e2;subst e1;subst e2;exact hs.ev x
  .rename_i hlt;rw[if_neg hlt]at e2;exact hcd _ c v e1 e2
 have hlv:(args.toList.map s.ev++caps).length=(args.toList.map a.eval++vs).length:=by simp[hcl]
 have hle:(args.toList.map a.eval++vs).length<=fn.ntmps:=by rw[<-hlv];simpa using hlen
 generalize args.toList.map s.ev++caps=pargs at h hargs hlv;generalize args.toList.map a.eval++vs=vargs at hargs hlv hle;have hsim:SimE C' (bh s pargs) { tmps:=vargs.toArray++Array.replicate (fn.ntmps-vargs.toArray.size) undef,defers:=[] } w:=by
  refine⟨γ,O,by simp[C'];omega,fun t=>?_,hs.sites,hs.inj,hs.base,hs.below,hs.top,?_⟩
  .show Rep (ao C γ s w) (pargs.getD t (.raw undef)) _;rcases Nat.lt_or_ge t vargs.length with hlt|hge
   .have hlt':t<pargs.length:=J;have e1:pargs.getD t (.raw undef)=pargs[t]:=by simp[hlt']
    have e2:(vargs.toArray++Array.replicate (fn.ntmps-vargs.toArray.size) undef).getD t undef=vargs[t]:=by
     rw[Array.getD_eq_getD_getElem?,Array.getElem?_append_left (by simpa using hlt)];simp[hlt]
    rw[e1,e2];exact hargs t pargs[t] vargs[t] (List.getElem?_eq_getElem hlt') (List.getElem?_eq_getElem hlt)
   .have e1:pargs.getD t (.raw undef) = .raw undef:=by simp[List.getElem?_eq_none (by omega:pargs.length<=t)]
    have e2:(vargs.toArray++Array.replicate (fn.ntmps-vargs.toArray.size) undef).getD t undef=undef:=by
     rw[Array.getD_eq_getD_getElem?,Array.getElem?_append_right (by simpa using hge)];rcases Nat.lt_or_ge (t-vargs.toArray.size) (fn.ntmps-vargs.toArray.size) with h1|h1
     .rw[Array.getElem?_replicate,if_pos h1];rfl
     .rw[Array.getElem?_eq_none (by simpa using h1)];rfl
    rw[e1,e2];exact .d (.raw _)
  .rintro c v (hk|⟨t,rfl,rfl⟩)
   .exact hs.kept c v hk
   .exact hs.regs t
 refine calls_of_wp hf hb (wp_mono (PWP.sound hG' body _ _ _ w hc (fun _ hq=>hq) hsim h) ?_)
 have fin:∀ {s':St} {a':Act} {w':World},SimE C' s' a' w'->(∃l Cd,D_ L s' fn.results.toList=some (l,Cd)/\Cd/\K (({ reg:=s.reg,own:=s'.own }:St).put o.dst (iW l))) ->
   a'.defers=[]/\∃v,(results fn a'.tmps).run P w' = .ok v w'/\∃s'',SimE C s'' (a.put o.dst v) w'/\K s'':=by
  rintro s' a' w' ⟨γ',hs'⟩ ⟨l,Cd,h1,h2,h3⟩;obtain⟨vs,g1,g2,g3⟩:=vE (P:=P) hL hs' fn.results.toList l Cd h1 h2;refine⟨hs'.defers,?_⟩;have hrun:(results fn a'.tmps).run P w' = .ok (if h:vs.toArray.size=1 then vs.toArray[0] else .tuple vs.toArray) w':=by
   unfold results;rw[<-Array.toArray_toList (xs:=fn.results),List.mapM_toArray];simp only[Sem.run_bind,Sem.run_map,Sem.run_pure];exact congrArg (fun q:Result (List Value)=>(q.andThen fun a w'=>Result.ok a.toArray w').andThen fun a w'=>Result.ok (if h:a.size=1 then a[0] else .tuple a) w') g1
  have hrep:Rep (ao C' γ' s' w') (iW l) (if h:vs.toArray.size=1 then vs.toArray[0] else .tuple vs.toArray):=by
   match l,vs,g2,g3 with
   |[],[],_,_=>exact .tup [] [] rfl fun i c v e=>by simp at e
   |[c],[v],_,g3=>exact g3 0 c v rfl rfl
   |c1::c2::l,v1::v2::vs,hlen,g3 =>
    rw[dif_neg ah];exact .tup _ _ hlen g3
  refine⟨_,hrun,_,⟨γ',?_⟩,h3⟩;have hback:Sim C γ' { reg:=s.reg,own:=s'.own } a w' :=
   ⟨hs.defers,hs.size,fun r=>hs'.kept _ _ (.inr ⟨r,O,O⟩),hs'.sites,hs'.inj,hs'.base,hs'.below,hs'.top,fun c v hk=>hs'.kept c v (.inl hk)⟩
  exact hback.put hN hrep
 rintro e a' w' ⟨s',hs',hq⟩;cases e
 case normal=>exact fin hs' hq
 case ret=>exact fin hs' hq
 all_goals exact hq.elim
end
end Go.Pv
namespace Go.Pv
open Go.RowKit
variable [Globs]
section
variable {P:Program}{L:Lay}{Q:Exit->St->Prop}{K:St->Prop}{s:St}{ops:Array Oper}{rest:List Oper}{o:Oper}
theorem POp.mono' {K':St->Prop}(hk:∀s,K s->K' s)(h:POp P L s o K):POp P L s o K':=by
 rcases h with⟨pv,h1,h2⟩|⟨s',h1,h2⟩|h1
 .exact .inl ⟨pv,h1,hk _ h2⟩
 .exact .inr (.inl ⟨s',h1,hk _ h2⟩)
 .exact .inr (.inr (h1.mono hk))
theorem cB {x y:Code}(h:PWP P L x (aw (fun s'=>PWP P L y Q s') Q) s):PWP P L (.seq x y) Q s:=h
theorem Gd (h:Q .normal s):PWP P L .skip Q s:=Gh.of h
theorem IE (h:Q .ret s):PWP P L .ret Q s:=Gh.of h
theorem Gc {id:Nat}(h:Q (.exit id) s):PWP P L (.exit id) Q s:=Gh.of h
theorem bq {id:Nat}{l:List Oper}(h:POps P L l.toArray (Q .normal) l s):PWP P L (.region id l.toArray false) Q s:=Gh.of (.inl h)
theorem l6 {K:St->Prop}:∀(l1 l2:List Oper) (s:St),POps P L ops (fun s'=>PSem P L ops K l2 s') l1 s->PSem P L ops K (l1++l2) s
 |[],_,_,h=>h
 |_::l1,l2,_,h=>h.imp (fun x=>⟨x.1,.inl (x.2.mono' fun s' h'=>l6 l1 l2 s' h')⟩) (fun x=>⟨x.1,l6 l1 l2 _ x.2⟩)
theorem aM {id:Nat}{l:List Oper}(n:Nat)(h:POps P L l.toArray (fun s'=>PSem P L l.toArray (Q .normal) (l.drop n) s') (l.take n) s):PWP P L (.region id l.toArray false) Q s:=by
 have:=l6 (K:=Q .normal) (l.take n) (l.drop n) s h;rw[List.take_append_drop]at this;exact Gh.of (.inr (.inl this))
theorem mS {K:St->Prop}:∀(l1 l2:List Oper) (s:St),POps P L ops (fun s'=>PSemI P L ops K l2 s') l1 s->PSemI P L ops K (l1++l2) s
 |[],_,_,h=>h
 |_::l1,l2,_,h=>h.imp (fun x=>⟨x.1,.inl (x.2.mono' fun s' h'=>mS l1 l2 s' h')⟩) (fun x=>⟨x.1,mS l1 l2 _ x.2⟩)
theorem AT {j e:Nat}{want:Bool}(hg:o.guard=some (j,want))(hd:(ops[j]?).bind (·.dst)=some e)(hr:s.reg e = .bool want)(h:KB P L s o (PSemI P L ops K rest)):PSemI P L ops K (o::rest) s := .inl ⟨.yes hg hd hr,.inr (.inr h)⟩
theorem rD (h:POps P L ops K rest s):PSemI P L ops K rest s:=by
 have:=mS (P:=P) (L:=L) (ops:=ops) (K:=K) rest [] s h;rwa [List.append_nil]at this
theorem aV (hg:o.guard=none)(h:Sm P L s o (PSem P L ops K rest)):PSem P L ops K (o::rest) s := .inl ⟨.none hg,.inr h⟩
theorem aO (h:POps P L ops K rest s):PSem P L ops K rest s:=by
 have:=l6 (P:=P) (L:=L) (ops:=ops) (K:=K) rest [] s h;rwa [List.append_nil]at this
theorem PQuiet.mono {K K':St->Prop}(hk:∀s,K s->K' s):∀(l:List Oper) (s:St),PQuiet P L ops K l s->PQuiet P L ops K' l s
 |[],s,h=>hk s h
 |_::l,_,h=>h.imp (fun⟨x,pv,y,z⟩=>⟨x,pv,y,PQuiet.mono hk l _ z⟩) (fun x=>⟨x.1,PQuiet.mono hk l _ x.2⟩)
theorem jX {id:Nat}{l:List Oper}(n:Nat)(ds:List Nat)(hok:kM l.toArray n ds=true)(h:PQuiet P L l.toArray (fun s'=>POps P L l.toArray (Q .normal) (l.drop n) s') (l.take n) s):PWP P L (.region id l.toArray true) Q s :=
 Gh.of (Or.inl ⟨n,ds,hok,PQuiet.mono (fun _ h=>aO h) _ _ h⟩)
theorem DB {id:Nat}{l:List Oper}(n:Nat)(ds:List Nat)(hok:kM l.toArray n ds=true)(h:PQuiet P L l.toArray (fun s'=>PSemI P L l.toArray (Q .normal) (l.drop n) s') (l.take n) s):PWP P L (.region id l.toArray true) Q s :=
 Gh.of (Or.inr (Or.inr (Or.inr (Or.inr ⟨n,ds,hok,h⟩))))
theorem ca {id:Nat}{l:List Oper}(Z Y0:List Nat)(f:Nat)(ch:List Nat)(hok:iF l.toArray ch=true)(hlt:pg l.toArray ch f=true)(h:P3 P L l.toArray (I8 Z Y0 f) (eH ch) (Q .normal) 0 l s):PWP P L (.region id l.toArray true) Q s :=
 Gh.of (Or.inr (Or.inr (Or.inl (.inl ⟨Z,Y0,f,ch,hok,hlt,h⟩))))
theorem fy {id:Nat}{ops:List Oper}(l:List (Nat × Nat))(hok:iF ops.toArray []=true)(hlc:Da ops.toArray l=true)(h:P5 P L ops.toArray (l.map (·.2)) (uC l) (Q .normal) 0 ops s):PWP P L (.region id ops.toArray true) Q s :=
 Gh.of (Or.inr (Or.inr (Or.inl (.inr ⟨l,hok,hlc,h⟩))))
theorem uB (ops:Array Oper)(ch:List Nat):pg ops ch 0=true:=by
 rw[pg,List.all_eq_true];intro i _;simp
theorem bS {id:Nat}{l:List Oper}(Z ch:List Nat)(hok:iF l.toArray ch=true)(h:P3 P L l.toArray (I8 Z [] 0) (eH ch) (Q .normal) 0 l s):PWP P L (.region id l.toArray true) Q s :=
 ca Z [] 0 ch hok (uB _ _) h
theorem Ge {id:Nat}{l:List Oper}(h:PTree P L l.toArray (Q .normal) l.length (Array.replicate l.length false) s):PWP P L (.region id l.toArray true) Q s :=
 Gh.of (Or.inr (Or.inr (Or.inr (Or.inl h))))
theorem aZ {id:Nat}{l:List Oper}(n m:Nat)(ds F:List Nat)(hok:n3 l.toArray n m ds F=true)(hnone:(ds.drop n).all (fun d=>(s.own d).2.isNone)=true)(h:PQuiet P L l.toArray (fun s'=>FD l.toArray (n+m) F s'=true/\POps P L l.toArray (Q .normal) (l.drop n) s') (l.take n) s):PWP P L (.region id l.toArray true) Q s :=
 Gh.of (Or.inr (Or.inl ⟨n,m,ds,F,hok,fun d hd=>by simpa using List.all_eq_true.1 hnone d hd,h⟩))
theorem bP {c:Operand}{x y:Code}{b:Bool}(hc:s.ev c = .bool b)(h1:b=true->PWP P L x Q s)(h2:b=false->PWP P L y Q s):PWP P L (.cond c x y) Q s:=Gh.of ⟨b,hc,h1,h2⟩
theorem Gf {c:Operand}{x y:Code}(hc:s.ev c = .bool true)(h1:PWP P L x Q s):PWP P L (.cond c x y) Q s:=Gh.of ⟨true,hc,fun _=>h1,fun h=>by cases h⟩
theorem DC {c:Operand}{x y:Code}(hc:s.ev c = .bool false)(h1:PWP P L y Q s):PWP P L (.cond c x y) Q s:=Gh.of ⟨false,hc,(fun h=>by cases h),fun _=>h1⟩
theorem cz {next:St->Prop}(h:next s):aw next Q .normal s:=h
theorem GZ {id:Nat}(h:Q .normal s):aq id Q (.exit id) s:=by show if id=id then _ else _;rw[if_pos O];exact h
theorem GY {id id':Nat}(hne:Nat.beq id' id=false)(h:Q (.exit id') s):aq id Q (.exit id') s:=by
 show if id'=id then _ else _
 rw[if_neg (fun e=>by subst e;simp at hne)];exact h
variable {d e j:Nat}{op:Op}{ty:TypeId}{pos:String}{af:Array Edge}{want:Bool}
theorem aY (h:K s):POps P L ops K [] s:=h
theorem aH (h:POp P L s ⟨some d,op,ty,pos,af,none⟩ (POps P L ops K rest)):POps P L ops K (⟨some d,op,ty,pos,af,none⟩::rest) s := .inl ⟨.none O,h⟩
theorem bL (h:POp P L s ⟨none,op,ty,pos,af,none⟩ (POps P L ops K rest)):POps P L ops K (⟨none,op,ty,pos,af,none⟩::rest) s := .inl ⟨.none O,h⟩
theorem cE (h:K s):PQuiet P L ops K [] s:=h
theorem jb {pv:PV}{Cd:Prop}(hq:qv L s op=some (pv,Cd))(hc:Cd)(h:POps P L ops K rest (s.putR d pv)):POps P L ops K (⟨some d,op,ty,pos,af,none⟩::rest) s:=aH (.inl ⟨pv,.v hq hc,h⟩)
theorem JM {pv:PV}{Cd:Prop}{g:Option (Nat × Bool)}(hq:qv L s op=some (pv,Cd))(hc:Cd)(h:K (s.putR d pv)):POp P L s ⟨some d,op,ty,pos,af,g⟩ K := .inl ⟨pv,.v hq hc,h⟩
theorem kj {pv:PV}{g:Option (Nat × Bool)}(hq:QOp P L s ⟨some d,op,ty,pos,af,g⟩ pv)(h:K (s.putR d pv)):POp P L s ⟨some d,op,ty,pos,af,g⟩ K := .inl ⟨pv,hq,h⟩
section ops
variable {g:Option (Nat × Bool)}{T:TypeId}{x y:Operand}{r re:LRow}{E:TypeId}
theorem DD {ix:Operand}{rows:List (List PV)}{row:List PV}{k:IntKind}{n:Int}(hr:L T=some r)(hs:r.sh = .sl E)(hre:L E=some re)(hx:s.ev x = .sl rows)(hix:s.ev ix = .int k n)(h0:0<=n)(hrow:rows[n.toNat]? = some row)
  (hlen:row.length=re.size):QOp P L s ⟨some d,.indexAddr T x ix,ty,pos,af,g⟩ (.dref row 0) := .idx O hr hs hre (.inl hx) hix h0 hrow hlen
theorem jy {ix:Operand}{rows:List (List PV)}{row:List PV}{k:IntKind}{n:Int}(hr:L T=some r)(hs:r.sh = .sl E)(hre:L E=some re)(hx:s.ev x = .fsl rows)(hix:s.ev ix = .int k n)(h0:0<=n)(hrow:rows[n.toNat]? = some row)
  (hlen:row.length=re.size):QOp P L s ⟨some d,.indexAddr T x ix,ty,pos,af,g⟩ (.dref row 0) := .idx O hr hs hre (.inr hx) hix h0 hrow hlen
theorem jz {α:Type}{enc:α->List PV}{l:List α}{a:α}{ix:Operand}{k:IntKind}{n:Int}(hr:L T=some r)(hs:r.sh = .sl E)(hre:L E=some re)(hx:s.ev x = .sl (l.map enc))(hix:s.ev ix = .int k n)(h0:0<=n)(hget:l[n.toNat]? = some a)
  (hlen:(enc a).length=re.size):QOp P L s ⟨some d,.indexAddr T x ix,ty,pos,af,g⟩ (.dref (enc a) 0):=DD hr hs hre hx hix h0 (by rw[List.getElem?_map,hget];rfl) hlen
theorem Gg {α:Type}{enc:α->List PV}{l:List α}{a:α}{ix:Operand}{k:IntKind}{n:Int}(hr:L T=some r)(hs:r.sh = .sl E)(hre:L E=some re)(hx:s.ev x = .fsl (l.map enc))(hix:s.ev ix = .int k n)(h0:0<=n)(hget:l[n.toNat]? = some a)
  (hlen:(enc a).length=re.size):QOp P L s ⟨some d,.indexAddr T x ix,ty,pos,af,g⟩ (.dref (enc a) 0):=jy hr hs hre hx hix h0 (by rw[List.getElem?_map,hget];rfl) hlen
theorem bO {ix:Operand}{k:IntKind}{n:Int}{st gn i m:Nat}{c:Cont}(hr:L T=some r)(hs:r.sh = .sl E)(hre:L E=some re)(hx:s.ev x = .als st gn i m)(hown:s.own st=(gn,some c))(hsz:c.sz=re.size)(hix:s.ev ix = .int k n)(h0:0<=n)(hlt:n<m) :
  QOp P L s ⟨some d,.indexAddr T x ix,ty,pos,af,g⟩ (.ptr st gn (i+n.toNat) 0) := .idxA O hr hs hre hx hown hsz hix h0 hlt
theorem JQ {lo hi:Option Operand}{st gn i m:Nat}{c:Cont}(l h:Nat)(hr:L T=some r)(hs:r.sh = .sl E)(hre:L E=some re)(hx:s.ev x = .als st gn i m)(hown:s.own st=(gn,some c))(hsz:c.sz=re.size)(hlo:Cg s lo 0 l)(hhi:Cg s hi m h)(hlt:l<h)(hle:h<=m) :
  QOp P L s ⟨some d,.slice T x lo hi none,ty,pos,af,g⟩ (.als st gn (i+l) (h-l)) := .slA O hr hs hre hx hown hsz hlo hhi hlt hle
theorem JR {lo hi:Option Operand}{α:Type}{e:α->List PV}{q:List α}(l h:Nat)(hr:L T=some r)(hs:r.sh = .sl E)(hre:L E=some re)(hx:s.ev x = .fsl (q.map e))(hlo:Cg s lo 0 l)(hhi:Cg s hi q.length h)(hlh:l<=h)(hle:h<=q.length)(hlen:∀a,(e a).length=re.size) :
  QOp P L s ⟨some d,.slice T x lo hi none,ty,pos,af,g⟩ (.fsl (((q.take h).drop l).map e)):=by
 have:=QOp.slg (P:=P) (L:=L) (s:=s) (o:=⟨some d,.slice T x lo hi none,ty,pos,af,g⟩) true O hr hs hre hx hlo (by rw[List.length_map];exact hhi) hlh (by rw[List.length_map];exact hle) (fun row hrow=>by obtain⟨a,_,rfl⟩:=List.mem_map.1 hrow;exact hlen a);rw[cond_true,<-List.map_take,<-List.map_drop]at this;exact this
theorem cu {st gn i jj:Nat}{c:Cont}{row:List PV}{pv:PV}(hr:L T=some r)(hx:s.ev x = .ptr st gn i jj)(hown:s.own st=(gn,some c))(hrow:c.rows[i]? = some row)(hp:part r row jj=some pv) :
  QOp P L s ⟨some d,.load T x,ty,pos,af,g⟩ pv := .ldp O hr hx hown hrow hp
theorem dA {fop:Operand}{args:Array Operand}{tys:Array TypeId}{f:FuncId}{caps pargs:List PV}{Cd:Prop}{b:Fl}{rr:PV}(hf:s.ev fop = .clo f caps)(hret:Ret P .shared f pargs rr)(hres:e_ (eZ s 4) (args.toList.map s.ev++caps)=some (pargs,Cd,b))(hc:Cd)(hb:b.cl=true) :
  QOp P L s ⟨some d,.call ⟨.value fop,args,tys⟩,ty,pos,af,g⟩ rr := .call O hf hres hc hb hret
theorem yX {fop:Operand}{args:Array Operand}{tys:Array TypeId}{f:FuncId}{caps pargs:List PV}{Cd:Prop}{b:Fl}{rr rf:PV}(hf:s.ev fop = .clo f caps)(hret:Ret P .fresh f pargs rr)(hres:e_ (eZ s 4) (args.toList.map s.ev++caps)=some (pargs,Cd,b))(hc:Cd)(hrf:rr.frs.fz=some rf) :
  QOp P L s ⟨some d,.call ⟨.value fop,args,tys⟩,ty,pos,af,g⟩ rf:=by
 rw[PV.fz_eq]at hrf;have:=QOp.callF (P:=P) (L:=L) (o:=⟨some d,.call ⟨.value fop,args,tys⟩,ty,pos,af,g⟩) O hf hres hc hret;rwa [Option.some.inj hrf]at this
theorem n_ {fop:Operand}{args:Array Operand}{tys:Array TypeId}{f:FuncId}{caps pargs:List PV}{Cd:Prop}{b:Fl}{rr rf:PV}(hf:s.ev fop = .clo f caps)(hret:Ret P .shared f pargs rr)(hres:e_ (eZ s 4) (args.toList.map s.ev++caps)=some (pargs,Cd,b))(hc:Cd)(hfl:rr.flat=true)(hrf:rr.frs.fz=some rf) :
  QOp P L s ⟨some d,.call ⟨.value fop,args,tys⟩,ty,pos,af,g⟩ rf:=yX hf (hret.fresh_of_flat hfl) hres hc hrf
theorem JL {v:PV}{gn:Nat}{oc:Option Cont}{Pr:Prop}(hx:(s.ev x).fz=some v)(hown:s.own d=(gn,oc))(h1:du s v.cells=some Pr)(h2:Pr)(h0:Nat.blt 0 v.cells.length=true)
  (h:K ((s.setOwn d (gn+1) (some ⟨T,v.cells.length,[v.cells],2⟩)).putR d (.ptr d (gn+1) 0 0))):POp P L s ⟨some d,.box T x,ty,pos,af,g⟩ K:=by
 rw[PV.fz_eq]at hx;have hx':=Option.some.inj hx;refine .inr (.inl ⟨_,.box O O (by rw[hx'];exact h1) h2 (by rw[hx'];simpa using h0),?_⟩);rw[hx',St.fin,hown];exact h
theorem FU {z:List PV}{gn:Nat}{oc:Option Cont}(hr:L T=some r)(hz:r.zero=some z)(hown:s.own d=(gn,oc))(h0:Nat.blt 0 z.length=true)
  (h:K ((s.setOwn d (gn+1) (some ⟨T,z.length,[z],2⟩)).putR d (.ptr d (gn+1) 0 0))):POp P L s ⟨some d,.alloc T,ty,pos,af,g⟩ K:=by
 refine .inr (.inl ⟨_,.alloc O O hr hz (by simpa using h0),?_⟩);rw[St.fin,hown];exact h
theorem Do {v:PV}{k gn jj:Nat}{tc:TypeId}{sz:Nat}{row new:List PV}{Pr:Prop}(hr:L T=some r)(hx:s.ev x = .ptr k gn 0 jj)(hown:s.own k=(gn,some ⟨tc,sz,[row],2⟩))(hv:(s.ev y).fz=some v)(h1:du s v.cells=some Pr)(h2:Pr)
  (hsz:v.cells.length=r.size) (hle:Nat.ble (jj+r.size) row.length=true) (hnew:mg row jj v.cells=new) (h:K (s.setOwn k gn (some ⟨tc,sz,[new],2⟩))):POp P L s ⟨none,.store T x y,ty,pos,af,g⟩ K:=by
 rw[PV.fz_eq]at hv;have hv':=Option.some.inj hv;refine .inr (.inl ⟨_,.store 2 O O hr hx hown (by rfl) (by rw[hv'];exact h1) h2 (by rw[hv'];exact hsz) (by simpa using hle) (aP) (by rw[List.all_eq_true];intro c _;cases c<;>rfl),?_⟩);have hm:∀l:List PV,l.map (dY 2)=l:=by intro l;induction l with|nil=>rfl|cons c l ih=>rw[List.map_cons,ih];cases c<;>rfl
 rw[hv',hm];have:([row]:List (List PV)).set 0 (mg row jj v.cells)=[new]:=by rw[hnew];rfl
 rw[this];exact h
theorem bN {v:PV}{k gn i jj kd kd':Nat}{tc:TypeId}{sz:Nat}{rows:List (List PV)}{row:List PV}{Pr:Prop}(hr:L T=some r)(hx:s.ev x = .ptr k gn i jj)(hown:s.own k=(gn,some ⟨tc,sz,rows,kd⟩))(hrow:rows[i]? = some row)(hv:(s.ev y).fz=some v)(h1:du s v.cells=some Pr)(h2:Pr)
  (hsz:v.cells.length=r.size) (hle:Nat.ble (jj+r.size) row.length=true) (hk:Nat.ble kd kd'=true) (hkd:v.cells.all (mA kd')=true) (h:K (s.setOwn k gn (some ⟨tc,sz,rows.set i (mg row jj (v.cells.map (dY kd'))),kd'⟩))):POp P L s ⟨none,.store T x y,ty,pos,af,g⟩ K:=by
 rw[PV.fz_eq]at hv;have hv':=Option.some.inj hv;refine .inr (.inl ⟨_,.store kd' O O hr hx hown hrow (by rw[hv'];exact h1) h2 (by rw[hv'];exact hsz) (by simpa using hle) (by simpa using hk) (by rw[hv'];exact hkd),?_⟩);rw[hv'];exact h
theorem bQ {k gn m k1 k2:Nat}{tc:TypeId}{sz:Nat}{rows1 rows2:List (List PV)}{Cd2:Prop}(kd:Nat)(hr:L T=some r)(hs:r.sh = .sl E)(hre:L E=some re)(hz:re.zero.isSome=true)(hsz:Nat.blt 0 re.size=true)(hx:s.ev x = .als k gn 0 m)(hown:s.own k=(gn,some ⟨tc,sz,rows1,k1⟩))
  (hcs:sz=re.size) (hct:tc=E) (hq:kx s (s.ev y)=some (rows2,k2,Cd2)) (hm:m=rows1.length) (hc2:Cd2) (hlen:∀row∈rows2,row.length=re.size) (hk1:Nat.ble k1 kd=true) (hk2:Nat.ble k2 kd=true) (hb:(rows1.length+rows2.length)*re.bytes<=140737488355328) (h63:rows1.length+rows2.length<=9223372036854775807)
  (h:K ((s.setOwn k (gn+1) (some ⟨E,re.size,rows1++rows2,kd⟩)).putR d (.als k (gn+1) 0 (rows1++rows2).length))) :
  POp P L s ⟨some d,.call ⟨.builtin .append,#[x,y],#[T,T]⟩,ty,pos,af,g⟩ K:=by
 refine .inr (.inl ⟨_,.app kd O O hr hs hre hz (by simpa using hsz) hx hown hm hcs hct hq hc2 hlen (by simpa using hk1) (by simpa using hk2) hb h63,?_⟩);rw[St.fin,hown];exact h
theorem iN {l c:Operand}{kl kc:IntKind}{n:Int}{z:List PV}{gn:Nat}{oc:Option Cont}(hr:L T=some r)(hs:r.sh = .sl E)(hre:L E=some re)(hz:re.zero=some z)(hsz:Nat.blt 0 re.size=true)(hl:s.ev l = .int kl n)(hc:s.ev c = .int kc n)(hown:s.own d=(gn,oc))
  (h0:0<=n) (hb:(re.bytes:Int)*n<=140737488355328) (h63:n<=9223372036854775807) (h:K ((s.setOwn d (gn+1) (some ⟨E,re.size,List.replicate n.toNat z,0⟩)).putR d (.als d (gn+1) 0 (List.replicate n.toNat z).length))) :
  POp P L s ⟨some d,.makeSlice T l c,ty,pos,af,g⟩ K:=by
 refine .inr (.inl ⟨_,.make O O hr hs hre hz (by simpa using hsz) hl hc h0 (Int.le_refl _) hb h63,?_⟩);rw[St.fin,hown];exact h
theorem FW {l c:Operand}{kl kc:IntKind}{n m:Int}{z:List PV}{gn:Nat}{oc:Option Cont}(hr:L T=some r)(hs:r.sh = .sl E)(hre:L E=some re)(hz:re.zero=some z)(hsz:Nat.blt 0 re.size=true)(hl:s.ev l = .int kl n)(hc:s.ev c = .int kc m)(hown:s.own d=(gn,oc))
  (h0:0<=n) (hnm:n<=m) (hb:(re.bytes:Int)*m<=140737488355328) (h63:m<=9223372036854775807) (h:K ((s.setOwn d (gn+1) (some ⟨E,re.size,List.replicate n.toNat z,0⟩)).putR d (.als d (gn+1) 0 (List.replicate n.toNat z).length))) :
  POp P L s ⟨some d,.makeSlice T l c,ty,pos,af,g⟩ K:=by
 refine .inr (.inl ⟨_,.make O O hr hs hre hz (by simpa using hsz) hl hc h0 hnm hb h63,?_⟩);rw[St.fin,hown];exact h
theorem FV {fop:Operand}{args:Array Operand}{tys:Array TypeId}{f:FuncId}{caps pargs:List PV}{Cd:Prop}{b:Fl}{sz gn:Nat}{oc:Option Cont}{rows:List (List PV)}
  (hf:s.ev fop = .clo f caps) (hret:RetO P f pargs T sz rows) (hres:e_ (eZ s 4) (args.toList.map s.ev++caps)=some (pargs,Cd,b)) (hc:Cd) (hown:s.own d=(gn,oc))
  (h:K ((s.setOwn d (gn+1) (some ⟨T,sz,rows,0⟩)).putR d (.als d (gn+1) 0 rows.length))):POp P L s ⟨some d,.call ⟨.value fop,args,tys⟩,ty,pos,af,g⟩ K:=by
 refine .inr (.inl ⟨_,.callO O O hf hret hres hc,?_⟩);rw[St.fin,hown];exact h
def iJ (s:St)(kd:Nat):List (Nat × Operand)->Option (List (List PV))
 |[]=>some []
 |p::ps=>match (s.ev p.2).fz with
  |some v=>(match iJ s kd ps with|some rs=>some (v.cells.map (dY kd)::rs)|none=>none)
  |none=>none
theorem iK (kd:Nat):∀(ps:List (Nat × Operand)) (rows:List (List PV)),iJ s kd ps=some rows->rows=ps.map fun p=>(s.ev p.2).cells.map (dY kd)
 |[],rows,h=>by simp[iJ]at h;exact h
 |p::ps,rows,h=>by
  simp only[iJ,PV.fz_eq]at h;split at h
  .rename_i rs hrs;have:=iK kd ps rs hrs;have h':=Option.some.inj h;rw[<-h',this];rfl
  .cases h
def AL:Nat->Nat->List Nat
 |_,0=>[]
 |k,n+1=>k::AL (k+1) n
theorem iM:∀(n k:Nat),AL k n=(List.range n).map (k+·)
 |0,k=>rfl
 |n+1,k=>by
  rw[AL,iM n (k+1),List.range_succ_eq_map];simp only[List.map_cons,List.map_map,Nat.add_zero];congr 1;apply List.map_congr_left;intro i _;simp;omega
theorem bx {n gn:Nat}{ps:List (Nat × Operand)}{oc:Option Cont}{rows:List (List PV)}{Pr:Prop}(kd:Nat)(hr:L T=some r)(hs:r.sh = .sl E)(hre:L E=some re)(hz:re.zero.isSome=true)(hsz:Nat.blt 0 re.size=true)(hown:s.own d=(gn,oc))(hrows:iJ s kd ps=some rows)
  (hn:ps.map (·.1)=AL 0 n) (hN:Nat.ble (n*re.size) 16777216=true) (hcells:ps.all (fun p=>Nat.beq (s.ev p.2).cells.length re.size)=true) (h1:du s (ps.flatMap fun p=>(s.ev p.2).cells)=some Pr) (h2:Pr) (hkd:(ps.flatMap fun p=>(s.ev p.2).cells).all (mA kd)=true)
  (h:K ((s.setOwn d (gn+1) (some ⟨E,re.size,rows,kd⟩)).putR d (.als d (gn+1) 0 rows.length))):POp P L s ⟨some d,.buildSlice T n ps.toArray,ty,pos,af,g⟩ K:=by
 refine .inr (.inl ⟨_,.slit kd O O hr hs hre hz (by simpa using hsz) (by rw[iM]at hn;simpa using hn) (by simpa using hN) (fun p hp=>?_) h1 h2 hkd,?_⟩)
 .have:=List.all_eq_true.1 hcells p hp;simpa using this
 .rw[St.fin,hown];rw[iK kd ps rows hrows]at h;exact h
theorem FX {gn:Nat}{oc:Option Cont}(hown:s.own d=(gn,oc))(h:K ((s.setOwn d (gn+1) (some ⟨T,0,[],0⟩)).putR d (.mp d (gn+1)))):POp P L s ⟨some d,.makeMap T none,ty,pos,af,g⟩ K:=by
 refine .inr (.inl ⟨_,.makeMap O O,?_⟩);rw[St.fin,hown];exact h
theorem Dn {V:TypeId}{x y v:Operand}{k gn kd:Nat}{rows:List (List PV)}{T':TypeId}{key pv:PV}(kd':Nat)(hr:L T=some r)(hs:r.sh = .map E V)(hre:L E=some re)(hx:s.ev x = .mp k gn)(hown:s.own k=(gn,some ⟨T',0,rows,kd⟩))(hk1:Nat.ble kd kd'=true)(hk3:Nat.blt kd' 3=true)
  (hy:(s.ev y).fz=some key) (hky:re.sh.key key=true) (hkeys:gL re.sh rows=true) (hv:(s.ev v).fz=some pv) (hkd:mA kd' pv=true) (h:K (s.setOwn k gn (some ⟨T',0,jt key (dY kd' pv) rows,kd'⟩))):POp P L s ⟨none,.mapUpdate T x y v,ty,pos,af,g⟩ K:=by
 rw[PV.fz_eq]at hy hv;have hy:=Option.some.inj hy;have hv:=Option.some.inj hv;exact .inr (.inl ⟨_,.mapSet kd' O O hr hs hre hx hown (by simpa using hk1) (by simpa using hk3) (by rw[hy];exact hky) hkeys (by rw[hv];exact hkd),by rw[hy,hv];exact h⟩)
theorem IF {V:TypeId}{rv:LRow}{k gn kd:Nat}{rows:List (List PV)}{T':TypeId}{key z:PV}(hr:L T=some r)(hs:r.sh = .map E V)(hre:L E=some re)(hrv:L V=some rv)(hz:rv.zero=some [z])(hz1:BI P V=true)(hx:s.ev x = .mp k gn)(hown:s.own k=(gn,some ⟨T',0,rows,kd⟩))(hkd:Nat.blt kd 3=true)
  (hy:(s.ev y).fz=some key) (hky:re.sh.key key=true) (hkeys:gL re.sh rows=true):QOp P L s ⟨some d,.lookup T x y false,ty,pos,af,g⟩ (gX z key rows):=by
 rw[PV.fz_eq]at hy;have hy:=Option.some.inj hy;have:=QOp.look (P:=P) (L:=L) (s:=s) (o:=⟨some d,.lookup T x y false,ty,pos,af,g⟩) O hr hs hre hrv hz hz1 hx hown (by simpa using hkd) (by rw[hy];exact hky) hkeys;rw[hy]at this;exact this
theorem JP {src:TypeId}{rs:LRow}{l:List UInt8}(hrs:L src=some rs)(hr:L T=some r)(hs:r.sh = .sl E)(hre:L E=some re)(hsh:re.sh = .int .u8)(hx:s.ev x = .str l):QOp P L s ⟨some d,.convert src T x,ty,pos,af,g⟩ (.fsl (l.map fun c=>[.int .u8 c.toNat])) :=
 .s2b O hrs hr hs hre hsh hx
end ops
theorem POp.mono {K':St->Prop}(hk:∀s,K s->K' s)(h:POp P L s o K):POp P L s o K':=by
 rcases h with⟨pv,h1,h2⟩|⟨s',h1,h2⟩|h1
 .exact .inl ⟨pv,h1,hk _ h2⟩
 .exact .inr (.inl ⟨s',h1,hk _ h2⟩)
 .exact .inr (.inr (h1.mono hk))
theorem POps.mono {K':St->Prop}(hk:∀s,K s->K' s):∀(l:List Oper) (s:St),POps P L ops K l s->POps P L ops K' l s
 |[],s,h=>hk s h
 |_::l,_,h=>h.imp (fun x=>⟨x.1,x.2.mono (fun s' h'=>POps.mono hk l s' h')⟩) (fun x=>⟨x.1,POps.mono hk l _ x.2⟩)
theorem PSem.mono {K':St->Prop}(hk:∀s,K s->K' s):∀(l:List Oper) (s:St),PSem P L ops K l s->PSem P L ops K' l s
 |[],s,h=>hk s h
 |_::l,_,h=>h.imp (fun x=>⟨x.1,x.2.imp (POp.mono' fun s' h'=>PSem.mono hk l s' h') (fun y C a w Q hG hs hN=>Oper.wp_mono (fun _ _ ⟨s',e1,e2⟩=>⟨s',e1,PSem.mono hk l s' e2⟩) (y C a w Q hG hs hN))⟩) (fun x=>⟨x.1,PSem.mono hk l _ x.2⟩)
theorem PSemI.mono {K':St->Prop}(hk:∀s,K s->K' s):∀(l:List Oper) (s:St),PSemI P L ops K l s->PSemI P L ops K' l s
 |[],s,h=>hk s h
 |_::l,_,h=>h.imp (fun x=>⟨x.1,x.2.imp (POp.mono' fun s' h'=>PSemI.mono hk l s' h') (Or.imp (fun y C a w Q hG hs hN=>Oper.wp_mono (fun _ _ ⟨s',e1,e2⟩=>⟨s',e1,PSemI.mono hk l s' e2⟩) (y C a w Q hG hs hN))
   (fun y ro n C a w Q hG hs hN hL=>Oper.wpIn_mono (fun _ _ ⟨s',e1,e2⟩=>⟨s',e1,PSemI.mono hk l s' e2⟩) (y ro n C a w Q hG hs hN hL)))⟩) (fun x=>⟨x.1,PSemI.mono hk l _ x.2⟩)
theorem P3.mono {K':St->Prop}(hk:∀s,K s->K' s){Z:Nat->List Nat}{cls:Nat->Bool}:∀(l:List Oper) (i:Nat) (s:St),P3 P L ops Z cls K i l s->P3 P L ops Z cls K' i l s
 |[],_,s,h=>hk s h
 |_::l,i,_,⟨s',h1,h2⟩=>⟨s',h1,P3.mono hk l (i+1) s' h2⟩
theorem P5.mono {K':St->Prop}(hk:∀s,K s->K' s){Z:List Nat}{lc:Nat->Option Nat}:∀(l:List Oper) (i:Nat) (s:St),P5 P L ops Z lc K i l s->P5 P L ops Z lc K' i l s
 |[],_,s,h=>hk s h
 |_::l,i,_,⟨s',h1,h2⟩=>⟨s',h1,P5.mono hk l (i+1) s' h2⟩
theorem PTree.mono {K':St->Prop}(hk:∀s,K s->K' s):∀(f:Nat) (listed:Array Bool) (s:St),PTree P L ops K f listed s->PTree P L ops K' f listed s
 |0,_,s,h=>⟨h.1,hk s h.2⟩
 |f+1,_,_,h=>⟨fun e=>hk _ (h.1 e),fun i hi=>let ⟨o,ho,hs⟩:=h.2 i hi;⟨o,ho,PSem.mono (PTree.mono hk f _) _ _ hs⟩⟩
theorem Gh.mono {K K':St->Prop}(hk:∀s,K s->K' s){s:St}(h:Gh K s):Gh K' s:=let ⟨s1,h1,h2⟩:=h;⟨s1,h1,hk s1 h2⟩
theorem PWP.mono {c:Code}:∀ {Q Q':Exit->St->Prop},(∀e s,Q e s->Q' e s)->∀s,PWP P L c Q s->PWP P L c Q' s:=by
 induction c with
 |skip=>intro Q Q' hq s h;exact Gh.mono (hq _) h
 |region id ops d =>
  intro Q Q' hq s h;refine Gh.mono (fun s h=>?_) h;cases d with
  |true =>
   rcases h with⟨n,ds,h1,h2⟩|⟨n,m,ds,F,h1,h3,h2⟩|(⟨Z,Y0,f,ch,h1,h3,h2⟩|⟨l,h1,h3,h2⟩)|h2|⟨n,ds,h1,h2⟩
   .exact Or.inl ⟨n,ds,h1,PQuiet.mono (fun s' h'=>PSem.mono (hq _) _ s' h') _ _ h2⟩
   .exact Or.inr (Or.inl ⟨n,m,ds,F,h1,h3,PQuiet.mono (fun s' h'=>⟨h'.1,POps.mono (hq _) _ s' h'.2⟩) _ _ h2⟩)
   .exact Or.inr (Or.inr (Or.inl (.inl ⟨Z,Y0,f,ch,h1,h3,P3.mono (hq _) _ _ _ h2⟩)))
   .exact Or.inr (Or.inr (Or.inl (.inr ⟨l,h1,h3,P5.mono (hq _) _ _ _ h2⟩)))
   .exact Or.inr (Or.inr (Or.inr (Or.inl (PTree.mono (hq _) _ _ _ h2))))
   .exact Or.inr (Or.inr (Or.inr (Or.inr ⟨n,ds,h1,PQuiet.mono (fun s' h'=>PSemI.mono (hq _) _ s' h') _ _ h2⟩)))
  |false=>exact h.imp (POps.mono (hq _) _ s) (Or.imp (PSem.mono (hq _) _ s) (PSemI.mono (hq _) _ s))
 |seq x y ihx ihy =>
  intro Q Q' hq s h;refine ihx ?_ s h;intro e s' he;cases e
  case normal=>exact ihy hq s' he
  all_goals exact hq _ _ he
 |cond c x y ihx ihy =>
  intro Q Q' hq s h;refine Gh.mono (fun s h=>?_) h;obtain⟨b,h1,h2,h3⟩:=h;exact⟨b,h1,fun hb=>ihx hq s (h2 hb),fun hb=>ihy hq s (h3 hb)⟩
 |block id c ih =>
  intro Q Q' hq s h;refine ih ?_ s h;intro e s' he;cases e
  case exit id' =>
   show if id'=id then _ else _
   have he':if id'=id then Q .normal s' else Q (.exit id') s':=he
   split
   .rename_i hid;rw[if_pos hid]at he';exact hq _ _ he'
   .rename_i hid;rw[if_neg hid]at he';exact hq _ _ he'
  all_goals exact hq _ _ he
 |loop c ih =>
  intro Q Q' hq s h;refine Gh.mono (fun s h=>?_) h;obtain⟨I,μ,h0,hr⟩:=h;refine⟨I,μ,h0,fun s1 hs1=>ih ?_ s1 (hr s1 hs1)⟩;intro e s' he;cases e
  case normal=>exact he
  all_goals exact hq _ _ he
 |exit id=>intro Q Q' hq s h;exact Gh.mono (hq _) h
 |ret=>intro Q Q' hq s h;exact Gh.mono (hq _) h
 |label l=>intro Q Q' hq s h;exact Gh.mono (hq _) h
 |goto l=>intro Q Q' hq s h;exact h.elim
 |rangeFunc=>intro Q Q' hq s h;exact Gh.mono (fun s h n C a w hG hs hc hQ=>wpIn_mono (h n C a w hG hs hc fun s hs=>hQ s (hq _ s hs)) fun e a w ⟨C',s',hE,h',hq'⟩=>⟨C',s',hE,h',hq _ _ hq'⟩) h
 |scope=>intro Q Q' hq s h;exact h.elim
 |refuse=>intro Q Q' hq s h;exact h.elim
def St.over (s:St)(l:List (Nat × PV))(m:List (Nat × Nat × Cont)):St :=
 ⟨l.foldr (fun p f r=>bif Nat.beq r p.1 then p.2 else f r) s.reg,m.foldr (fun p f r=>bif Nat.beq r p.1 then(p.2.1,some p.2.2) else f r) s.own⟩
def St.fits (s:St)(l:List (Nat × PV))(m:List (Nat × Nat × Cont)):Prop:=(∀p∈l,s.reg p.1=p.2)/\∀p∈m,s.own p.1=(p.2.1,some p.2.2)
def FitO (s:St):List (Nat × Nat × Cont)->Prop
 |[]=>True
 |(k,g,c)::m=>s.own k=(g,some c)/\FitO s m
def Fit (s:St)(l:List (Nat × PV))(m:List (Nat × Nat × Cont)):Prop :=
 match l with
 |[]=>FitO s m
 |(r,v)::l=>s.reg r=v/\Fit s l m
theorem uZ (s:St):∀l:List (Nat × PV),(∀p∈l,s.reg p.1=p.2)->l.foldr (fun p f r=>bif Nat.beq r p.1 then p.2 else f r) s.reg=s.reg
 |[],_=>rfl
 |(r,v)::l,h=>by
  rw[List.foldr_cons,uZ s l (fun p hp=>h p (by simp[hp]))];funext t;by_cases ht:t=r
  .subst ht;simp;exact(h (t,v) ah).symm
  .simp[bm ht]
theorem uY (s:St):∀m:List (Nat × Nat × Cont),(∀p∈m,s.own p.1=(p.2.1,some p.2.2))->m.foldr (fun p f r=>bif Nat.beq r p.1 then(p.2.1,some p.2.2) else f r) s.own=s.own
 |[],_=>rfl
 |(k,g,c)::m,h=>by
  rw[List.foldr_cons,uY s m (fun p hp=>h p (by simp[hp]))];funext t;by_cases ht:t=k
  .subst ht;simp;exact(h (t,g,c) ah).symm
  .simp[bm ht]
theorem FitO.fits {s:St}:∀ {m:List (Nat × Nat × Cont)},FitO s m->∀p∈m,s.own p.1=(p.2.1,some p.2.2)
 |[],_=>by simp
 |(k,g,c)::m,h=>fun p hp=>by
  have h':s.own k=(g,some c)/\FitO s m:=h;rcases List.mem_cons.1 hp with rfl|hp
  .exact h'.1
  .exact FitO.fits h'.2 p hp
theorem Fit.fits {s:St}:∀ {l:List (Nat × PV)} {m:List (Nat × Nat × Cont)},Fit s l m->s.fits l m
 |[],m,h=>⟨ah,FitO.fits h⟩
 |(r,v)::l,m,h=>by
  have h':s.reg r=v/\Fit s l m:=h;have:=Fit.fits h'.2;refine⟨fun p hp=>?_,this.2⟩;rcases List.mem_cons.1 hp with rfl|hp
  .exact h'.1
  .exact this.1 p hp
theorem Fit.over {s:St}{l:List (Nat × PV)}{m:List (Nat × Nat × Cont)}(h:Fit s l m):s.over l m=s:=by
 have:=h.fits;exact St.ext' (uZ s l this.1) (uY s m this.2)
theorem ap {ι:Type}(I:ι->Prop)(regs:ι->List (Nat × PV))(owns:ι->List (Nat × Nat × Cont))(μ:ι->Nat){c:Code}(i0:ι)(h0:I i0)(hs:Fit s (regs i0) (owns i0))
  (round:∀(i:ι) (s:St),I i->PWP P L c (aw (fun s'=>∃j,I j/\μ j<μ i/\Fit s' (regs j) (owns j)) Q) (s.over (regs i) (owns i))):PWP P L (.loop c) Q s:=by
 let J0:St->Nat->Prop:=fun s n=>∃i,I i/\Fit s (regs i) (owns i)/\μ i=n;have least:∀s,(∃n,J0 s n)->∃n,J0 s n/\∀m,J0 s m->n<=m:=by
  intro s ⟨n,hn⟩
  induction n using Nat.strongRecOn with
  |_ n ih =>
   by_cases hx:∃m,m<n/\J0 s m
   .obtain⟨m,hm,hj⟩:=hx;exact ih m hm hj
   .exact⟨n,hn,fun m hm=>by
     rcases Nat.lt_or_ge m n with h|h
     .exact absurd ⟨m,h,hm⟩ hx
     .exact h⟩
 have hμ:∃f:St->Nat,∀s,(∃n,J0 s n)->J0 s (f s)/\∀m,J0 s m->f s<=m :=
  ⟨fun s=>Classical.epsilon fun n=>J0 s n/\∀m,J0 s m->n<=m,fun s hx=>Classical.epsilon_spec (least s hx)⟩
 obtain⟨f,hf⟩:=hμ;refine Gh.of ⟨fun s=>∃i,I i/\Fit s (regs i) (owns i),f,⟨i0,h0,hs⟩,?_⟩;rintro s1 ⟨i1,hi1,hfit1⟩;obtain⟨⟨i,hi,hfit,hm⟩,_⟩:=hf s1 ⟨_,i1,hi1,hfit1,O⟩;have:=round i s1 hi;rw[hfit.over]at this;refine PWP.mono ?_ _ this;intro e s' hq;cases e
 case normal =>
  obtain⟨j,hj,hlt,hfj⟩:=hq;refine⟨⟨j,hj,hfj⟩,?_⟩;have:=(hf s' ⟨_,j,hj,hfj,O⟩).2 _ ⟨j,hj,hfj,O⟩;omega
 all_goals exact hq
end
end Go.Pv
namespace Go.Pv
open Go.RowKit
variable [Globs]
section
variable {P:Program}{L:Lay}{Q:Exit->St->Prop}{K:St->Prop}{s:St}{ops:Array Oper}{rest:List Oper}{o:Oper}
variable {d e j:Nat}{op:Op}{ty:TypeId}{pos:String}{af:Array Edge}{want:Bool}{g:Option (Nat × Bool)}
theorem jW {b:Bool}(hr:s.reg e = .bool b):s.putR e (.bool b)=s:=by
 refine St.ext' ?_ O;funext t;show(bif Nat.beq t e then PV.bool b else s.reg t)=s.reg t;by_cases ht:t=e
 .subst ht;simp[hr]
 .simp[bm ht]
theorem dy {b:Bool}(_hd:(ops[j]?).bind (·.dst)=some e)(hr:s.reg e = .bool b)(h1:b=true->POps P L ops K (⟨some d,op,ty,pos,af,some (j,want)⟩::rest) (s.putR e (.bool true)))(h0:b=false->POps P L ops K (⟨some d,op,ty,pos,af,some (j,want)⟩::rest) (s.putR e (.bool false))) :
  POps P L ops K (⟨some d,op,ty,pos,af,some (j,want)⟩::rest) s:=by
 have:=jW hr;cases b
 .have h:=h0 O;rwa [this]at h
 .have h:=h1 O;rwa [this]at h
theorem dx {b:Bool}(_hd:(ops[j]?).bind (·.dst)=some e)(hr:s.reg e = .bool b)(h1:b=true->PQuiet P L ops K (⟨some d,op,ty,pos,af,some (j,want)⟩::rest) (s.putR e (.bool true)))(h0:b=false->PQuiet P L ops K (⟨some d,op,ty,pos,af,some (j,want)⟩::rest) (s.putR e (.bool false))) :
  PQuiet P L ops K (⟨some d,op,ty,pos,af,some (j,want)⟩::rest) s:=by
 have:=jW hr;cases b
 .have h:=h0 O;rwa [this]at h
 .have h:=h1 O;rwa [this]at h
theorem gZ {x:Operand}{gn:Nat}{oc:Option Cont}(T:TypeId)(sz kd:Nat)(hx:s.ev x = .nil)(hown:s.own d=(gn,oc))(h:K ((s.setOwn d (gn+1) (some ⟨T,sz,[],kd⟩)).putR d (.als d (gn+1) 0 0))):POp P L s ⟨some d,.move x,ty,pos,af,g⟩ K:=by
 refine .inr (.inl ⟨_,.nils T sz kd (.inl O) O hx,?_⟩);rw[St.fin,hown];exact h
theorem gY {x:Operand}{gn:Nat}{oc:Option Cont}(T:TypeId)(sz kd:Nat)(hx:s.ev x = .nil)(hown:s.own d=(gn,oc))(h:K ((s.setOwn d (gn+1) (some ⟨T,sz,[],kd⟩)).putR d (.als d (gn+1) 0 0))):POp P L s ⟨some d,.assign x,ty,pos,af,g⟩ K:=by
 refine .inr (.inl ⟨_,.nils T sz kd (.inr O) O hx,?_⟩);rw[St.fin,hown];exact h
theorem dj {T E:TypeId}{r re:LRow}{n:Nat}{ps:List (Nat × Operand)}{rows:List (List PV)}{Pr:Prop}(hr:L T=some r)(hs:r.sh = .sl E)(hre:L E=some re)(hz:re.zero.isSome=true)(hsz:Nat.blt 0 re.size=true)(hrows:iJ s 0 ps=some rows)
  (hn:ps.map (·.1)=AL 0 n) (hN:Nat.ble (n*re.size) 16777216=true) (hcells:ps.all (fun p=>Nat.beq (s.ev p.2).cells.length re.size)=true) (h1:du s (ps.flatMap fun p=>(s.ev p.2).cells)=some Pr) (h2:Pr) (hkd:(ps.flatMap fun p=>(s.ev p.2).cells).all (mA 0)=true) :
  QOp P L s ⟨some d,.buildSlice T n ps.toArray,ty,pos,af,g⟩ (.fsl rows):=by
 have:=QOp.slit (P:=P) (L:=L) (s:=s) (o:=⟨some d,.buildSlice T n ps.toArray,ty,pos,af,g⟩) O hr hs hre hz (by simpa using hsz) (by rw[iM]at hn;simpa using hn) (by simpa using hN) (fun p hp=>by
  have:=List.all_eq_true.1 hcells p (by simpa using hp)
  simpa using this) h1 h2 hkd
 rw[iK 0 ps rows hrows];exact this
theorem cC {T E:TypeId}{r re:LRow}{n:Nat}{ps:List (Nat × Operand)}{rows:List (List PV)}{Pr:Prop}(hr:L T=some r)(hs:r.sh = .sl E)(hre:L E=some re)(hz:re.zero.isSome=true)(hsz:Nat.blt 0 re.size=true)(hrows:iJ s 1 ps=some rows)
  (hn:ps.map (·.1)=AL 0 n) (hN:Nat.ble (n*re.size) 16777216=true) (hcells:ps.all (fun p=>Nat.beq (s.ev p.2).cells.length re.size)=true) (h1:du s (ps.flatMap fun p=>(s.ev p.2).cells)=some Pr) (h2:Pr) (hkd:(ps.flatMap fun p=>(s.ev p.2).cells).all (mA 1)=true) :
  QOp P L s ⟨some d,.buildSlice T n ps.toArray,ty,pos,af,g⟩ (.sl rows):=by
 have:=QOp.slitD (P:=P) (L:=L) (s:=s) (o:=⟨some d,.buildSlice T n ps.toArray,ty,pos,af,g⟩) O hr hs hre hz (by simpa using hsz) (by rw[iM]at hn;simpa using hn) (by simpa using hN) (fun p hp=>by
  have:=List.all_eq_true.1 hcells p (by simpa using hp)
  simpa using this) h1 h2 hkd
 rw[iK 1 ps rows hrows];exact this
variable {fn:Func}{r:PV}
theorem iq {t:Nat}{v d:PV}{Cd:Prop}{fl:Fl}(h:fn.results.toList=[.tmp t])(hv:(s.reg t).fz=some v)(hres:eZ s 5 v=some (d,Cd,fl))(hc:Cd)(hd:d=r):ai L fn .shared r .ret s:=by
 rw[PV.fz_eq]at hv;have hv:=Option.some.inj hv;subst hv;exact⟨[s.reg t],True/\True,d,Cd,fl,by rw[h];rfl,⟨trivial,trivial⟩,hres,hc,trivial,hd⟩
theorem fe {t:Nat}{b:Bool}(h:fn.results.toList=[.tmp t])(hv:s.reg t = .bool b)(hd:PV.bool b=r):ai L fn .shared r .ret s :=
 iq h (v := .bool b) (by rw[hv];rfl) O trivial hd
theorem nu {t:Nat}{k:IntKind}{n:Int}(h:fn.results.toList=[.tmp t])(hv:s.reg t = .int k n)(hd:PV.int k n=r):ai L fn .shared r .ret s :=
 iq h (v := .int k n) (by rw[hv];rfl) O trivial hd
theorem wO {t1 t2:Nat}{v1 v2 d1 d2:PV}{C1 C2:Prop}{f1 f2:Fl}(h:fn.results.toList=[.tmp t1,.tmp t2])(h1:(s.reg t1).fz=some v1)(h2:(s.reg t2).fz=some v2)(r1:eZ s 4 v1=some (d1,C1,f1))(r2:eZ s 4 v2=some (d2,C2,f2))(c1:C1)(c2:C2)
  (hd:PV.tup [d1,d2]=r):ai L fn .shared r .ret s:=by
 rw[PV.fz_eq]at h1 h2;have h1:=Option.some.inj h1;have h2:=Option.some.inj h2;subst h1 h2;refine⟨[s.reg t1,s.reg t2],True/\True/\True,.tup [d1,d2],C1/\C2/\True,f1.and (f2.and ⟨true,true⟩),by rw[h];rfl,⟨trivial,trivial,trivial⟩,?_,⟨c1,c2,trivial⟩,trivial,hd⟩;show(match e_ (eZ s 4) [s.reg t1,s.reg t2] with|some (ds,C1,b)=>some (PV.tup ds,C1,b)|none=>none)=_;simp only[e_,r1,r2]
theorem ue {t:Nat}{v d:PV}{Cd:Prop}{c:Bool}(h:fn.results.toList=[.tmp t])(hv:(s.reg t).fz=some v)(hres:eZ s 5 v=some (d,Cd,⟨c,true⟩))(hc:Cd)(hd:d=r):ai L fn .fresh r .ret s:=by
 rw[PV.fz_eq]at hv;have hv:=Option.some.inj hv;subst hv;exact⟨[s.reg t],True/\True,d,Cd,⟨c,true⟩,by rw[h];rfl,⟨trivial,trivial⟩,hres,hc,O,hd⟩
end
section
variable {P:Program}{L:Lay}{Q:Exit->St->Prop}{K:St->Prop}{s:St}{ops:Array Oper}
theorem POps.app {K:St->Prop}:∀(l1 l2:List Oper) (s:St),POps P L ops (fun s'=>POps P L ops K l2 s') l1 s->POps P L ops K (l1++l2) s
 |[],_,_,h=>h
 |_::l1,l2,_,h=>h.imp (fun x=>⟨x.1,x.2.mono fun s' h'=>POps.app l1 l2 s' h'⟩) fun x=>⟨x.1,POps.app l1 l2 _ x.2⟩
theorem PQuiet.app {K:St->Prop}:∀(l1 l2:List Oper) (s:St),PQuiet P L ops (fun s'=>PQuiet P L ops K l2 s') l1 s->PQuiet P L ops K (l1++l2) s
 |[],_,_,h=>h
 |_::l1,l2,_,h=>h.imp (fun⟨x,pv,y,z⟩=>⟨x,pv,y,PQuiet.app l1 l2 _ z⟩) fun x=>⟨x.1,PQuiet.app l1 l2 _ x.2⟩
theorem mR {l:List Oper}(n:Nat)(regs:List (Nat × PV))(owns:List (Nat × Nat × Cont))(h1:POps P L ops (fun s'=>Fit s' regs owns) (l.take n) s)(h2:∀s:St,POps P L ops K (l.drop n) (s.over regs owns)):POps P L ops K l s:=by
 have:=POps.app (K:=K) (l.take n) (l.drop n) s (h1.mono (fun s' hf=>by have:=h2 s';rwa [hf.over]at this) _ _);rwa [List.take_append_drop]at this
theorem ID {x y:Code}(regs:List (Nat × PV))(owns:List (Nat × Nat × Cont))(h1:PWP P L x (aw (fun s'=>Fit s' regs owns) Q) s)(h2:∀s:St,PWP P L y Q (s.over regs owns)):PWP P L (.seq x y) Q s:=by
 refine cB (PWP.mono ?_ _ h1);intro e s' h;cases e
 case normal =>
  have:=h2 s';rwa [Fit.over h]at this
 all_goals exact h
theorem sU {x y:Code}(regs:List (Nat × PV))(owns:List (Nat × Nat × Cont))(h1:PWP P L x (aw (fun s'=>Fit s' regs owns) Q) s)(h2:∀s:St,PWP P L y Q (s.over regs owns)):PWP P L x (aw (fun s'=>PWP P L y Q s') Q) s:=ID regs owns h1 h2
end
theorem wrap_i64 {n:Int}(h1 : -9223372036854775808<=n)(h2:n<=9223372036854775807):IntKind.i64.wrap n=n:=by
 rw[IntKind.wrap_i64];omega
theorem cg {n:Int}(h1 : -9223372036854775808<=n)(h2:n<9223372036854775807):PV.int .i64 (IntKind.i64.wrap (n+1)) = .int .i64 (n+1):=by rw[wrap_i64 J J]
theorem aJ {α:Type}{l:List α}{k:Nat}(h:k<l.length):∃x,l[k]? = some x:=⟨l[k],List.getElem?_eq_getElem h⟩
end Go.Pv
namespace Go.Pv
open Go.RowKit
variable [Globs]
section
variable {C:Ctx}{γ:Nat->Option Nat}{s:St}{a:Act}{w:World}
theorem lN {k0 g0:Nat}{c0 c1:Cont}(ho:s.own k0=(g0,some c0))(ht:c1.ty=c0.ty)(hs:c1.sz=c0.sz)(hl:c1.rows.length=c0.rows.length) :
  ao C γ (s.setOwn k0 g0 (some c1)) w=ao C γ s w:=by
 have hown:∀k,((s.setOwn k0 g0 (some c1)).own k).1=(s.own k).1/\(((s.setOwn k0 g0 (some c1)).own k).2.map fun c=>(⟨γ k,c.ty,c.sz,c.rows.length⟩:SLoc))=(s.own k).2.map fun c=>(⟨γ k,c.ty,c.sz,c.rows.length⟩:SLoc):=by
  intro k;by_cases hk:k=k0
  .subst hk;rw[ak,ho];simp[ht,hs,hl]
  .rw[aF hk];exact⟨O,O⟩
 have hok:∀b,eE C γ (s.setOwn k0 g0 (some c1)) w b=eE C γ s w b:=by
  intro b;refine propext ⟨fun h=>⟨h.1,h.2.1,fun k c hc=>?_⟩,fun h=>⟨h.1,h.2.1,fun k c hc=>?_⟩⟩
  .by_cases hk:k=k0
   .subst hk;exact h.2.2 k c1 (by rw[ak])
   .exact h.2.2 k c (by rw[aF hk];exact hc)
  .by_cases hk:k=k0
   .subst hk;exact h.2.2 k c0 (by rw[ho])
   .rw[aF hk]at hc;exact h.2.2 k c hc
 unfold ao;congr 1
 .funext b;exact hok b
 .funext b;rw[hok b]
 .funext k;exact(hown k).1
 .funext k;exact(hown k).2
theorem SiteOk.rowlen {E:Env}{blk:Option Nat}{c:Cont}(h:SiteOk E blk c)(hz:0<c.sz):∀r∈c.rows,r.length=c.sz:=by
 intro r hr;cases blk with
 |none=>rw[h.emp rfl]at hr;cases hr
 |some b=>obtain⟨cur,_,_,_,f4,_⟩:=h.at_ b rfl hz;exact f4 r hr
theorem Sim.recell (h:Sim C γ s a w){k0 g0:Nat}{c0 c1:Cont}(ho:s.own k0=(g0,some c0))(ht:c1.ty=c0.ty)(hs:c1.sz=c0.sz)(hz0:0<c0.sz)(hl:c1.rows.length=c0.rows.length)(hrl:∀row∈c1.rows,row.length=c1.sz)
  (hcell:∀(i j:Nat) (row1:List PV) (pv1:PV),c1.rows[i]? = some row1->row1[j]? = some pv1->∃row0 pv0,c0.rows[i]? = some row0/\row0[j]? = some pv0/\∀v,KRep (ao C γ s w) c0.kind pv0 v->KRep (ao C γ s w) c1.kind pv1 v) :
  Sim C γ (s.setOwn k0 g0 (some c1)) a w:=by
 have he:=lN (C:=C) (γ:=γ) (w:=w) ho ht hs hl;have hsome:∀k c,((s.setOwn k0 g0 (some c1)).own k).2=some c->∃c',(s.own k).2=some c':=by
  intro k c hc;by_cases hk:k=k0
  .subst hk;exact⟨c0,by rw[ho]⟩
  .rw[aF hk]at hc;exact⟨c,hc⟩
 refine⟨h.defers,h.size,fun r=>by rw[he];exact h.regs r,fun k c hc=>?_,fun k k' c c' b e1 e2 e3 e4=>?_,fun k c b e1 e2=>?_,h.below,h.top,fun c v hk=>by rw[he];exact h.kept c v hk⟩
 .rw[he];by_cases hk:k=k0
  .subst hk;rw[ak]at hc;have hc:c1=c:=Option.some.inj hc;subst hc;have hsite:=h.sites k c0 (by rw[ho]);refine⟨fun hb=>?_,(fun b _ hz=>by omega),(fun b _ hz=>by omega),fun b hb _=>?_⟩
   .have:=hsite.emp hb;exact List.eq_nil_of_length_eq_zero (by rw[hl,this];rfl)
   .obtain⟨cur,f1,f2,f3,f4,f5⟩:=hsite.at_ b hb hz0;refine⟨cur,by rw[ht];exact f1,by rw[hs];exact f2,by rw[hl,hs];exact f3,hrl,fun i j row pv e1 e2=>?_⟩;obtain⟨row0,pv0,g1,g2,g3⟩:=hcell i j row pv e1 e2;obtain⟨v,u1,u2,u3⟩:=f5 i j row0 pv0 g1 g2;exact⟨v,by rw[hs];exact u1,u2,g3 v u3⟩
  .rw[aF hk]at hc;exact h.sites k c hc
 .obtain⟨d,hd⟩:=hsome k c e1;obtain⟨d',hd'⟩:=hsome k' c' e2;exact h.inj k k' d d' b hd hd' e3 e4
 .obtain⟨d,hd⟩:=hsome k c e1;exact h.base k d b hd e2
theorem Sim.drop (hX:∀b,C.X b->b<C.B)(h:Sim C γ s a w){k g:Nat}{c:Cont}(ho:s.own k=(g,some c)) :
  Sim C γ (s.setOwn k (g+1) none) a w/\(ao C γ s w).Le (ao C γ (s.setOwn k (g+1) none) w) /\
   (c.kind=0->∀v,Rep (ao C γ s w) (.als k g 0 c.rows.length) v->DRep w (ao C γ (s.setOwn k (g+1) none) w).okf (.sl c.rows) v):=by
 have hok:∀b,eE C γ s w b->eE C γ (s.setOwn k (g+1) none) w b:=fun b hb=>⟨hb.1,hb.2.1,fun k' c' hc'=>by
  by_cases hk:k'=k
  .subst hk;rw[ak]at hc';cases hc'
  .rw[aF hk]at hc';exact hb.2.2 k' c' hc'⟩
 have hle:(ao C γ s w).Le (ao C γ (s.setOwn k (g+1) none) w):=by
  refine⟨hok,fun b hb=>⟨hb.1,hok b hb.2⟩,fun b hb=>hb.2,fun b _=>rfl,fun k'=>?_,fun k' l' hg hl=>?_,fun k' l' b cur hg hl hb hh=>⟨cur,hh,O⟩⟩
  .show(s.own k').1<=((s.setOwn k (g+1) none).own k').1;by_cases hk:k'=k
   .subst hk;rw[ak,ho];simp
   .rw[aF hk];exact aP
  .by_cases hk:k'=k
   .subst hk;simp only[ao,ak,Option.map_none]at hl;cases hl
   .refine⟨l',?_,O,O,O,aP⟩;simp only[ao,aF hk]at hl ⊢;exact hl
 refine⟨⟨h.defers,h.size,fun r=>(h.regs r).mono hle,fun k' c' hc'=>?_,fun k1 k2 c1 c2 b e1 e2 e3 e4=>?_,fun k' c' b e1 e2=>?_,h.below,h.top,fun c v hk=>(h.kept c v hk).mono hle⟩,hle,fun hk v hv=>?_⟩
 .by_cases hk:k'=k
  .subst hk;rw[ak]at hc';cases hc'
  .rw[aF hk]at hc';exact(h.sites k' c' hc').mono hle fun b hb=>rfl
 .have hne:∀ {k' c'},((s.setOwn k (g+1) none).own k').2=some c'->(s.own k').2=some c':=by
   intro k' c' hc';by_cases hk:k'=k
   .subst hk;rw[ak]at hc';cases hc'
   .rwa [aF hk]at hc'
  exact h.inj k1 k2 c1 c2 b (hne e1) (hne e2) e3 e4
 .by_cases hk:k'=k
  .subst hk;rw[ak]at e1;cases e1
  .rw[aF hk]at e1;exact h.base k' c' b e1 e2
 .rcases h.als_at hv ho with⟨h1,_,h3,rfl⟩|⟨b,cap,cur,h1,rfl,h3,h4,h5,h6,h7⟩
  .have:c.rows=[]:=(h.sites k c (by rw[ho])).emp h1;rw[this];exact .sl0 _ _
  .obtain⟨cur',g1,g2,g3,g4,g5⟩:=h.site_at ho h1 (h.cells_sz ho h1 h3 h6);have hb:(ao C γ (s.setOwn k (g+1) none) w).okf b:=by
    have hbase:=h.base k c b (by rw[ho]) h1;refine⟨hbase.1,hbase.2,fun hx=>?_,fun k' c' hc' hb'=>?_⟩
    .have:=hX b hx;omega
    .by_cases hk':k'=k
     .subst hk';rw[ak]at hc';cases hc'
     .rw[aF hk']at hc';exact hk' (h.inj k' k c' c b hc' (by rw[ho]) hb' h1)
   simp only[Nat.zero_mul];refine .sl c.rows b 0 cap c.sz (fun i j=>cur'.getD (i*c.sz+j) undef) hb g2 h4 g4 (fun i j row pv e1 e2=>?_) (fun i j row pv e1 e2=>?_)
   .obtain⟨u,f1,f2,_⟩:=g5 i j row pv e1 e2;rw[bg g1,Nat.zero_add,f1];simp[f1,f2]
   .obtain⟨u,f1,_,f3⟩:=g5 i j row pv e1 e2;have:cur'.getD (i*c.sz+j) undef=u:=by simp[f1]
    simp only[this];rw[hk]at f3;exact hle.drepf f3
end
section
variable {s:St}
theorem Ghost.drop {k g:Nat}{oc:Option Cont}(ho:s.own k=(g,oc)):Ghost s (s.setOwn k (g+2) none):=by
 intro C a w hX ⟨γ,h⟩;have ht:Turn C γ s w w k none:=⟨O,O,O,aP,fun b _ => .inl O,fun b hb=>by cases hb⟩;have h1:=ht.sim h (c:=⟨0,0,[],0⟩) (.none_ O);have hfin:s.fin k ⟨0,0,[],0⟩=s.setOwn k (g+1) (some ⟨0,0,[],0⟩):=by rw[St.fin,ho]
 rw[hfin]at h1;have h2:=(h1.drop hX (ak _ _ _ _)).1;have he:(s.setOwn k (g+1) (some ⟨0,0,[],0⟩)).setOwn k (g+1+1) none=s.setOwn k (g+2) none:=by
  refine St.ext' O (funext fun r=>?_);show(bif Nat.beq r k then _ else(bif Nat.beq r k then _ else _))=(bif Nat.beq r k then _ else _);cases Nat.beq r k<;>rfl
 rw[he]at h2;exact⟨_,h2⟩
theorem Ghost.move {k g k' g' t i j:Nat}{c:Cont}{oc':Option Cont}(hk:Nat.beq k k'=false)(ho:s.own k=(g,some c))(ho':s.own k'=(g',oc'))(hr:s.reg t = .ptr k g i j) :
  Ghost s (((s.setOwn k (g+1) none).setOwn k' (g'+1) (some c)).putR t (.ptr k' (g'+1) i j)):=by
 intro C a w hX ⟨γ,h⟩;have hne:k≠k':=fun e=>by subst e;simp at hk
 have o1:((s.setOwn k (g+1) none).setOwn k' (g'+1) (some c)).own k=(g+1,none):=by rw[aF hne,ak]
 have o2:((s.setOwn k (g+1) none).setOwn k' (g'+1) (some c)).own k'=(g'+1,some c):=ak _ _ _ _;have o3:∀q,q≠k->q≠k'->((s.setOwn k (g+1) none).setOwn k' (g'+1) (some c)).own q=s.own q:=fun q h1 h2=>by rw[aF h2,aF h1]
 have hregs:((s.setOwn k (g+1) none).setOwn k' (g'+1) (some c)).reg=s.reg:=O;generalize (s.setOwn k (g+1) none).setOwn k' (g'+1) (some c)=s1 at *
 have hval:∀ {q:Nat} {d:Cont},(s1.own q).2=some d->∃q0,(s.own q0).2=some d/\γ q0=iD γ k' (γ k) q/\((q=k'/\q0=k)\/(q≠k'/\q≠k/\q0=q)):=by
  intro q d hd;by_cases h2:q=k'
  .subst h2;rw[o2]at hd;exact⟨k,by rw[ho];exact hd,by rw[bU],.inl ⟨O,O⟩⟩
  .by_cases h1:q=k
   .subst h1;rw[o1]at hd;cases hd
   .rw[o3 q h1 h2]at hd;exact⟨q,hd,by rw[fJ h2],.inr ⟨h2,h1,O⟩⟩
 have hok:∀b,eE C γ s w b->eE C (iD γ k' (γ k)) s1 w b:=fun b hb=>⟨hb.1,hb.2.1,fun q d hd=>by
  obtain⟨q0,e1,e2,_⟩:=hval hd
  rw[<-e2];exact hb.2.2 q0 d e1⟩
 have hle:(ao C γ s w).Le (ao C (iD γ k' (γ k)) s1 w):=by
  refine⟨hok,fun b hb=>⟨hb.1,hok b hb.2⟩,fun b hb=>hb.2,fun b _=>rfl,fun q=>?_,fun q l' hg hl=>?_,fun q l' b cur hg hl hb hh=>⟨cur,hh,O⟩⟩
  .show(s.own q).1<=(s1.own q).1;by_cases h2:q=k'
   .subst h2;rw[o2,ho'];simp
   .by_cases h1:q=k
    .subst h1;rw[o1,ho];simp
    .rw[o3 q h1 h2];exact aP
  .have hgg:(s1.own q).1=(s.own q).1:=hg;by_cases h2:q=k'
   .subst h2;rw[o2,ho']at hgg;simp at hgg
   .by_cases h1:q=k
    .subst h1;rw[o1,ho]at hgg;simp at hgg
    .refine⟨l',?_,O,O,O,aP⟩;simp only[ao,o3 q h1 h2,fJ h2]at hl ⊢;exact hl
 refine⟨iD γ k' (γ k),h.defers,h.size,fun r=>?_,fun q d hd=>?_,fun q1 q2 d1 d2 b e1 e2 e3 e4=>?_,fun q d b e1 e2=>?_,h.below,h.top,fun d v hd=>(h.kept d v hd).mono hle⟩
 .show Rep (ao C (iD γ k' (γ k)) s1 w) (bif Nat.beq r t then _ else s1.reg r) _;by_cases hrt:r=t
  .subst hrt;have hp:=h.regs r;rw[hr]at hp;simp only[Nat.beq_refl,cond_true];have hp':=h.ptr_at hp ho;refine .ptr ?_ fun _ l hl=>?_
   .show g'+1<=(s1.own k').1;rw[o2];exact aP
   .simp only[ao,o2,bU,Option.map_some,Option.some.injEq]at hl;subst hl;exact hp'
  .rw[bm hrt,hregs];exact(h.regs r).mono hle
 .obtain⟨q0,e1,e2,_⟩:=hval hd;have:=(h.sites q0 d e1).mono hle fun b _=>rfl;rwa [e2]at this
 .obtain⟨p1,f1,f2,f3⟩:=hval e1;obtain⟨p2,f4,f5,f6⟩:=hval e2;have:=h.inj p1 p2 d1 d2 b f1 f4 (by rw[f2];exact e3) (by rw[f5];exact e4);rcases f3 with⟨a1,a2⟩|⟨a1,a2,a3⟩<;>rcases f6 with⟨b1,b2⟩|⟨b1,b2,b3⟩
  .rw[a1,b1]
  .exact absurd (by rw[<-b3,<-this,a2]) b2
  .exact absurd (by rw[<-a3,this,b2]) a2
  .rw[<-a3,<-b3,this]
 .obtain⟨q0,f1,f2,_⟩:=hval e1;exact h.base q0 d b f1 (by rw[f2];exact e2)
theorem Ghost.data {k g t kd:Nat}{T:TypeId}{row:List PV}(ho:s.own k=(g,some ⟨T,row.length,[row],kd⟩))(hr:s.reg t = .ptr k g 0 0)(hall:row.all (mA 1)=true)(hz0:Nat.blt 0 row.length=true) :
  Ghost s ((s.setOwn k (g+1) none).putR t (.dref (row.map (dY 1)) 0)):=by
 intro C a w hX ⟨γ,h⟩;obtain⟨h1,hle,_⟩:=h.drop hX ho;have hz0:0<row.length:=by simpa using hz0
 have hp:=h.regs t;rw[hr]at hp;obtain⟨b,hb,hv,hi,hj⟩:=h.ptr_at hp ho;obtain⟨cur,f1,f2,f3,f4,f5⟩:=h.site_at ho hb hz0;have hokb:eE C γ (s.setOwn k (g+1) none) w b:=by
  have hbase:=h.base k _ b (by rw[ho]) hb;refine⟨hbase.2,fun hx=>?_,fun k' c' hc' hb'=>?_⟩
  .have:=hX b hx;omega
  .by_cases hk':k'=k
   .subst hk';rw[ak]at hc';cases hc'
   .rw[aF hk']at hc';exact hk' (h.inj k' k c' _ b hc' (by rw[ho]) hb' hb)
 have hd:Rep (ao C γ (s.setOwn k (g+1) none) w) (.dref (row.map (dY 1)) 0) (a.tmps.getD t undef):=by
  rw[hv];simp only[Nat.zero_mul,Nat.zero_add];have key:∀(i:Nat) (c:PV),(row.map (dY 1))[i]? = some c->∃c0 u,row[i]? = some c0/\c=dY 1 c0/\cur[i]? = some u/\u.oneCell'=true/\KRep (ao C γ s w) kd c0 u:=by
   intro i c hc;rw[List.getElem?_map]at hc;cases hq:row[i]? with
   |none=>rw[hq]at hc;simp at hc
   |some c0 =>
    rw[hq]at hc;simp at hc;obtain⟨u,e1,e2,e3⟩:=f5 0 i row c0 O hq;exact⟨c0,u,O,hc.symm,by simpa using e1,e2,e3⟩
  have:=DRep.dref (w:=w) (ok:=(ao C γ (s.setOwn k (g+1) none) w).ok) (row.map (dY 1)) 0 b 0 (fun i=>cur.getD i undef) hokb (fun i c hc=>by
   obtain⟨c0,u,e1,e2,e3,e4,e5⟩:=key i c hc;rw[bg f1,Nat.zero_add,e3]
   simp[e3,e4]) (fun i c hc=>by
   obtain⟨c0,u,e1,rfl,e3,e4,e5⟩:=key i c hc;have hu:cur.getD i undef=u:=by simp[e3]
   rw[hu]
   exact hle.drep (gd (k:=1) ax (List.all_eq_true.1 hall c0 (bc e1)) (e5.rep ax)))
  exact .d this
 refine⟨γ,h1.defers,h1.size,fun r=>?_,h1.sites,h1.inj,h1.base,h1.below,h1.top,h1.kept⟩;show Rep (ao C γ (s.setOwn k (g+1) none) w) (bif Nat.beq r t then _ else s.reg r) _;by_cases hrt:r=t
 .subst hrt;simpa using hd
 .rw[bm hrt];exact h1.regs r
theorem Ghost.nilcell {k gk k0 g0 i j:Nat}{oc:Option Cont}{c0:Cont}{row:List PV}(T:TypeId)(sz kd:Nat)(hk:Nat.beq k0 k=false)(ho:s.own k=(gk,oc))(h0:s.own k0=(g0,some c0))(hkind:c0.kind=2)(hrow:c0.rows[i]? = some row)(hj:row[j]? = some .nil)(hz0:Nat.blt 0 c0.sz=true) :
  Ghost s ((s.setOwn k (gk+1) (some ⟨T,sz,[],kd⟩)).setOwn k0 g0 (some ⟨c0.ty,c0.sz,c0.rows.set i (row.set j (.als k (gk+1) 0 0)),2⟩)):=by
 intro C a w hX ⟨γ,h⟩;have hne:k0≠k:=fun e=>by subst e;simp at hk
 have ht:Turn C γ s w w k none:=⟨O,O,O,aP,fun b _ => .inl O,fun b hb=>by cases hb⟩;have h1:=ht.sim h (c:=⟨T,sz,[],kd⟩) (.none_ O);have hfin:s.fin k ⟨T,sz,[],kd⟩=s.setOwn k (gk+1) (some ⟨T,sz,[],kd⟩):=by rw[St.fin,ho]
 rw[hfin]at h1;have ho1:(s.setOwn k (gk+1) (some ⟨T,sz,[],kd⟩)).own k0=(g0,some c0):=by rw[aF hne];exact h0
 have hz0:0<c0.sz:=by simpa using hz0
 refine⟨_,h1.recell ho1 O O hz0 ah (fun r hr=>?_) fun i' j' row1 pv1 e1 e2=>?_⟩
 .rcases List.mem_or_eq_of_mem_set hr with hr|rfl
  .exact(h.sites k0 c0 (by rw[h0])).rowlen hz0 r hr
  .simpa using (h.sites k0 c0 (by rw[h0])).rowlen hz0 row (bc hrow)
 .by_cases hi:i'=i
  .subst hi;have hlt:=(bb hrow).1;rw[List.getElem?_set_self hlt]at e1;have e1:=Option.some.inj e1;subst e1;by_cases hjj:j'=j
   .subst hjj;have hlt2:=(bb hj).1;rw[List.getElem?_set_self hlt2]at e2;have e2:=Option.some.inj e2;subst e2;refine⟨row,.nil,hrow,hj,fun v hv=>?_⟩;rw[hkind]at hv;have hv:Rep _ PV.nil v:=hv;rw[hv.nil_inv];refine Rep.als ?_ fun _ l hl=>?_
    .show _<=((s.setOwn k (gk+1) (some ⟨T,sz,[],kd⟩)).own k).1;rw[ak];exact aP
    .simp only[ao,ak,bU,Option.map_some,Option.some.injEq]at hl;subst hl;exact .inl ⟨O,O,O,O⟩
   .rw[List.getElem?_set_ne (Ne.symm hjj)]at e2;exact⟨row,pv1,hrow,e2,fun v hv=>by rw[hkind]at hv;exact hv⟩
  .rw[List.getElem?_set_ne (Ne.symm hi)]at e1;exact⟨row1,pv1,e1,e2,fun v hv=>by rw[hkind]at hv;exact hv⟩
theorem Iv {α β:Type}{f:α->β}{l:List (List α)}{i j:Nat}{row1:List β}{b:β}(h1:(l.map (·.map f))[i]? = some row1)(h2:row1[j]? = some b):∃row0 a,l[i]? = some row0/\row0[j]? = some a/\f a=b:=by
 rw[List.getElem?_map]at h1;cases h:l[i]? with
 |none=>rw[h]at h1;simp at h1
 |some row0 =>
  rw[h]at h1;simp at h1;subst h1;rw[List.getElem?_map]at h2;cases h':row0[j]? with
  |none=>rw[h']at h2;simp at h2
  |some a=>rw[h']at h2;simp at h2;exact⟨row0,a,rfl,h',h2⟩
theorem Ghost.lower {k0 g0:Nat}{c0:Cont}(kd:Nat)(h0:s.own k0=(g0,some c0))(hk:c0.kind=2)(hz0:Nat.blt 0 c0.sz=true)(hall:∀row∈c0.rows,row.all (mA kd)=true):Ghost s (s.setOwn k0 g0 (some ⟨c0.ty,c0.sz,c0.rows.map (·.map (dY kd)),kd⟩)):=by
 intro C a w hX ⟨γ,h⟩;have hz0:0<c0.sz:=by simpa using hz0
 refine⟨γ,h.recell h0 O O hz0 ah (fun r hr=>?_) fun i j row1 pv1 e1 e2=>?_⟩
 .obtain⟨r0,hr0,rfl⟩:=List.mem_map.1 hr;simpa using (h.sites k0 c0 (by rw[h0])).rowlen hz0 r0 hr0
 .obtain⟨row0,pv0,f1,f2,rfl⟩:=Iv e1 e2;refine⟨row0,pv0,f1,f2,fun v hv=>?_⟩;rw[hk]at hv;exact gd ax (List.all_eq_true.1 (hall row0 (bc f1)) pv0 (bc f2)) hv
end
theorem Ghost.nilreg {s:St}{k gk t:Nat}{oc:Option Cont}(T:TypeId)(sz kd:Nat)(ho:s.own k=(gk,oc))(hr:s.reg t = .nil):Ghost s ((s.setOwn k (gk+1) (some ⟨T,sz,[],kd⟩)).putR t (.als k (gk+1) 0 0)):=by
 intro C a w hX ⟨γ,h⟩;have ht:Turn C γ s w w k none:=⟨O,O,O,aP,fun b _ => .inl O,fun b hb=>by cases hb⟩;have h1:=ht.sim h (c:=⟨T,sz,[],kd⟩) (.none_ O);have hfin:s.fin k ⟨T,sz,[],kd⟩=s.setOwn k (gk+1) (some ⟨T,sz,[],kd⟩):=by rw[St.fin,ho]
 rw[hfin]at h1;refine⟨_,h1.defers,h1.size,fun r=>?_,h1.sites,h1.inj,h1.base,h1.below,h1.top,h1.kept⟩;show Rep _ (bif Nat.beq r t then _ else s.reg r) _;by_cases hrt:r=t
 .subst hrt;have hv:=h.regs r;rw[hr]at hv;rw[hv.nil_inv];simp only[Nat.beq_refl,cond_true];refine .als ?_ fun _ l hl=>?_
  .show _<=((s.setOwn k (gk+1) (some ⟨T,sz,[],kd⟩)).own k).1;rw[ak];exact aP
  .have hl:(((s.setOwn k (gk+1) (some ⟨T,sz,[],kd⟩)).own k).2.map fun c=>(⟨iD γ k none k,c.ty,c.sz,c.rows.length⟩:SLoc))=some l:=hl;rw[ak,bU]at hl;have hl:=Option.some.inj hl;subst hl;exact .inl ⟨O,O,O,O⟩
 .rw[bm hrt];exact h1.regs r
theorem Ghost.nilsl {s:St}{t:Nat}(hr:s.reg t = .nil):Ghost s (s.putR t (.sl [])):=by
 intro C a w hX ⟨γ,h⟩;refine⟨_,h.defers,h.size,fun r=>?_,h.sites,h.inj,h.base,h.below,h.top,h.kept⟩;show Rep _ (bif Nat.beq r t then _ else s.reg r) _;by_cases hrt:r=t
 .subst hrt;have hv:=h.regs r;rw[hr]at hv;rw[hv.nil_inv];simp only[Nat.beq_refl,cond_true];exact .d (.sl0 _ _)
 .rw[bm hrt];exact h.regs r
end Go.Pv
namespace Go.Pv
open Go.RowKit
variable [Globs]
def Hg (fn:Func)(T:TypeId)(sz:Nat)(rows:List (List PV))(s:St):Prop :=
 ∃t k g m kd,fn.results.toList=[.tmp t]/\s.reg t = .als k g 0 m/\s.own k=(g,some ⟨T,sz,rows,kd⟩)/\m=rows.length/\rows.all (·.all PV.flat1)=true
def tE (fn:Func)(T:TypeId)(sz:Nat)(rows:List (List PV)):Exit->St->Prop
 |.normal,s | .ret,s=>Hg fn T sz rows s
 |_,_=>False
theorem Af {E:Env}{k:Nat}{c:PV}{v:Value}(hf:c.flat1=true)(h:KRep E k c v)(hE:∀b,E.okf b->E.ok b)(w:World)(ok:Nat->Prop):DRep w ok c v:=by
 have hr:=h.rep hE;cases c with
 |bool b=>rw[hr.bool_inv];exact .bool _
 |int k n=>rw[hr.int_inv];exact .int _ _
 |str s=>rw[hr.str_inv];exact .str _
 |raw u=>rw[hr.raw_inv];exact .raw _
 |nil=>rw[hr.nil_inv];exact .nil
 |_=>simp[PV.flat1]at hf
section
variable {P:Program}{L:Lay}{s:St}
theorem RetO.of_pwp {f : FuncId}{fn : Func}{body : Code}{pargs : List PV}{T : TypeId}{sz : Nat}{rows : List (List PV)}(hL : ig P L)(hm : P.follows .mixedOrders = true)(hf : P.funcs[f]? = some fn)(hb : fn.body = some body)(hn : (fn.name == "runtime.NumGoroutine") = false)
  (hlen:Nat.ble pargs.length fn.ntmps=true) (hc:kI fn.ntmps body=true) (h:PWP P L body (tE fn T sz rows) (dh pargs)):RetO P f pargs T sz rows:=by
 refine⟨⟨fn,hf,hn,by simp[hb]⟩,fun w X args hg hX hl hargs=>?_⟩;let C:Ctx:=⟨w.heap.size,X,w,fn.ntmps,fun _ _=>False,[]⟩;have hG:Good P L C:=⟨hL,hX,hm,fun w' hb=>Globs.keep w w' hg hb⟩;have hle:args.length<=fn.ntmps:=by rw[<-hl];simpa using hlen
 have hsim:SimE C (dh pargs) { tmps:=args.toArray++Array.replicate (fn.ntmps-args.toArray.size) undef,defers:=[] } w:=by
  refine⟨fun _=>none,O,by simp[C];omega,fun t=>?_,fun k c hk=>by simp[dh]at hk,fun k k' c c' b hk=>by simp[dh]at hk,fun k c b hk=>by simp[dh]at hk,Below.refl _ _,aP,fun c v hk=>hk.elim⟩;show Rep _ (pargs.getD t (.raw undef)) _;rcases Nat.lt_or_ge t args.length with hlt|hge
  .have hlt':t<pargs.length:=J;have e1:pargs.getD t (.raw undef)=pargs[t]:=by simp[hlt']
   have e2:(args.toArray++Array.replicate (fn.ntmps-args.toArray.size) undef).getD t undef=args[t]:=by
    rw[Array.getD_eq_getD_getElem?,Array.getElem?_append_left (by simpa using hlt)];simp[hlt]
   rw[e1,e2];refine .d ((hargs t pargs[t] args[t] (List.getElem?_eq_getElem hlt') (List.getElem?_eq_getElem hlt)).weaken fun b hb=>⟨hb.1,hb.2,fun k c hk=>by simp[dh]at hk⟩)
  .have e1:pargs.getD t (.raw undef) = .raw undef:=by simp[List.getElem?_eq_none (by omega:pargs.length<=t)]
   have e2:(args.toArray++Array.replicate (fn.ntmps-args.toArray.size) undef).getD t undef=undef:=by
    rw[Array.getD_eq_getD_getElem?,Array.getElem?_append_right (by simpa using hge)];rcases Nat.lt_or_ge (t-args.toArray.size) (fn.ntmps-args.toArray.size) with h1|h1
    .rw[Array.getElem?_replicate,if_pos h1];rfl
    .rw[Array.getElem?_eq_none (by simpa using h1)];rfl
   rw[e1,e2];exact .d (.raw _)
 refine calls_of_wp hf hb (wp_mono (PWP.sound hG body _ _ _ w hc (fun _ hq=>hq) hsim h) ?_);have fin:∀ {s:St} {a:Act} {w':World},SimE C s a w'->Hg fn T sz rows s->a.defers=[]/\∃v,(results fn a.tmps).run P w' = .ok v w'/\∃u,Ending.returned v = .returned u/\Below w.heap.size w w'/\Jn w w' T sz rows u:=by
  rintro s a w' ⟨γ,hs⟩ ⟨t,k,g,m,kd,h1,h2,h3,h4,h5⟩;refine⟨hs.defers,a.tmps.getD t undef,?_,_,O,hs.below,?_⟩
  .unfold results;rw[<-Array.toArray_toList (xs:=fn.results),h1];simp
  .have hr:=hs.regs t;rw[h2]at hr;subst h4;rcases hs.als_at hr h3 with⟨e1,_,_,e4⟩|⟨b,cap,cur,e1,e2,e3,e4,e5,e6,e7⟩
   .exact .inl ⟨(hs.sites k _ (by rw[h3])).emp e1,e4⟩
   .obtain⟨cur',g1,g2,g3,g4,g5⟩:=hs.site_at h3 e1 (hs.cells_sz h3 e1 e3 e6);have hcc:cur'=cur:=by
     have e3:w'.heap[b]? = some (.cells cur T (0,0)):=e3;have g1:w'.heap[b]? = some (.cells cur' T (0,0)):=g1;rw[g1]at e3;simpa using e3
    subst hcc;refine .inr ⟨b,cap,cur',(hs.base k _ b (by rw[h3]) e1).1,by simpa using e2,e3,e4,e5,by simpa using e6,g2,g3,g4,fun i j row c r1 r2=>?_⟩;obtain⟨u,u1,u2,u3⟩:=g5 i j row c r1 r2;have hfl:c.flat1=true:=List.all_eq_true.1 (List.all_eq_true.1 h5 row (bc r1)) c (bc r2);exact⟨u,u1,u2,fun w ok=>Af hfl u3 ax w ok⟩
 rintro e a w' ⟨s,hs,hq⟩;cases e
 case normal=>exact fin hs hq
 case ret=>exact fin hs hq
 all_goals exact hq.elim
theorem KH {fn:Func}{T:TypeId}{sz:Nat}{rows rows':List (List PV)}{t k g m kd:Nat}(h:fn.results.toList=[.tmp t])(hv:s.reg t = .als k g 0 m)(ho:s.own k=(g,some ⟨T,sz,rows,kd⟩))(hm:m=rows.length)(hf:rows.all (·.all PV.flat1)=true)(hr:rows=rows'):tE fn T sz rows' .ret s:=by
 subst hr;exact⟨t,k,g,m,kd,h,hv,ho,hm,hf⟩
theorem El {d:Nat}{ty:TypeId}{pos:String}{af:Array Edge}{fop:Operand}{args:Array Operand}{tys:Array TypeId}{f:FuncId}{caps pargs:List PV}{Cd:Prop}{b:Fl}{T:TypeId}{sz gn:Nat}{oc:Option Cont}{rows:List (List PV)}{K:St->Prop}
  (hf:s.ev fop = .clo f caps) (hret:RetO P f pargs T sz rows) (hres:e_ (eZ s 4) (args.toList.map s.ev++caps)=some (pargs,Cd,b)) (hc:Cd) (hown:s.own d=(gn,oc))
  (h:K ((s.setOwn d (gn+1) (some ⟨T,sz,rows,0⟩)).putR d (.als d (gn+1) 0 rows.length))):Sm P L s ⟨some d,.call ⟨.value fop,args,tys⟩,ty,pos,af,none⟩ K:=by
 intro C a w Q hG hs hN;refine Eff.sound hG.lay hG.x hG.glob hs hN (.callO O O hf hret hres hc) fun a' w' h'=>⟨_,h',?_⟩;rw[St.fin,hown];exact h
inductive TC where
 |p (o:Nat)
 |c (v:PV)
def TC.inst (mk:Nat->PV):TC->PV
 |.p o=>mk o
 |.c v=>v
def TC.ok (sz:Nat):TC->Bool
 |.p o=>Nat.blt o sz
 |.c v=>v.flat1
end
end Go.Pv
