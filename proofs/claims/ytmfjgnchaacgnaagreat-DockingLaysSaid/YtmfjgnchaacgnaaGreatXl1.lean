/- Texts of one hand, gathered: DmA, DmB, DmC, DmE, DmF, DmG, DmI. -/
import Derived.Test.YtmfjgnchaacgnaaGreatBa5
import Derived.WalkKit
import Derived.Deep.LoopGhost
import Derived.Deep.RegionLaw
import Derived.Lib.Walk
import Derived.Sort.WalkB12
import Derived.Lib.SliceRun
set_option maxRecDepth 20000
set_option linter.unusedSectionVars false
set_option linter.unusedSimpArgs false
set_option linter.unusedVariables false
set_option linter.unnecessarySimpa false
set_option maxHeartbeats 2000000
namespace Go.Pv
attribute [local irreducible] PWP POps PQuiet PSem aF au ak aj
open Go.Proofs Go.RowKit Go.Sort
theorem Chg.trans {w w1 w2:World}{b:Nat}{T:TypeId}{c1 c2:Array Value}(h1:Chg w w1 b T c1)(h2:Chg w1 w2 b T c2):Chg w w2 b T c2 :=
 ⟨h2.os.trans h1.os,h2.tape.trans h1.tape,h2.output.trans h1.output,Nat.le_trans h1.size h2.size,fun b' hne hb=>(h2.other b' hne (Nat.lt_of_lt_of_le hb h1.size)).trans (h1.other b' hne hb),h2.at_⟩
theorem ij (b:Nat)(T:TypeId):∀(vs:List Value) (o:Nat) (w:World) (cur:Array Value),w.heap[b]? = some (.cells cur T (0,0)) ->
  ∃cur',Chg w (w.setCells b o vs) b T cur'/\cur'.size=cur.size/\∀q,cur'[q]? = if o<=q/\q<o+vs.length/\q<cur.size then vs[q-o]? else cur[q]?
 |[],o,w,cur,hh=>⟨cur,⟨rfl,rfl,rfl,aP,fun _ _ _=>rfl,hh⟩,rfl,fun q=>by rw[if_neg aK]⟩
 |v::r,o,w,cur,hh=>by
  have h1:(w.setCell ⟨b,o,none⟩ v).heap[b]? = some (.cells (cur.setIfInBounds o v) T (0,0)):=by
   show(w.heap.modify b _)[b]? = _;rw[Array.getElem?_modify,if_pos O,hh];rfl
  have c1:Chg w (w.setCell ⟨b,o,none⟩ v) b T (cur.setIfInBounds o v):=by
   refine⟨O,O,O,?_,fun b' hne _=>?_,h1⟩
   .show w.heap.size<=(w.heap.modify b _).size;simp
   .show(w.heap.modify b _)[b']? = _;rw[Array.getElem?_modify,if_neg (Ne.symm hne)]
  obtain⟨cur',c2,hs,hq⟩:=ij b T r (o+1) (w.setCell ⟨b,o,none⟩ v) _ h1;refine⟨cur',c1.trans c2,by rw[hs];simp,fun q=>?_⟩;rw[hq q];simp only[Array.size_setIfInBounds,List.length_cons];by_cases g:o=q
  .subst g;rw[if_neg J];by_cases g2:o<cur.size
   .rw[if_pos ⟨aP,J,g2⟩,Nat.sub_self];simp[g2]
   .rw[if_neg J];simp[g2]
  .by_cases g1:o+1<=q/\q<o+1+r.length/\q<cur.size
   .rw[if_pos g1,if_pos J,show q-o=(q-(o+1))+1 by omega];rfl
   .rw[if_neg g1,if_neg J,Array.getElem?_setIfInBounds_ne g]
def n3:List Value:=[.int .i64 0,.int .i64 0,.int .i64 0,.int .i64 0,.int .i64 0,.bool false,.slice none 0 0,.bool false,.slice none 0 0,.int .i64 0,.bool false]
theorem uy (w:World)(b o c:Nat)(ty:TypeId)(hc:∀j,j<11->(w.cell? ⟨b,o+j,none⟩).isSome=true)(hf:∀j,j<11->w.frozen? ⟨b,o+j,none⟩=false) :
  (Builtin.clear_ #[28] ty #[.slice (some ⟨b,o,none⟩) 1 c]).run Tryz.prog w = .ok (.tuple #[]) (w.setCells b o n3):=by
 rw[n3];have hst:=run_storeCells_cells (P:=Tryz.prog) b o [Value.int .i64 0,.int .i64 0,.int .i64 0,.int .i64 0,.int .i64 0,.bool false,.slice none 0 0,.bool false,.slice none 0 0,.int .i64 0,.bool false] 0 w (by simpa using hc) (by simpa using hf) (by intro v hv;simp at hv;rcases hv with rfl|rfl|rfl|rfl|rfl|rfl|rfl|rfl|rfl|rfl|rfl<;>rfl);simp only[Nat.add_zero]at hst;have hzc:(Builtin.zeroCells (Value.agg #[Value.int .i64 0,.int .i64 0,.int .i64 0,.int .i64 0,.int .i64 0,.bool false,.slice none 0 0,.bool false,.slice none 0 0,.int .i64 0,.bool false]).cells 1).toList=[Value.int .i64 0,.int .i64 0,.int .i64 0,.int .i64 0,.int .i64 0,.bool false,.slice none 0 0,.bool false,.slice none 0 0,.int .i64 0,.bool false]:=by
  simp[Builtin.zeroCells,Value.cells];rfl
 simp only[Builtin.clear_];simp[run_underlying Tryz.underlying28,Tryz.zeroValue108,hzc,hst]
set_option maxHeartbeats 4000000 in
set_option maxRecDepth 1000000 in
theorem oa (w:World)(b cap n i j:Nat)(cur:Array Value)(hh:w.heap[b]? = some (.cells cur 108 (0,0)))(hc:cur.size=cap*11)(hn:n<=cap)(hij:j=i+1)(hj:j<=n)(hm:cap<=9223372036854775807)(hone:∀q,q<n*11->∃v,cur[q]? = some v/\v.oneCell'=true) :
  Calls Tryz.prog 118 #[.slice (some ⟨b,0,none⟩) n cap,.int .i64 i,.int .i64 j] w fun e w'=>e = .returned (.slice (some ⟨b,0,none⟩) (n-1) cap)/\∃cur',Chg w w' b 108 cur'/\cur'.size=cur.size/\(∀q,q<(n-1)*11->cur'[q]? = if q<i*11 then cur[q]? else cur[q+11]?)/\∀q,q<11->cur'[(n-1)*11+q]? = n3[q]? := by
 have mixed:Tryz.prog.follows Departure.mixedOrders=true:=by kernel_rfl
 have tSL:=Tryz.underlying28;obtain⟨i0,hi0,hz1⟩:∃i0,Tryz.prog.info? 108=some i0/\i0.size=11:=by
  have h:(Tryz.prog.info? 108).map (fun i=>i.size)=some 11:=by kernel_rfl
  exact Option.map_eq_some_iff.1 h
 obtain⟨news,hnews⟩:∃news,news=(cur.toList.drop (j*11)).take ((n-j)*11):=⟨_,O⟩;have hcl:cur.toList.length=cap*11:=by rw[Array.length_toList,hc]
 have hlen:news.length=(n-j)*11:=by rw[hnews,List.length_take,List.length_drop,hcl];omega
 have hget:∀t,t<(n-j)*11->news[t]? = cur[j*11+t]? := fun t ht=>by
  rw[hnews,List.getElem?_take,if_pos ht,List.getElem?_drop,Array.getElem?_toList]
 have hcell:∀q,w.cell? ⟨b,q,none⟩=cur[q]? := fun q=>by rw[aX hh]
 have hfz:∀q,w.frozen? ⟨b,q,none⟩=false:=fun q=>frozen_of_row w b _ cur 108 hh;obtain⟨A,hA,hsrc⟩:∃A:Addr,(if cap=j then some (⟨b,0,none⟩:Addr) else some ⟨b,j*11,none⟩)=some A/\Hid (∀t u,news[t]? = some u->w.drew.cell? (A.add t)=some u):=by
  by_cases h:cap=j
  .refine⟨⟨b,0,none⟩,by simp[h],fun t u hu=>?_⟩;have h0:news.length=0:=by rw[hlen];omega
   rw[List.length_eq_zero_iff.1 h0]at hu;simp at hu
  .refine⟨⟨b,j*11,none⟩,by simp[h],fun t u hu=>?_⟩;have ht:t<(n-j)*11:=by
    have:=(bi hu).1;rwa [hlen]at this
   rw[hget t ht]at hu;rw[Addr.add_lit];exact(hcell _).trans hu
 have s1:Hid (news.length=(n-j)*11):=hlen;have s2:Hid (∀u∈news,u.oneCell'=true):=by
  intro u hu;obtain⟨t,ht⟩:=List.getElem?_of_mem hu;have hlt:t<(n-j)*11:=by
   have:=(bi ht).1;rwa [hlen]at this
  rw[hget t hlt]at ht;obtain⟨v,h1,h2⟩:=hone (j*11+t) J;rw[h1]at ht;cases ht;exact h2
 have s3:Hid (∀t,t<news.length->(w.drew.cell? ⟨b,0+i*11+t,none⟩).isSome=true/\w.drew.frozen? ⟨b,0+i*11+t,none⟩=false):=by
  intro t ht;rw[hlen]at ht;obtain⟨v,h1,_⟩:=hone (0+i*11+t) J;exact⟨by show(w.cell? _).isSome=true;rw[hcell,h1];rfl,hfz _⟩
 obtain⟨W1,hW1⟩:∃W1,W1=w.drew.setCells b (0+i*11) news:=⟨_,O⟩;have hW:Hid (W1=w.drew.setCells b (0+i*11) news):=hW1;have hic:i<=cap:=J;have hjc:j<=cap:=J;have hil:i<=n:=J;have hne:(((i:Nat):Int)==((j:Nat):Int))=false:=by simp;omega
 have hlt:i<j:=J;obtain⟨cur1,cg1,cz1,cq1⟩:=ij b 108 news (0+i*11) w.drew cur hh;rw[<-hW1]at cg1;have hclr:∀ty,(Builtin.clear_ #[28] ty #[.slice (some ⟨b,(i+(n-j))*11,none⟩) (n-(i+(n-j))) (cap-(i+(n-j)))]).run Tryz.prog W1 = .ok (.tuple #[]) (W1.setCells b ((i+(n-j))*11) n3):=fun ty=>by
  rw[show n-(i+(n-j))=1 by omega];refine uy W1 b _ _ ty (fun t ht=>?_) (fun t ht=>frozen_of_row W1 b _ cur1 108 cg1.at_);rw[aX cg1.at_];have:(i+(n-j))*11+t<cur1.size:=by rw[cz1,hc];omega
  simp[this]
 obtain⟨cur2,cg2,cz2,cq2⟩:=ij b 108 n3 ((i+(n-j))*11) W1 cur1 cg1.at_;have hfin:∃cur',Chg w (W1.setCells b ((i+(n-j))*11) n3) b 108 cur'/\cur'.size=cur.size/\(∀q,q<(n-1)*11->cur'[q]? = if q<i*11 then cur[q]? else cur[q+11]?)/\∀q,q<11->cur'[(n-1)*11+q]? = n3[q]? := by
  have cg1':Chg w W1 b 108 cur1:=⟨cg1.os,cg1.tape,cg1.output,cg1.size,cg1.other,cg1.at_⟩;refine⟨cur2,cg1'.trans cg2,cz2.trans cz1,fun q hq=>?_,fun q hq=>?_⟩
  .rw[cq2 q,if_neg J,cq1 q];by_cases g:q<i*11
   .rw[if_pos g,if_neg J]
   .rw[if_neg g,if_pos (by rw[hlen];omega),hget _ J,show j*11+(q-(0+i*11))=q+11 by omega]
  .have hz11:n3.length=11:=O;rw[cq2,if_pos (by rw[hz11,cz1,hc];omega),show(n-1)*11+q-(i+(n-j))*11=q by omega]
 have hfinH:Hid (∃cur',Chg w (W1.setCells b ((i+(n-j))*11) n3) b 108 cur'/\cur'.size=cur.size/\(∀q,q<(n-1)*11->cur'[q]? = if q<i*11 then cur[q]? else cur[q+11]?)/\∀q,q<11->cur'[(n-1)*11+q]? = n3[q]?):=hfin;have hretH:Hid (i+(n-j)=n-1):=by
  have:i+(n-j)=n-1:=J;exact this
 have hijH:Hid (j=i+1):=hij;clear hW1 hget hnews hlen hcl hone hcell hfz hij cg1 cz1 cq1 cg2 cz2 cq2 hfin
 go_enter Tryz.func118,Tryz.ntmps118
 go_wp2_with fail
 try (any_goals (exfalso;omega))
 go_region_law (refine step_append_room O (.tmp 22) (.tmp 25) 28 O 108 i0 11 tSL hi0 hz1 b 0 i cap (by simp[Act.eval,Act.put]) A (n-j) (cap-j) news (by simp[Act.eval,Act.put]) s1.out hsrc.out s2.out J s3.out ?_;rw[<-hW.out])
 go_wp2
 go_ret
 refine⟨?_,hfinH.out⟩;rw[<-hretH.out];rfl
theorem Cr (s:St)(k g1 g2:Nat)(c1 c2:Option Cont):(s.setOwn k g1 c1).setOwn k g2 c2=s.setOwn k g2 c2:=by
 have:((s.setOwn k g1 c1).setOwn k g2 c2).own=(s.setOwn k g2 c2).own:=by
  funext r;by_cases hr:r=k
  .subst hr;rw[ah,ah]
  .rw[ay hr,ay hr,ay hr]
 cases s;simp only[St.setOwn]at this ⊢;rw[this]
theorem yO:ej Tryz.prog 118:=⟨_,Go.Proofs.Tryz.func118,Y,O⟩
def kY:List PV:=[I 0,I 0,I 0,I 0,I 0,.bool false,.nil,.bool false,.nil,I 0,.bool false]
theorem yt {w:World}{ok:Nat->Prop}{j:Nat}{pv:PV}(h:kY[j]? = some pv):∃v,n3[j]? = some v/\v.oneCell'=true/\DRep w ok pv v:=by
 match j,h with
 |0,h=>cases h;exact⟨_,rfl,rfl,.int _ _⟩
 |1,h=>cases h;exact⟨_,rfl,rfl,.int _ _⟩
 |2,h=>cases h;exact⟨_,rfl,rfl,.int _ _⟩
 |3,h=>cases h;exact⟨_,rfl,rfl,.int _ _⟩
 |4,h=>cases h;exact⟨_,rfl,rfl,.int _ _⟩
 |5,h=>cases h;exact⟨_,rfl,rfl,.bool _⟩
 |6,h=>cases h;exact⟨_,rfl,rfl,.nil⟩
 |7,h=>cases h;exact⟨_,rfl,rfl,.bool _⟩
 |8,h=>cases h;exact⟨_,rfl,rfl,.nil⟩
 |9,h=>cases h;exact⟨_,rfl,rfl,.int _ _⟩
 |10,h=>cases h;exact⟨_,rfl,rfl,.bool _⟩
 |_+11,h=>cases h
variable {s:St}{d k g m:Nat}{ty:TypeId}{pos:String}{af:Array Edge}{x y z:Operand}{tys:Array TypeId}{K:St->Prop}
set_option maxRecDepth 20000 in
theorem tQ {rows:List (List PV)}{i:Nat}(hx:s.ev x = .als k g 0 m)(hm:m=rows.length)(ho:s.own k=(g,some ⟨108,11,rows,1⟩))(hy:s.ev y=I (i:Nat))(hz:s.ev z=I ((i+1:Nat):Int))(hi:i<rows.length)
  (h:K ((s.setOwn k (g+1) (some ⟨108,11,rows.eraseIdx i,1⟩)).putR d (.als k (g+1) 0 (rows.length-1)))):Sm Tryz.prog lay.get s ⟨some d,.call ⟨.value (.func 118),#[x,y,z],tys⟩,ty,pos,af,none⟩ K:=by
 intro C a w Qp hG hs hN;obtain⟨γ,hs⟩:=hs;subst hm;have hfv:=hs.ev (.func 118);obtain⟨vs,hv,hl,_⟩:=hfv.clo_inv;have hvs:vs=[]:=List.eq_nil_of_length_eq_zero (by simpa using hl.symm);subst hvs;have hxr:=hs.ev x;rw[hx]at hxr;have hyr:=hs.ev y;rw[hy]at hyr;have hyv:=hyr.int_inv;have hzr:=hs.ev z;rw[hz]at hzr;have hzv:=hzr.int_inv;have hals:=hs.als_at hxr ho;unfold Oper.wp;rw[gQ (f:=118) O hv yO,Oper.upon_enter];simp only[List.map_cons,List.map_nil,List.append_nil,hyv,hzv];rcases hals with⟨h1,_,h3,h4⟩|⟨b,cap,cur,h1,h2,h3,h4,h5,h6,h7⟩
 .omega
 .rw[h2];simp only[Nat.zero_mul];have h3:w.heap[b]? = some (.cells cur 108 (0,0)):=h3;have hcs:cur.size=cap*11:=by rw[<-show(0+cap)*11=cap*11 by rw[Nat.zero_add]];exact h6
  obtain⟨cur0,g1,_,g3,g4,g5⟩:=hs.site_at ho h1 (show 0<11 by decide);have g1:w.heap[b]? = some (.cells cur0 108 (0,0)):=g1;rw[h3]at g1;simp only[Option.some.injEq,Obj.cells.injEq,and_true]at g1;subst g1;have g5:∀(i j:Nat) (row:List PV) (pv:PV),rows[i]? = some row->row[j]? = some pv->∃v,cur[i*11+j]? = some v/\v.oneCell'=true/\KRep (am C γ s w) 1 pv v:=g5;have g4:∀row∈rows,row.length=11:=g4;have hone:∀q,q<rows.length*11->∃v,cur[q]? = some v/\v.oneCell'=true:=fun q hq=>by
   have hqi:q/11<rows.length:=(Nat.div_lt_iff_lt_mul Y).2 hq;have hqj:q%11<11:=Nat.mod_lt _ Y;have hx1:rows[q/11]? = some rows[q/11]:=List.getElem?_eq_getElem hqi;have hlen:=g4 _ (a_ hx1);have hx2:(rows[q/11])[q%11]? = some ((rows[q/11])[q%11]'J):=List.getElem?_eq_getElem _;obtain⟨v,e1,e2,_⟩:=g5 (q/11) (q%11) _ _ hx1 hx2;rw[show q/11*11+q%11=q by omega]at e1;exact⟨v,e1,e2⟩
  refine(oa w b cap rows.length i (i+1) cur h3 hcs J O J (oW h5) hone).mono ?_;rintro e w' ⟨rfl,cur',hchg,hcz,hq1,hq2⟩;have hle1:(rows.eraseIdx i).length=rows.length-1:=List.length_eraseIdx_of_lt hi;have hle:=nO (c':=⟨108,11,rows.eraseIdx i++[kY],1⟩) hs ho h1 h3 hcz O O (by simp[hle1];omega);have hsite:SiteOk (am C γ (s.setOwn k g (some ⟨108,11,rows.eraseIdx i++[kY],1⟩)) (w.setRow b cur')) (some b) ⟨108,11,rows.eraseIdx i++[kY],1⟩:=by
   refine⟨(fun e=>by cases e),(fun b' _ hz=>by simp only at hz;omega),(fun b' _ hz=>by simp only at hz;omega),fun b' hb' _=>?_⟩;simp at hb';subst hb';refine⟨cur',setRow_heap w b cur cur' 108 (0,0) h3,show 0<11 by decide,by simp only[List.length_append,List.length_singleton,hle1];rw[hcz,hcs];omega,fun row hr=>?_,fun p q row pv e1 e2=>?_⟩
   .rcases List.mem_append.1 hr with hr|hr
    .exact g4 row (List.mem_of_mem_eraseIdx hr)
    .simp at hr;subst hr;rfl
   .show ∃v,cur'[p*11+q]? = some v/\v.oneCell'=true/\KRep (am C γ (s.setOwn k g (some ⟨108,11,rows.eraseIdx i++[kY],1⟩)) (w.setRow b cur')) 1 pv v;rcases Nat.lt_or_ge p (rows.length-1) with hp|hp
    .have e1:(rows.eraseIdx i++[kY])[p]? = some row:=e1;rw[List.getElem?_append_left J,List.getElem?_eraseIdx]at e1;by_cases hpi:p<i
     .rw[if_pos hpi]at e1;have hrl:=g4 row (a_ e1);have hql:=(bi e2).1;obtain⟨v,f1,f2,f3⟩:=g5 p q row pv e1 e2;refine⟨v,?_,f2,f3.mono hle⟩;rw[hq1 _ J,if_pos J];exact f1
     .rw[if_neg hpi]at e1;have hrl:=g4 row (a_ e1);have hql:=(bi e2).1;obtain⟨v,f1,f2,f3⟩:=g5 (p+1) q row pv e1 e2;refine⟨v,?_,f2,f3.mono hle⟩;rw[hq1 _ J,if_neg J,show p*11+q+11=(p+1)*11+q by omega];exact f1
    .have e1:(rows.eraseIdx i++[kY])[p]? = some row:=e1;have hpe:p=rows.length-1:=by
      have:=(bi e1).1;rw[List.length_append,hle1,List.length_singleton]at this;omega
     subst hpe;rw[List.getElem?_append_right J,hle1,Nat.sub_self]at e1;cases e1;have hql:q<11:=(bi e2).1;obtain⟨v,f1,f2,f3⟩:=yt (w:=_) (ok:=_) e2;exact⟨v,by rw[hq2 q hql];exact f1,f2,f3⟩
  have hsim:=u7 (c':=⟨108,11,rows.eraseIdx i++[kY],1⟩) hs ho h1 h3 hcz hchg O O (by simp[hle1];omega) hsite;have hcut:=hsim.cutS (n:=rows.length-1) (by rw[ah]) (show 0<11 by decide);rw[Cr]at hcut;rw[show(rows.eraseIdx i++[kY]).take (rows.length-1)=rows.eraseIdx i by rw[<-hle1,List.take_left]]at hcut;refine⟨_,⟨γ,hcut.put (d:=some d) hN ?_⟩,h⟩;refine .als (by simp[am,ah]) fun _ l2 hl2=>?_;simp only[am,ah,Option.map_some,Option.some.injEq]at hl2;subst hl2;exact .inr ⟨b,cap,cur',h1,ai,hchg.at_,J,h5,by rw[hcz];exact h6,by simp;omega⟩
end Go.Pv
set_option maxHeartbeats 2000000
namespace Go.Pv
attribute [local irreducible] PWP POps PQuiet PSem aF au ak aj
open Go.Proofs
theorem mN (F:List Int)(hl:F.length<=1000000):Ret Tryz.prog .shared 171 [.sl (F.map eN)] (.sl (F.map eN)):=by
 refine Ret.of_pwp layOk mixed Go.Proofs.Tryz.func171 O Y O O ?_
 ((repeat ((fail_if_success (with_reducible refine aR 1 ?_));refine b9 O ?_));refine aM 1 ?_)
 refine dD O ?_;refine aO ?_;refine aW O (eX layOk O O O (fun h0=>?_) ?_)
 .rw[h0];refine aJ ?_
  (repeat ((fail_if_success (with_reducible refine cA ?_));refine b9 O ?_))
  refine aq (Ghost.nilfs (t:=2) O) ?_;exact bI
 .refine aJ ?_;refine H ?_;refine ax (aT 1 O O O O O O O O O O O aI O ?_);refine H ?_;refine ax (bb 1 O O O O O O O O O O O aI (by intro row hr;obtain⟨p,_,rfl⟩:=List.mem_map.1 hr;rfl) O O aK aK ?_)
  (repeat ((fail_if_success (with_reducible refine cA ?_));refine b9 O ?_))
  refine aq (Ghost.takeD (k:=5) (t:=2) O O O) ?_;exact bI
theorem tI (F:List LR)(hl:F.length<=1000000):Ret Tryz.prog .shared 186 [.sl (F.map eLd)] (.sl (F.map eLd)):=by
 refine Ret.of_pwp layOk mixed Go.Proofs.Tryz.func186 O Y O O ?_
 ((repeat ((fail_if_success (with_reducible refine aR 1 ?_));refine b9 O ?_));refine aM 1 ?_)
 refine dD O ?_;refine aO ?_;refine aW O (eX layOk O O O (fun h0=>?_) ?_)
 .rw[h0];refine aJ ?_
  (repeat ((fail_if_success (with_reducible refine cA ?_));refine b9 O ?_))
  refine aq (Ghost.nilfs (t:=2) O) ?_;exact bI
 .refine aJ ?_;refine H ?_;refine ax (aT 1 O O O O O O O O O O O aI O ?_);refine H ?_;refine ax (bb 1 O O O O O O O O O O O aI (by intro row hr;obtain⟨p,_,rfl⟩:=List.mem_map.1 hr;rfl) O O aK aK ?_)
  (repeat ((fail_if_success (with_reducible refine cA ?_));refine b9 O ?_))
  refine aq (Ghost.takeD (k:=5) (t:=2) O O O) ?_;exact bI
theorem tK (F:List ZNR)(hl:F.length<=1000000):Ret Tryz.prog .shared 187 [.sl (F.map dC)] (.sl (F.map dC)):=by
 refine Ret.of_pwp layOk mixed Go.Proofs.Tryz.func187 O Y O O ?_
 ((repeat ((fail_if_success (with_reducible refine aR 1 ?_));refine b9 O ?_));refine aM 1 ?_)
 refine dD O ?_;refine aO ?_;refine aW O (eX layOk O O O (fun h0=>?_) ?_)
 .rw[h0];refine aJ ?_
  (repeat ((fail_if_success (with_reducible refine cA ?_));refine b9 O ?_))
  refine aq (Ghost.nilfs (t:=2) O) ?_;exact bI
 .refine aJ ?_;refine H ?_;refine ax (aT 1 O O O O O O O O O O O aI O ?_);refine H ?_;refine ax (bb 1 O O O O O O O O O O O aI (by intro row hr;obtain⟨p,_,rfl⟩:=List.mem_map.1 hr;rfl) O O aK aK ?_)
  (repeat ((fail_if_success (with_reducible refine cA ?_));refine b9 O ?_))
  refine aq (Ghost.takeD (k:=5) (t:=2) O O O) ?_;exact bI
set_option maxRecDepth 20000 in
theorem ip (b:BKR)(hs:b.st.sz 1000):Ret Tryz.prog .shared 116 [.agg (eBk b)] (.agg (eBk b)):=by
 have c1:=(gU b.st.n.l (by have:=hs.1;omega)).shared_of_fresh;have c2:=(gU b.st.d.l (by have:=hs.2;omega)).shared_of_fresh;clear hs;obtain⟨x,z,hf,ht,wd,⟨⟨n1,l1⟩,⟨n2,l2⟩⟩,lim,side⟩:=b;simp only at *
 refine Ret.of_pwp layOk mixed Go.Proofs.Tryz.func116 O Y O O ?_;refine G c1 ?_;refine G c2 ?_;exact bI
theorem zr {L:Lay}{fn:Func}{K:(Nat->Nat × Option Cont)->PV->Prop}{s:St}{l:List PV}{Cd:Prop}{r:PV}(owns:List (Nat × Nat × Cont))(h:yx L s fn.results.toList=some (l,Cd))(hc:Cd)(hl:gx l=r)(ho:FitO s owns)
  (hk:∀s1:St,K (s1.over [] owns).own r):aj L fn (fun s' r=>K s'.own r) .ret s:=by
 have hk:=hk s;rw[Fit.over (l:=[]) ho,<-hl]at hk;unfold aj;exact⟨l,Cd,h,hc,hk⟩
set_option maxRecDepth 20000 in
theorem lT {K:St->Prop}{s':St}{t g3 g4:Nat}{c3 c4:Cont}{x:Operand}{tys:Array TypeId}{ty:TypeId}{pos:String}{af:Array Edge}(d:DKR)(h1:d.s.st.length<=1000)(h2:d.s.it.length<=1000)(h3:d.bl.length<=1000)(h4:d.zn.length<=1000)(hL:∀t∈d.s.st,t.L.length<=1000/\t.H0.length<=1000)(hS:∀b∈d.bl,b.st.sz 1000)
  (hx:s'.ev x = .agg (cn d)) (ho:FitO s' [(1003,g3,c3),(1004,g4,c4)])
  (hK:∀(s1:St) (g:Nat),K (({ reg:=s'.reg,own:=(s1.over [] [(401,g,⟨108,11,d.bl.map eBk,1⟩),(1003,g3,c3),(1004,g4,c4)]).own }:St).putR t (.agg [.str d.s.nm,I d.s.len,.sl (d.s.st.map eT),.str d.s.light.nm,I d.s.light.m,I d.s.light.x,I d.s.light.z,I d.s.light.f,.sl (d.s.it.map eLd),I d.d,.als 401 g 0 (d.bl.map eBk).length,.sl (d.zn.map dC),I d.gm,I d.oh]))) :
  Sm Tryz.prog lay.get s' ⟨some t,.call ⟨.value (.func 115),#[x],tys⟩,ty,pos,af,none⟩ K:=by
 have hms:(d.s.st.map eT).length=d.s.st.length:=ai;have hmb:(d.bl.map eBk).length=d.bl.length:=ai;have q1:=tI d.s.it J;have q2:=tK d.zn J;obtain⟨⟨nm,len,st,⟨ln,lm,lx,lz,lf⟩,it⟩,den,bl,zn,gm,oh⟩:=d;simp only at *
 refine cF layOk O O Tryz.func115 O Y O O ?_;show PWP _ _ _ _ (b8 s' (([x]:List Operand).map s'.ev++[]));rw[show(([x]:List Operand).map s'.ev++([]:List PV))=[.agg [.str nm,I len,.sl (st.map eT),.str ln,I lm,I lx,I lz,I lf,.sl (it.map eLd),I den,.sl (bl.map eBk),.sl (zn.map dC),I gm,I oh]] by simp[hx];rfl];rw[show b8 s' [.agg [.str nm,I len,.sl (st.map eT),.str ln,I lm,I lx,I lz,I lf,.sl (it.map eLd),I den,.sl (bl.map eBk),.sl (zn.map dC),I gm,I oh]]=b8 (s'.over [] [(1003,g3,c3),(1004,g4,c4)]) [.agg [.str nm,I len,.sl (st.map eT),.str ln,I lm,I lx,I lz,I lf,.sl (it.map eLd),I den,.sl (bl.map eBk),.sl (zn.map dC),I gm,I oh]] by rw[Fit.over (l:=[]) ho]];refine G q1 ?_;refine H ?_;refine bj [(1,.ptr 1 ((s'.own 1).1+1) 0 0),(2,.ptr 2 ((s'.own 2).1+1) 0 0),(3,.ptr 3 ((s'.own 3).1+1) 0 0),(18,.sl (st.map eT)),(19,I (st.map eT).length),(20,I ((0:Nat):Int))] [(1,(s'.own 1).1+1,⟨31,14,[[.str nm,I len,.sl (st.map eT),.str ln,I lm,I lx,I lz,I lf,.sl (it.map eLd),I den,.sl (bl.map eBk),.sl (zn.map dC),I gm,I oh]],2⟩),(2,(s'.own 2).1+1,⟨31,14,[[.str [],I 0,.nil,.str [],I 0,I 0,I 0,I 0,.nil,I 0,.nil,.nil,I 0,I 0]],2⟩),(3,(s'.own 3).1+1,⟨27,9,[[.str nm,I len,.nil,.str ln,I lm,I lx,I lz,I lf,.sl (it.map eLd)]],2⟩),(1003,g3,c3),(1004,g4,c4)] ⟨O,O,O,O,O,O,O,O,O,O,O,trivial⟩ ?_;generalize (s'.own 1).1+1=p1;generalize (s'.own 2).1+1=p2;generalize (s'.own 3).1+1=p3;rw[hms];intro s0;refine aq (Ghost.nilcell (k:=400) (k0:=3) (i:=0) (j:=2) (row:=[.str nm,I len,.nil,.str ln,I lm,I lx,I lz,I lf,.sl (it.map eLd)]) 130 4 1 O O O O O O O) ?_;have hg4:∃g4,(s0.own 400).1+1=g4:=⟨_,O⟩;obtain⟨g5,hg5⟩:=hg4;refine ao (fun i:Nat=>i<=st.length) (fun i=>[(1,.ptr 1 p1 0 0),(2,.ptr 2 p2 0 0),(3,.ptr 3 p3 0 0),(18,.sl (st.map eT)),(19,I st.length),(20,I (i:Nat))]) (fun i=>[(1,p1,⟨31,14,[[.str nm,I len,.sl (st.map eT),.str ln,I lm,I lx,I lz,I lf,.sl (it.map eLd),I den,.sl (bl.map eBk),.sl (zn.map dC),I gm,I oh]],2⟩),(2,p2,⟨31,14,[[.str [],I 0,.nil,.str [],I 0,I 0,I 0,I 0,.nil,I 0,.nil,.nil,I 0,I 0]],2⟩),(3,p3,⟨27,9,[[.str nm,I len,.als 400 (g5+i) 0 ((st.take i).map eT).length,.str ln,I lm,I lx,I lz,I lf,.sl (it.map eLd)]],2⟩),(400,g5+i,⟨130,4,(st.take i).map eT,1⟩),(1003,g3,c3),(1004,g4,c4)]) (fun i=>st.length-i) 0 (Nat.zero_le _) ⟨O,O,O,O,O,O,O,O,by rw[<-hg5];rfl,by rw[<-hg5];rfl,O,O,trivial⟩ ?_;clear hg5;intro i s1 hi;refine D ?_ ?_<;>intro h
 .have hlt:i<st.length:=by have:=aB h;omega
  clear h;obtain⟨u,hu⟩:=aH hlt;obtain⟨hl1,hl2⟩:=hL u (a_ hu);have e1:=mN u.L J;have e2:=mN u.H0 J;have hrow:(st.take (i+1)).map eT=(st.take i).map eT++[[I u.x,I u.w,.sl (u.L.map eN),.sl (u.H0.map eN)]]:=by rw[br hu,List.map_append];rfl
  have hw:=c9 i;have htl:((st.take i).map eT).length<=1000:=by rw[List.length_map,List.length_take];omega
  have hb4:g5+(i+1)=g5+i+1:=O;generalize (st.take i).map eT=R at *
  refine aN hu ?_;refine H ?_;refine dM [] [5] 7 [7,8,9] aS aS ?_;refine G e1 ?_;refine G e2 ?_;refine H ?_;refine ax (aT 1 O O O O O O O O O O O aI O ?_);refine H ?_;refine ax (bb 1 O O O O O O O O O O O aI (by intro row hr;first|(simp at hr;subst hr;rfl)|simp at hr) O O aK aK ?_);refine H ?_;refine⟨i+1,hlt,J,O,O,O,O,O,congrArg I hw,O,O,?_,?_,O,O,trivial⟩
  .rw[hrow,hb4];rfl
  .rw[hrow,hb4];rfl
 have hie:i=st.length:=by have:=aG h;omega
 clear h;subst hie;rw[List.take_length];refine aq (Ghost.freezeD (k:=400) (k0:=3) (i:=0) (j:=2) (row:=[.str nm,I len,.als 400 (g5+st.length) 0 (st.map eT).length,.str ln,I lm,I lx,I lz,I lf,.sl (it.map eLd)]) O O O O O O O O) ?_;refine G q2 ?_;refine H ?_;refine bj [(1,.ptr 1 p1 0 0),(2,.ptr 2 p2 0 0),(48,.sl (bl.map eBk)),(49,I (bl.map eBk).length),(50,I ((0:Nat):Int))] [(1,p1,⟨31,14,[[.str nm,I len,.sl (st.map eT),.str ln,I lm,I lx,I lz,I lf,.sl (it.map eLd),I den,.nil,.sl (zn.map dC),I gm,I oh]],2⟩),(2,p2,⟨31,14,[[.str [],I 0,.nil,.str [],I 0,I 0,I 0,I 0,.nil,I 0,.nil,.nil,I 0,I 0]],2⟩),(1003,g3,c3),(1004,g4,c4)] ⟨O,O,O,O,O,O,O,O,O,trivial⟩ ?_;rw[hmb];intro s2;refine aq (Ghost.nilcell (k:=401) (k0:=1) (i:=0) (j:=10) (row:=[.str nm,I len,.sl (st.map eT),.str ln,I lm,I lx,I lz,I lf,.sl (it.map eLd),I den,.nil,.sl (zn.map dC),I gm,I oh]) 108 11 1 O O O O O O O) ?_;have hg6:∃g6,(s2.own 401).1+1=g6:=⟨_,O⟩;obtain⟨g6,hg6⟩:=hg6;refine ao (fun i:Nat=>i<=bl.length) (fun i=>[(1,.ptr 1 p1 0 0),(2,.ptr 2 p2 0 0),(48,.sl (bl.map eBk)),(49,I bl.length),(50,I (i:Nat))]) (fun i=>[(1,p1,⟨31,14,[[.str nm,I len,.sl (st.map eT),.str ln,I lm,I lx,I lz,I lf,.sl (it.map eLd),I den,.als 401 (g6+i) 0 ((bl.take i).map eBk).length,.sl (zn.map dC),I gm,I oh]],2⟩),(2,p2,⟨31,14,[[.str [],I 0,.nil,.str [],I 0,I 0,I 0,I 0,.nil,I 0,.nil,.nil,I 0,I 0]],2⟩),(401,g6+i,⟨108,11,(bl.take i).map eBk,1⟩),(1003,g3,c3),(1004,g4,c4)]) (fun i=>bl.length-i) 0 (Nat.zero_le _) ⟨O,O,O,O,O,by rw[<-hg6];rfl,O,by rw[<-hg6];rfl,O,O,trivial⟩ ?_;clear hg6;intro i s3 hi;refine D ?_ ?_<;>intro h
 .have hlt:i<bl.length:=by have:=aB h;omega
  clear h;obtain⟨b,hb⟩:=aH hlt;have e1:=ip b (hS b (a_ hb));have hrow:(bl.take (i+1)).map eBk=(bl.take i).map eBk++[[I b.x,I b.z,I b.hf,I b.ht,I b.wd,.bool b.st.n.neg,.sl (b.st.n.l.map eU),.bool b.st.d.neg,.sl (b.st.d.l.map eU),I b.lim,.bool b.side]]:=by rw[br hb,List.map_append];rfl
  have hw:=c9 i;have htl:((bl.take i).map eBk).length<=1000:=by rw[List.length_map,List.length_take];omega
  have hb4:g6+(i+1)=g6+i+1:=O;generalize (bl.take i).map eBk=R at *
  refine aN hb ?_;refine H ?_;refine dM [58,401] [1] 6 [4,5,6,7] aS aS ?_;refine G e1 ?_;refine H ?_;refine js O O O (aT 1 O O O O O O O O O O O aI O ⟨dR O,?_⟩);refine H ?_;refine js O O O (bb 1 O O O O O O O O O O O aI (by intro row hr;first|(simp at hr;subst hr;rfl)|(simp at hr;obtain⟨_,_,rfl⟩:=hr;rfl)|simp at hr) O O aK aK ⟨dR O,?_⟩);refine H ?_;refine⟨i+1,hlt,J,O,O,O,O,congrArg I hw,?_,O,?_,O,O,trivial⟩
  .rw[hrow,hb4];rfl
  .rw[hrow,hb4];rfl
 have hie:i=bl.length:=by have:=aG h;omega
 clear h;subst hie;rw[List.take_length];refine H ?_;exact zr (K:=fun o r=>K (({ reg:=s'.reg,own:=o }:St).putR t r)) [(401,g6+bl.length,⟨108,11,bl.map eBk,1⟩),(1003,g3,c3),(1004,g4,c4)] O aI O ⟨O,O,O,trivial⟩ (fun s1=>hK s1 _)
def yU:DKR:=⟨⟨[],0,[],⟨[],0,0,0,0⟩,[]⟩,0,[],[],0,0⟩
def wo:List PV:=[.str [],I 0,.nil,.str [],I 0,I 0,I 0,I 0,.nil,I 0,.nil,.nil,I 0,I 0]
theorem iX:WeakL wo (cn yU):=(WeakL.refl [.str [],I 0]).app (.cons .nil ((WeakL.refl [.str [],I 0,I 0,I 0,I 0]).app (.cons .nil ((WeakL.refl [I 0]).app (.cons .nil (.cons .nil (WeakL.refl [I 0,I 0])))))))
def tP (d:DKR)(i:Nat):DKR:={ d with bl:=d.bl.eraseIdx i }
set_option maxRecDepth 20000 in
theorem y7 (d:DKR)(hd:d.Ok)(h0:jg d≠0)(x:Int):Ret Tryz.prog .shared 51 [.agg (cn d),I x] (.tup [.agg (cn yU),I (jg d)]):=by
 have h1:=cK d hd
 suffices hz:Ret Tryz.prog .shared 51 [.agg (cn d),I x] (.tup [.agg wo,I (jg d)]) from hz.weak (WeakL.refl _) (WeakL.tup (.cons iX.agg (WeakL.refl _)))
 generalize jg d=e at *
 refine Ret.of_pwp layOk mixed Go.Proofs.Tryz.func51 O Y O O ?_;refine ap h1 ?_;refine D ?_ ?_<;>intro h
 .clear h;exact bI
 .simp at h;exact absurd h h0
set_option maxRecDepth 20000 in
theorem oN (d:DKR)(hd:d.Ok)(h0:jg d=0)(x:Int)(hx:x<0\/(d.bl.length:Int)<=x):Ret Tryz.prog .shared 51 [.agg (cn d),I x] (.tup [.agg (cn yU),I 6]):=by
 have h1:=cK d hd;rw[h0]at h1;have hml:(d.bl.map eBk).length=d.bl.length:=ai
 suffices hz:Ret Tryz.prog .shared 51 [.agg (cn d),I x] (.tup [.agg wo,I 6]) from hz.weak (WeakL.refl _) (WeakL.tup (.cons iX.agg (WeakL.refl _)))
 refine Ret.of_pwp layOk mixed Go.Proofs.Tryz.func51 O Y O O ?_;refine ap h1 ?_;refine cV ?_ ?_<;>intro h
 .clear h;exact bI
 have g1:=aG h;clear h;refine D ?_ ?_<;>intro h
 .clear h;exact bI
 .exfalso;have:=aG h;simp only[hml]at this;omega
set_option maxRecDepth 20000 in
theorem BH (d:DKR)(hd:d.Ok)(h1:d.s.st.length<=1000)(h2:d.s.it.length<=1000)(h3:d.bl.length<=1000)(h4:d.zn.length<=1000)(hL:∀t∈d.s.st,t.L.length<=1000/\t.H0.length<=1000)(hS:∀b∈d.bl,b.st.sz 1000)(h0:jg d=0)(i:Nat)(hi:i<d.bl.length):Ret Tryz.prog .shared 51 [.agg (cn d),I i] (.tup [.agg (cn (tP d i)),I 0]):=by
 have hc:=cK d hd;rw[h0]at hc;have hml:(d.bl.map eBk).length=d.bl.length:=ai;have hw:=c9 i;refine Ret.of_pwp layOk mixed Go.Proofs.Tryz.func51 O Y O O ?_;refine ap hc ?_;refine D ?_ ?_<;>intro h
 .have:=aB h;simp only[hml]at this;omega
 clear h
 (repeat ((fail_if_success (with_reducible refine aR 6 ?_));refine b9 O ?_))
 refine aq (Ghost.move (k:=2) (k':=1003) (t:=2) O O O O) ?_;refine aq (Ghost.move (k:=4) (k':=1004) (t:=4) O O O O) ?_
 ((repeat ((fail_if_success (with_reducible refine aR 6 ?_));refine b9 O ?_));refine aM 1 ?_)
 refine dD O ?_;refine aO ?_;refine aW O (lT d h1 h2 h3 h4 hL hS O ⟨O,O,trivial⟩ fun s1 g=>?_);refine aJ ?_
 ((repeat ((fail_if_success (with_reducible refine aR 7 ?_));refine b9 O ?_));refine aM 5 ?_)
 iterate 5 refine dD O ?_
 refine aO ?_;refine aW O (tQ (i:=i) O O O O (congrArg I hw) (by rw[hml];exact hi) ?_);refine aJ ?_;rw[<-Go.ChangeMaps.map_eraseIdx];have hdl:(d.bl.map eBk).length-1=((d.bl.eraseIdx i).map eBk).length:=by
  rw[hml,List.length_map,List.length_eraseIdx_of_lt hi]
 rw[hdl]
 (repeat ((fail_if_success (with_reducible refine aR 8 ?_));refine b9 O ?_))
 refine aq (Ghost.freezeD (k:=401) (k0:=7) (i:=0) (j:=10) (row:=[.str d.s.nm,I d.s.len,.sl (d.s.st.map eT),.str d.s.light.nm,I d.s.light.m,I d.s.light.x,I d.s.light.z,I d.s.light.f,.sl (d.s.it.map eLd),I d.d,.als 401 (g+1) 0 ((d.bl.eraseIdx i).map eBk).length,.sl (d.zn.map dC),I d.gm,I d.oh]) O O O O O O O O) ?_;exact bI
set_option maxRecDepth 20000 in
theorem pw (d:DKR)(h3:d.bl.length<=1000)(i:Nat)(hi:i<d.bl.length):Ret Tryz.prog .shared 53 [.agg (cn d),I i] (.agg (cn (tP d i))):=by
 have hml:(d.bl.map eBk).length=d.bl.length:=ai;have hw:=c9 i;have hap:[]++(d.bl.take i).map eBk++(d.bl.drop (i+1)).map eBk=(d.bl.eraseIdx i).map eBk:=by rw[List.nil_append,<-List.map_append,List.eraseIdx_eq_take_drop_succ]
 rw[tP];obtain⟨⟨nm,len,st,⟨ln,lm,lx,lz,lf⟩,it⟩,den,bl,zn,gm,oh⟩:=d;simp only at *
 refine Ret.of_pwp layOk mixed Go.Proofs.Tryz.func53 O Y O O ?_;refine H ?_;refine dM [7] [5] 13 [0,5,11,13] aS aS ?_;refine js O O O (aT 1 O O O O O O O O O O O aI O ⟨dR O,?_⟩);refine H ?_;refine bJ O O (jW (n:=((i:Nat):Int)) O O O O O J (Int.ofNat_le.2 (Nat.le_of_lt hi)) (fun _=>rfl)) ?_;rw[Int.toNat_natCast];refine H ?_;refine js O O O (bb 1 O O O O O O O O O O O aI (by intro row hr;obtain⟨q,_,rfl⟩:=List.mem_map.1 hr;rfl) O O aK aK ⟨dR O,?_⟩);refine H ?_;rw[hw];refine bJ O O (DZ (n:=((i+1:Nat):Int)) O O O O O J (Int.ofNat_le.2 hi) (fun _=>rfl)) ?_;rw[Int.toNat_natCast];refine H ?_;refine js O O O (bb 1 O O O O O O O O O O O aI (by intro row hr;obtain⟨q,_,rfl⟩:=List.mem_map.1 hr;rfl) O O aK aK ⟨dR O,?_⟩)
 (repeat ((fail_if_success (with_reducible refine aR 3 ?_));refine b9 O ?_))
 refine aq (Ghost.freezeD (k:=7) (k0:=5) (i:=0) (j:=10) (rows:=[]++(bl.take i).map eBk++(bl.drop (i+1)).map eBk) (row:=[.str nm,I len,.sl (st.map eT),.str ln,I lm,I lx,I lz,I lf,.sl (it.map eLd),I den,.als 7 3 0 ([]++(bl.take i).map eBk++(bl.drop (i+1)).map eBk).length,.sl (zn.map dC),I gm,I oh]) O O O O O O O O) ?_;rw[hap];exact bI
set_option maxRecDepth 20000 in
theorem oG {K:St->Prop}{s':St}{t:Nat}{x:Operand}{tys:Array TypeId}{ty:TypeId}{pos:String}{af:Array Edge}(bl:List BKR)(hl:bl.length<=1000)(hx:s'.ev x = .sl (bl.map eBk))
  (hK:∀g':Nat,K (({ reg:=s'.reg,own:=(s'.setOwn 5 g' (some ⟨108,11,bl.map eBk,1⟩)).own }:St).putR t (.als 5 g' 0 (bl.map eBk).length))) :
  Sm Tryz.prog lay.get s' ⟨some t,.call ⟨.value (.func 117),#[x],tys⟩,ty,pos,af,none⟩ K:=by
 refine cF layOk O O Tryz.func117 O Y O O ?_;show PWP _ _ _ _ (b8 s' (([x]:List Operand).map s'.ev++[]));rw[show(([x]:List Operand).map s'.ev++([]:List PV))=[.sl (bl.map eBk)] by simp[hx]]
 ((repeat ((fail_if_success (with_reducible refine aR 1 ?_));refine b9 O ?_));refine aM 1 ?_)
 refine dD O ?_;refine aO ?_;refine aW O (eX layOk O O O (fun h0=>?_) ?_)
 .rw[h0]at hK;rw[h0];refine aJ ?_
  (repeat ((fail_if_success (with_reducible refine cA ?_));refine b9 O ?_))
  refine aq (Ghost.nilreg (k:=5) (t:=2) 108 11 1 O O) ?_;refine H ?_;unfold aj;exact⟨_,_,O,aI,hK _⟩
 .refine aJ ?_;refine H ?_;refine ax (aT 1 O O O O O O O O O O O aI O ?_);refine H ?_;refine ax (bb 1 O O O O O O O O O O O aI (by intro row hr;obtain⟨p,_,rfl⟩:=List.mem_map.1 hr;rfl) O O aK aK ?_);refine H ?_;unfold aj;refine⟨_,_,O,aI,?_⟩;refine Eq.mp (congrArg (fun o=>K (St.putR { reg:=s'.reg,own:=o } t _)) ?_) (hK ((s'.own 5).1+1+1));funext k;by_cases hk:k=5
  .subst hk;rfl
  .rw[ay hk];exact((ay hk).trans (ay hk)).symm
structure LayOk (d:DKR) (b:BKR) (st:Int) (n:Nat):Prop where
 ok:d.Ok
 hst:d.s.st.length<=1000
 hit:d.s.it.length<=1000
 hzn:d.zn.length<=1000
 hbl:d.bl.length<=900
 hL:∀t∈d.s.st,t.L.length<=1000/\t.H0.length<=1000
 hS:∀b∈d.bl,b.st.sz 3
 bs:b.st.sz 3
 hn:n<=40
 s1:1<=st
 s2:st<=100000
 hx:i64 b.x
theorem LayOk.lay {d:DKR}{b:BKR}{st:Int}{n:Nat}(h:LayOk d b st n){i:Nat}(hi:i<=n):(da d b st i).length<=940/\∀c∈da d b st i,c.st.sz 3:=by
 have:=zu d b st i;have:=h.hbl;have:=h.hn;exact⟨J,zy h.hS (fun _=>h.bs) i⟩
theorem LayOk.push {d:DKR}{b:BKR}{st:Int}{n:Nat}(h:LayOk d b st n){i:Nat}(hi:i<=n):({ d with bl:=da d b st i++[fU b st i] }:DKR).Ok:=by
 obtain⟨h1,h2⟩:=h.lay hi;refine⟨⟨h.ok.len.s,?_,h.ok.len.zn⟩,fun c hc=>?_⟩
 .show(da d b st i++[fU b st i]).length<=_;rw[List.length_append,List.length_singleton];omega
 .rcases List.mem_append.1 hc with hc|hc
  .exact iS (h2 c hc) Y
  .rw[List.mem_singleton.1 hc];exact iS h.bs Y
def qZ (b:BKR)(st n:Int):List PV:=eBk b++[I st,I n]
set_option maxRecDepth 20000 in
set_option maxHeartbeats 4000000 in
theorem DM (d:DKR)(b:BKR)(st:Int)(n:Nat)(ok:LayOk d b st n)(h0:jg d=0):Ret Tryz.prog .shared 50 [.agg (cn d),.agg (qZ b st n)] (.tup [.agg (cn { d with bl:=da d b st n }),I 0]):=by
 have hc:=cK d ok.ok;rw[h0]at hc;have hml:(d.bl.map eBk).length=d.bl.length:=ai;have o1:=bm (n:Int) 0 40;rw[show ar (n:Int) 0 40=true by have:=ok.hn;simp[ar];omega]at o1;have o2:=bm st 1 100000;rw[show ar st 1 100000=true by have:=ok.s1;have:=ok.s2;simp[ar];omega]at o2;have o3:=bm b.x (-1000000) 1000000;have e1:=ip b (iS ok.bs Y);have hbl:=ok.hbl;refine Ret.of_pwp layOk mixed Go.Proofs.Tryz.func50 O Y O O ?_;refine ap hc ?_;refine ap o1 ?_;refine ap o2 ?_
 (repeat ((fail_if_success (with_reducible refine aR 6 ?_));refine b9 O ?_))
 refine aq (Ghost.move (k:=3) (k':=1003) (t:=3) O O O O) ?_;refine aq (Ghost.move (k:=4) (k':=1004) (t:=4) O O O O) ?_
 ((repeat ((fail_if_success (with_reducible refine aR 6 ?_));refine b9 O ?_));refine aM 1 ?_)
 refine dD O ?_;refine aO ?_;refine aW O (lT d ok.hst ok.hit J ok.hzn ok.hL (fun c hc=>iS (ok.hS c hc) Y) O ⟨O,O,trivial⟩ fun s1 g=>?_);refine aJ ?_
 (repeat ((fail_if_success (with_reducible refine aR 7 ?_));refine b9 O ?_))
 refine aq (Ghost.freezeD (k:=401) (k0:=7) (i:=0) (j:=10) (row:=[.str d.s.nm,I d.s.len,.sl (d.s.st.map eT),.str d.s.light.nm,I d.s.light.m,I d.s.light.x,I d.s.light.z,I d.s.light.f,.sl (d.s.it.map eLd),I d.d,.als 401 g 0 (d.bl.map eBk).length,.sl (d.zn.map dC),I d.gm,I d.oh]) O O O O O O O O) ?_;refine H ?_;refine bj [(3,.ptr 1003 1 0 0),(4,.ptr 1004 1 0 0),(7,.ptr 7 ((s1.own 7).1+1) 0 0),(29,I (n:Nat)),(30,I ((0:Nat):Int))] [(1003,1,⟨110,13,[qZ b st n],2⟩),(1004,1,⟨31,14,[wo],2⟩),(7,(s1.own 7).1+1,⟨31,14,[cn { d with bl:=da d b st 0 }],2⟩)] ⟨O,O,O,O,O,O,O,O,trivial⟩ ?_;generalize (s1.own 7).1+1=g7;intro s2;refine ao (fun i:Nat=>i<=n) (fun i=>[(3,.ptr 1003 1 0 0),(4,.ptr 1004 1 0 0),(7,.ptr 7 g7 0 0),(29,I (n:Nat)),(30,I (i:Nat))]) (fun i=>[(1003,1,⟨110,13,[qZ b st n],2⟩),(1004,1,⟨31,14,[wo],2⟩),(7,g7,⟨31,14,[cn { d with bl:=da d b st i }],2⟩)]) (fun i=>n-i) 0 (Nat.zero_le _) ⟨O,O,O,O,O,O,O,O,trivial⟩ ?_;intro i s3 hi;have hfar:1000000<b.x->da d b st i=da d b st n:=fun hb=>by
  rw[rZ hb ok.hx.2 ok.s1 ok.s2 i (by have:=ok.hn;omega),rZ hb ok.hx.2 ok.s1 ok.s2 n ok.hn]
 refine D ?_ ?_<;>intro h
 .have hlt:i<n:=by have:=aB h;omega
  clear h;obtain⟨hl1,hl2⟩:=ok.lay hi;have ck:=cK _ (ok.push hi);have hstep:da d b st (i+1)=if jg { d with bl:=da d b st i++[fU b st i] }=0 then da d b st i++[fU b st i] else da d b st i:=O
  have hw:IntKind.i64.wrap (((i:Nat):Int)+1)=((i+1:Nat):Int):=by have:=ok.hn;rw[wrap_i64 J J];omega
  have hmk:∀L:List BKR,(L++[fU b st i]).map eBk=L.map eBk++[eBk (fU b st i)]:=fun L=>by rw[List.map_append];rfl
  generalize jg { d with bl:=da d b st i++[fU b st i] }=E at *
  generalize da d b st i=L at *
  have hLm:(L.map eBk).length=L.length:=List.length_map _;refine G e1 ?_;refine ap o3 ?_;refine H ?_;by_cases hb:1000000<b.x
  .rw[show ar b.x (-1000000) 1000000=false by simp[ar];omega];refine H ?_;rw[decide_eq_true (show 0<b.x by omega)];refine H ?_;rw[hfar hb];exact E1 O O O
  .by_cases hin:ar b.x (-1000000) 1000000=true
   .rw[hin];refine H ?_;refine bj [(3,.ptr 1003 1 0 0),(4,.ptr 1004 1 0 0),(7,.ptr 7 g7 0 0),(29,I (n:Nat)),(30,I (i:Nat)),(9,.ptr 9 ((s3.own 9).1+1) 0 0),(10,.ptr 10 ((s3.own 10).1+1) 0 0)] [(1003,1,⟨110,13,[qZ b st n],2⟩),(1004,1,⟨31,14,[wo],2⟩),(7,g7,⟨31,14,[cn { d with bl:=L }],2⟩),(9,(s3.own 9).1+1,⟨108,11,[eBk (fU b st i)],2⟩),(10,(s3.own 10).1+1,⟨31,14,[cn { d with bl:=L }],2⟩)] ⟨O,O,O,O,O,O,O,O,O,O,O,O,trivial⟩ ?_;generalize (s3.own 9).1+1=g9;generalize (s3.own 10).1+1=g10;intro s4;generalize fU b st i=B at *
    (repeat (first|refine aO ?_ | refine bL ?_ | refine bS ?_))
    refine sK (fun _:Nat=>True) (fun _=>[(3,.ptr 1003 1 0 0),(4,.ptr 1004 1 0 0),(7,.ptr 7 g7 0 0),(29,I (n:Nat)),(30,I (i:Nat)),(10,.ptr 10 g10 0 0)]) (fun q=>[(1003,1,⟨110,13,[qZ b st n],2⟩),(1004,1,⟨31,14,[wo],2⟩),(7,g7,⟨31,14,[cn { d with bl:=L }],2⟩),(5,q,⟨108,11,L.map eBk++[eBk B],1⟩),(10,g10,⟨31,14,[[.str d.s.nm,I d.s.len,.sl (d.s.st.map eT),.str d.s.light.nm,I d.s.light.m,I d.s.light.x,I d.s.light.z,I d.s.light.f,.sl (d.s.it.map eLd),I d.d,.als 5 q 0 (L.map eBk++[eBk B]).length,.sl (d.zn.map dC),I d.gm,I d.oh]],2⟩)]) ?_ (fun q _ s5=>?_)
    .refine qy ?_;iterate 8 all_goals ((first
      |refine cg (i:=0) aS rfl ?_
      |refine cg (i:=1) aS rfl ?_
      |refine cg (i:=2) aS rfl ?_
      |refine cg (i:=3) aS rfl ?_
      |refine cg (i:=4) aS rfl ?_
      |refine cg (i:=5) aS rfl ?_
      |refine cg (i:=6) aS rfl ?_
      |refine cg (i:=7) aS rfl ?_
      |refine eu (i:=0) (j:=3) aS rfl rfl ?_ ?_
      |refine eu (i:=1) (j:=3) aS rfl rfl ?_ ?_
      |refine eu (i:=2) (j:=3) aS rfl rfl ?_ ?_
      |refine eu (i:=0) (j:=4) aS rfl rfl ?_ ?_
      |refine eu (i:=1) (j:=4) aS rfl rfl ?_ ?_
      |refine eu (i:=2) (j:=4) aS rfl rfl ?_ ?_
      )<;>(first
       |(refine aW rfl (oG L J rfl fun g'=>?_);refine aJ ?_;refine aO ?_)
       |(refine aJ ?_;(first|refine dD rfl ?_ | refine ax (aT 1 rfl rfl rfl rfl rfl rfl rfl rfl rfl rfl rfl aI rfl ?_)|refine ax (bb 1 rfl rfl rfl rfl rfl rfl rfl rfl rfl rfl rfl aI (by intro row hr;first|(simp at hr;subst hr;rfl)|(simp at hr;obtain⟨_,_,rfl⟩:=hr;rfl)) rfl rfl aK aK ?_));refine aO ?_)))
     all_goals (refine⟨by decide +kernel,bL ?_⟩;exact⟨_,trivial,O,O,O,O,O,O,O,O,O,O,O,trivial⟩)
    refine aq (Ghost.freezeD (k:=5) (k0:=10) (i:=0) (j:=10) (row:=[.str d.s.nm,I d.s.len,.sl (d.s.st.map eT),.str d.s.light.nm,I d.s.light.m,I d.s.light.x,I d.s.light.z,I d.s.light.f,.sl (d.s.it.map eLd),I d.d,.als 5 q 0 (L.map eBk++[eBk B]).length,.sl (d.zn.map dC),I d.gm,I d.oh]) O O O O O O O O) ?_;rw[<-hmk L];refine ap ck ?_;refine H ?_;by_cases hE:E=0
    .rw[decide_eq_true hE];refine H ?_;refine⟨i+1,hlt,J,O,O,O,O,congrArg I hw,O,O,?_,trivial⟩;rw[hstep,if_pos hE];rfl
    .rw[decide_eq_false hE];refine H ?_;refine⟨i+1,hlt,J,O,O,O,O,congrArg I hw,O,O,?_,trivial⟩;rw[hstep,if_neg hE];rfl
   .rw[show ar b.x (-1000000) 1000000=false by simpa using hin];refine H ?_;rw[decide_eq_false (show ¬0<b.x by intro hp;apply hin;simp[ar];omega)];refine H ?_;refine bj [(3,.ptr 1003 1 0 0),(4,.ptr 1004 1 0 0),(7,.ptr 7 g7 0 0),(29,I (n:Nat)),(30,I (i:Nat)),(9,.ptr 9 ((s3.own 9).1+1) 0 0),(10,.ptr 10 ((s3.own 10).1+1) 0 0)] [(1003,1,⟨110,13,[qZ b st n],2⟩),(1004,1,⟨31,14,[wo],2⟩),(7,g7,⟨31,14,[cn { d with bl:=L }],2⟩),(9,(s3.own 9).1+1,⟨108,11,[eBk (fU b st i)],2⟩),(10,(s3.own 10).1+1,⟨31,14,[cn { d with bl:=L }],2⟩)] ⟨O,O,O,O,O,O,O,O,O,O,O,O,trivial⟩ ?_;generalize (s3.own 9).1+1=g9;generalize (s3.own 10).1+1=g10;intro s4;generalize fU b st i=B at *
    (repeat (first|refine aO ?_ | refine bL ?_ | refine bS ?_))
    refine sK (fun _:Nat=>True) (fun _=>[(3,.ptr 1003 1 0 0),(4,.ptr 1004 1 0 0),(7,.ptr 7 g7 0 0),(29,I (n:Nat)),(30,I (i:Nat)),(10,.ptr 10 g10 0 0)]) (fun q=>[(1003,1,⟨110,13,[qZ b st n],2⟩),(1004,1,⟨31,14,[wo],2⟩),(7,g7,⟨31,14,[cn { d with bl:=L }],2⟩),(5,q,⟨108,11,L.map eBk++[eBk B],1⟩),(10,g10,⟨31,14,[[.str d.s.nm,I d.s.len,.sl (d.s.st.map eT),.str d.s.light.nm,I d.s.light.m,I d.s.light.x,I d.s.light.z,I d.s.light.f,.sl (d.s.it.map eLd),I d.d,.als 5 q 0 (L.map eBk++[eBk B]).length,.sl (d.zn.map dC),I d.gm,I d.oh]],2⟩)]) ?_ (fun q _ s5=>?_)
    .refine qy ?_;iterate 8 all_goals ((first
      |refine cg (i:=0) aS rfl ?_
      |refine cg (i:=1) aS rfl ?_
      |refine cg (i:=2) aS rfl ?_
      |refine cg (i:=3) aS rfl ?_
      |refine cg (i:=4) aS rfl ?_
      |refine cg (i:=5) aS rfl ?_
      |refine cg (i:=6) aS rfl ?_
      |refine cg (i:=7) aS rfl ?_
      |refine eu (i:=0) (j:=3) aS rfl rfl ?_ ?_
      |refine eu (i:=1) (j:=3) aS rfl rfl ?_ ?_
      |refine eu (i:=2) (j:=3) aS rfl rfl ?_ ?_
      |refine eu (i:=0) (j:=4) aS rfl rfl ?_ ?_
      |refine eu (i:=1) (j:=4) aS rfl rfl ?_ ?_
      |refine eu (i:=2) (j:=4) aS rfl rfl ?_ ?_
      )<;>(first
       |(refine aW rfl (oG L J rfl fun g'=>?_);refine aJ ?_;refine aO ?_)
       |(refine aJ ?_;(first|refine dD rfl ?_ | refine ax (aT 1 rfl rfl rfl rfl rfl rfl rfl rfl rfl rfl rfl aI rfl ?_)|refine ax (bb 1 rfl rfl rfl rfl rfl rfl rfl rfl rfl rfl rfl aI (by intro row hr;first|(simp at hr;subst hr;rfl)|(simp at hr;obtain⟨_,_,rfl⟩:=hr;rfl)) rfl rfl aK aK ?_));refine aO ?_)))
     all_goals (refine⟨by decide +kernel,bL ?_⟩;exact⟨_,trivial,O,O,O,O,O,O,O,O,O,O,O,trivial⟩)
    refine aq (Ghost.freezeD (k:=5) (k0:=10) (i:=0) (j:=10) (row:=[.str d.s.nm,I d.s.len,.sl (d.s.st.map eT),.str d.s.light.nm,I d.s.light.m,I d.s.light.x,I d.s.light.z,I d.s.light.f,.sl (d.s.it.map eLd),I d.d,.als 5 q 0 (L.map eBk++[eBk B]).length,.sl (d.zn.map dC),I d.gm,I d.oh]) O O O O O O O O) ?_;rw[<-hmk L];refine ap ck ?_;refine H ?_;by_cases hE:E=0
    .rw[decide_eq_true hE];refine H ?_;refine⟨i+1,hlt,J,O,O,O,O,congrArg I hw,O,O,?_,trivial⟩;rw[hstep,if_pos hE];rfl
    .rw[decide_eq_false hE];refine H ?_;refine⟨i+1,hlt,J,O,O,O,O,congrArg I hw,O,O,?_,trivial⟩;rw[hstep,if_neg hE];rfl
 .have hie:i=n:=by have:=aG h;omega
  clear h;subst hie;exact bI
set_option maxRecDepth 20000 in
theorem nB (d:DKR)(b:BKR)(st:Int)(n:Nat)(ok:LayOk d b st n):Ret Tryz.prog .shared 54 [.agg (cn d),.agg (qZ b st n)] (.agg (cn { d with bl:=da d b st n })):=by
 refine Ret.of_pwp layOk mixed Go.Proofs.Tryz.func54 O Y O O ?_;refine H ?_;refine ao (fun i:Nat=>i<=n) (fun i=>[(2,.ptr 2 1 0 0),(3,.ptr 3 1 0 0),(4,.ptr 4 1 0 0),(5,I (i:Nat))]) (fun i=>[(2,1,⟨31,14,[cn { d with bl:=da d b st i }],2⟩),(3,1,⟨110,13,[qZ b st n],2⟩),(4,1,⟨31,14,[wo],2⟩)]) (fun i=>n-i) 0 (Nat.zero_le _) ⟨O,O,O,O,O,O,O,trivial⟩ ?_;intro i s3 hi;refine D ?_ ?_<;>intro h
 .have hlt:i<n:=by have:=aB h;omega
  clear h;obtain⟨hl1,hl2⟩:=ok.lay hi;have ck:=l7 _ (ok.push hi);have hstep:da d b st (i+1)=if jg { d with bl:=da d b st i++[fU b st i] }=0 then da d b st i++[fU b st i] else da d b st i:=O
  have hw:IntKind.i64.wrap (((i:Nat):Int)+1)=((i+1:Nat):Int):=by have:=ok.hn;rw[wrap_i64 J J];omega
  have hmk:∀L:List BKR,[]++L.map eBk++[eBk (fU b st i)]=(L++[fU b st i]).map eBk:=fun L=>by rw[List.map_append];rfl
  generalize jg { d with bl:=da d b st i++[fU b st i] }=E at *
  generalize da d b st i=L at *
  have hLm:(L.map eBk).length=L.length:=List.length_map _;refine H ?_;refine bj [(2,.ptr 2 1 0 0),(3,.ptr 3 1 0 0),(4,.ptr 4 1 0 0),(5,I (i:Nat)),(6,.ptr 6 ((s3.own 6).1+1) 0 0),(7,.ptr 7 ((s3.own 7).1+1) 0 0)] [(2,1,⟨31,14,[cn { d with bl:=L }],2⟩),(3,1,⟨110,13,[qZ b st n],2⟩),(4,1,⟨31,14,[wo],2⟩),(6,(s3.own 6).1+1,⟨108,11,[eBk (fU b st i)],2⟩),(7,(s3.own 7).1+1,⟨31,14,[cn { d with bl:=L }],2⟩)] ⟨O,O,O,O,O,O,O,O,O,O,O,trivial⟩ ?_;generalize (s3.own 6).1+1=g6;generalize (s3.own 7).1+1=g7;intro s4;generalize fU b st i=B at *
  refine dM [26] [7] 8 [0,3,6,8] aS aS ?_;refine js O O O (aT 1 O O O O O O O O O O O aI O ⟨dR O,?_⟩);refine H ?_;refine js O O O (bb 1 O O O O O O O O O O O aI (by intro row hr;obtain⟨q,_,rfl⟩:=List.mem_map.1 hr;rfl) O O aK aK ⟨dR O,?_⟩);refine H ?_;refine bJ O O (kK O O O O O O O O O O aI O) ?_;refine H ?_;refine js O O O (bb 1 O O O O O O O O O O O aI (by intro row hr;first|(simp at hr;subst hr;rfl)|(simp at hr;obtain⟨_,_,rfl⟩:=hr;rfl)|simp at hr) O O aK aK ⟨dR O,?_⟩)
  (repeat ((fail_if_success (with_reducible refine aR 8 ?_));refine b9 O ?_))
  refine aq (Ghost.freezeD (k:=26) (k0:=7) (i:=0) (j:=10) (rows:=[]++L.map eBk++[eBk B]) (row:=[.str d.s.nm,I d.s.len,.sl (d.s.st.map eT),.str d.s.light.nm,I d.s.light.m,I d.s.light.x,I d.s.light.z,I d.s.light.f,.sl (d.s.it.map eLd),I d.d,.als 26 ((s4.own 26).1+1+1+1) 0 ([]++L.map eBk++[eBk B]).length,.sl (d.zn.map dC),I d.gm,I d.oh]) O O O O O O O O) ?_;rw[hmk L];refine ap ck ?_;refine H ?_;by_cases hE:E=0
  .rw[decide_eq_true hE];refine H ?_;refine⟨i+1,hlt,J,O,O,O,congrArg I hw,?_,O,O,trivial⟩;rw[hstep,if_pos hE];rfl
  .rw[decide_eq_false hE];refine H ?_;refine⟨i+1,hlt,J,O,O,O,congrArg I hw,?_,O,O,trivial⟩;rw[hstep,if_neg hE];rfl
 .have hie:i=n:=by have:=aG h;omega
  clear h;subst hie;exact bI
set_option maxRecDepth 20000 in
theorem BU (d:DKR)(hd:d.Ok)(h0:jg d≠0)(b:BKR)(st n:Int):Ret Tryz.prog .shared 50 [.agg (cn d),.agg (qZ b st n)] (.tup [.agg (cn yU),I (jg d)]):=by
 have h1:=cK d hd
 suffices hz:Ret Tryz.prog .shared 50 [.agg (cn d),.agg (qZ b st n)] (.tup [.agg wo,I (jg d)]) from hz.weak (WeakL.refl _) (WeakL.tup (.cons iX.agg (WeakL.refl _)))
 generalize jg d=e at *
 refine Ret.of_pwp layOk mixed Go.Proofs.Tryz.func50 O Y O O ?_;refine ap h1 ?_;refine D ?_ ?_<;>intro h
 .clear h;exact bI
 .simp at h;exact absurd h h0
set_option maxRecDepth 20000 in
theorem BV (d:DKR)(hd:d.Ok)(h0:jg d=0)(b:BKR)(st n:Int)(hr:ar n 0 40=false\/ar st 1 100000=false):Ret Tryz.prog .shared 50 [.agg (cn d),.agg (qZ b st n)] (.tup [.agg (cn yU),I 2]):=by
 have hc:=cK d hd;rw[h0]at hc;have o1:=bm n 0 40;have o2:=bm st 1 100000
 suffices hz:Ret Tryz.prog .shared 50 [.agg (cn d),.agg (qZ b st n)] (.tup [.agg wo,I 2]) from hz.weak (WeakL.refl _) (WeakL.tup (.cons iX.agg (WeakL.refl _)))
 cases h1:ar n 0 40 with
 |false =>
  rw[h1]at o1;refine Ret.of_pwp layOk mixed Go.Proofs.Tryz.func50 O Y O O ?_;refine ap hc ?_;refine ap o1 ?_;exact bI
 |true =>
  rw[show ar st 1 100000=false by simpa [h1] using hr]at o2;rw[h1]at o1;refine Ret.of_pwp layOk mixed Go.Proofs.Tryz.func50 O Y O O ?_;refine ap hc ?_;refine ap o1 ?_;refine ap o2 ?_;exact bI
theorem xY:Ret Tryz.prog .shared 52 [.agg (cn yU),.agg wo] (.bool true) :=
 (fx yU ⟨⟨Y,Y,fun t ht=>by cases ht⟩,Y,Y,fun b hb=>by cases hb⟩).weak ((WeakL.refl [.agg (cn yU)]).app (.cons iX.agg .nil)) (Weak.rfl _)
set_option maxRecDepth 20000 in
set_option maxHeartbeats 8000000 in
theorem lays_law (d:DKR)(hl:d.Len)(b:BKR)(st n i:Int)(hx:i64 b.x):Ret Tryz.prog .shared 11 [.agg (cn d),.agg (qZ b st n),I i] (.bool true):=by
 have a:=tD;have s:=Cx d;have f:Ret Tryz.prog .shared 20 [.agg (eR b.st),I (3:Nat)] (.bool (Ei b.st 3)):=nH b.st 3 Y;cases hS:ED d with
 |false =>
  rw[hS]at s;refine Ret.of_pwp layOk mixed Go.Proofs.Tryz.func11 O Y O O ?_;refine ap a ?_;refine ap s ?_;exact ef
 |true =>
 rw[hS]at s;cases hF:Ei b.st 3 with
 |false =>
  rw[hF]at f;refine Ret.of_pwp layOk mixed Go.Proofs.Tryz.func11 O Y O O ?_;refine ap a ?_;refine ap s ?_;refine ap f ?_;exact ef
 |true =>
 rw[hF]at f;have hb:b.st.sz 3:=by
  simp only[Ei,Bool.and_eq_true,decide_eq_true_eq]at hF;exact hF
 have sm:=FG hS;have ok:=sm.ok hl;have c:=wG d sm;have r:=l7 d ok;have z:=xY;have hml:((d.bl.map eBk).length:Int)=d.bl.length:=ai;by_cases hn:6<n/\n<=40
 .have hn1:=hn.1;have hn2:=hn.2;refine Ret.of_pwp layOk mixed Go.Proofs.Tryz.func11 O Y O O ?_;refine ap a ?_;refine ap s ?_;refine ap f ?_;refine H ?_;rw[decide_eq_true hn1];refine H ?_;rw[decide_eq_true hn2];exact ef
 by_cases hE:jg d=0
 .have hbl:=(EV ok hE).1.m;have lok:∀i:Nat,i<d.bl.length->SmlD (tP d i):=fun i hi=>⟨@qO d sm,Nat.le_trans (by show(d.bl.eraseIdx i).length<=d.bl.length;rw[List.length_eraseIdx_of_lt hi];omega) (Nat.le_trans sm.bl Y),Nat.le_trans sm.zn Y,fun b hb=>iS (sm.b b (List.mem_of_mem_eraseIdx hb)) Y⟩;rw[hE]at r;obtain⟨X,ex,hpl,hX⟩:∃(X:DKR) (ex:Int),Ret Tryz.prog .shared 50 [.agg (cn d),.agg (qZ b st n)] (.tup [.agg (cn X),I ex])/\(((ar n 0 40=false\/ar st 1 100000=false)/\X=yU/\ex=2)\/(∃m:Nat,n=m/\LayOk d b st m/\1<=st/\st<=100000/\n<=40/\X={ d with bl:=da d b st m }/\ex=0)):=by
   by_cases hr:ar n 0 40=false\/ar st 1 100000=false
   .exact⟨_,_,BV d ok hE b st n hr,.inl ⟨hr,O,O⟩⟩
   .have h1:ar n 0 40=true:=by cases h:ar n 0 40<;>simp_all
    have h2:ar st 1 100000=true:=by cases h:ar st 1 100000<;>simp_all
    have h1:=dA h1;have h2:=dA h2;obtain⟨m,rfl⟩:∃m:Nat,n=m:=⟨n.toNat,J⟩;have lk:LayOk d b st m:=⟨ok,Nat.le_trans sm.st Y,Nat.le_trans sm.it Y,Nat.le_trans sm.zn Y,Nat.le_trans sm.bl Y,fun t ht=>⟨Nat.le_trans (sm.L t ht).1 Y,Nat.le_trans (sm.L t ht).2 Y⟩,sm.b,hb,J,h2.1,h2.2,hx⟩;exact⟨_,_,DM d b st m lk hE,.inr ⟨m,O,lk,h2.1,h2.2,h1.2,O,O⟩⟩
  have pl:=hpl;clear hpl;obtain⟨Y0,ey,pd,hY⟩:∃(Y0:DKR) (ey:Int),Ret Tryz.prog .shared 51 [.agg (cn d),I i] (.tup [.agg (cn Y0),I ey])/\((i<0/\Y0=yU/\ey=6)\/((¬i<0/\(d.bl.length:Int)<=i)/\Y0=yU/\ey=6)\/(∃j:Nat,i=j/\j<d.bl.length/\Y0=tP d j/\ey=0)):=by
   by_cases h1:i<0
   .exact⟨_,_,oN d ok hE i (.inl h1),.inl ⟨h1,O,O⟩⟩
   by_cases h2:(d.bl.length:Int)<=i
   .exact⟨_,_,oN d ok hE i (.inr h2),.inr (.inl ⟨⟨h1,h2⟩,O,O⟩)⟩
   .obtain⟨j,rfl⟩:∃j:Nat,i=j:=⟨i.toNat,J⟩;exact⟨_,_,BH d ok (Nat.le_trans sm.st Y) (Nat.le_trans sm.it Y) (Nat.le_trans sm.bl Y) (Nat.le_trans sm.zn Y) (fun t ht=>⟨Nat.le_trans (sm.L t ht).1 Y,Nat.le_trans (sm.L t ht).2 Y⟩) (fun b hb=>iS (sm.b b hb) Y) hE j J,.inr (.inr ⟨j,O,J,O,O⟩)⟩
  by_cases h6:n<=6
  .have h6':=h6;refine Ret.of_pwp layOk mixed Go.Proofs.Tryz.func11 O Y O O ?_;refine ap a ?_;refine ap s ?_;refine ap f ?_;refine H ?_;rw[decide_eq_false (Int.not_lt.2 h6)];refine H ?_;refine fN [(7,7),(8,7)] aS aS ?_;refine G c ?_;refine G pl ?_;refine H ?_;refine Eu O O O O O ?_;refine Ds 2 O O O O O O (fun _=>rfl) aI O O O O ?_;refine G c ?_;refine G pd ?_;refine ap r ?_;refine H ?_;rcases hY with⟨hi,rfl,rfl⟩|⟨⟨hi,hi2⟩,rfl,rfl⟩|⟨j,rfl,hj,rfl,rfl⟩
   .rw[decide_eq_true hi];refine ap z ?_;refine H ?_;rcases hX with⟨hr,rfl,rfl⟩|⟨m,rfl,lk,s1,s2,n2,rfl,rfl⟩
    .by_cases q1:n<0
     .rw[decide_eq_true q1];refine H ?_;rw[decide_eq_true (show(2:Int)=2 from O)];refine ap z ?_;exact ef
     rw[decide_eq_false q1];refine H ?_;rw[decide_eq_false (show ¬40<n by omega)];refine H ?_;by_cases q2:st<1
     .rw[decide_eq_true q2];refine H ?_;rw[decide_eq_true (show(2:Int)=2 from O)];refine ap z ?_;exact ef
     rw[decide_eq_false q2];refine H ?_;have q3:100000<st:=by
      rcases hr with hr|hr
      .simp[ar]at hr;omega
      .simp[ar]at hr;omega
     rw[decide_eq_true q3];refine H ?_;rw[decide_eq_true (show(2:Int)=2 from O)];refine ap z ?_;exact ef
    .have rl:=nB d b st m lk;have ls:=fx { d with bl:=da d b st m } ⟨@qO d sm,Nat.le_trans (lk.lay (aP)).1 Y,Nat.le_trans sm.zn Y,fun b hb=>iS ((lk.lay (aP)).2 b hb) Y⟩;rw[decide_eq_false (show ¬((m:Nat):Int)<0 by omega)];refine H ?_;rw[decide_eq_false (show ¬40<((m:Nat):Int) by omega)];refine H ?_;rw[decide_eq_false (show ¬st<1 by omega)];refine H ?_;rw[decide_eq_false (show ¬100000<st by omega)];refine H ?_;refine bD [] [] aS ?_;refine G rl ?_;refine ap ls ?_;exact ef
   .rw[decide_eq_false hi];refine H ?_;rw[hml,decide_eq_true hi2];refine ap z ?_;refine H ?_;rcases hX with⟨hr,rfl,rfl⟩|⟨m,rfl,lk,s1,s2,n2,rfl,rfl⟩
    .by_cases q1:n<0
     .rw[decide_eq_true q1];refine H ?_;rw[decide_eq_true (show(2:Int)=2 from O)];refine ap z ?_;exact ef
     rw[decide_eq_false q1];refine H ?_;rw[decide_eq_false (show ¬40<n by omega)];refine H ?_;by_cases q2:st<1
     .rw[decide_eq_true q2];refine H ?_;rw[decide_eq_true (show(2:Int)=2 from O)];refine ap z ?_;exact ef
     rw[decide_eq_false q2];refine H ?_;have q3:100000<st:=by
      rcases hr with hr|hr
      .simp[ar]at hr;omega
      .simp[ar]at hr;omega
     rw[decide_eq_true q3];refine H ?_;rw[decide_eq_true (show(2:Int)=2 from O)];refine ap z ?_;exact ef
    .have rl:=nB d b st m lk;have ls:=fx { d with bl:=da d b st m } ⟨@qO d sm,Nat.le_trans (lk.lay (aP)).1 Y,Nat.le_trans sm.zn Y,fun b hb=>iS ((lk.lay (aP)).2 b hb) Y⟩;rw[decide_eq_false (show ¬((m:Nat):Int)<0 by omega)];refine H ?_;rw[decide_eq_false (show ¬40<((m:Nat):Int) by omega)];refine H ?_;rw[decide_eq_false (show ¬st<1 by omega)];refine H ?_;rw[decide_eq_false (show ¬100000<st by omega)];refine H ?_;refine bD [] [] aS ?_;refine G rl ?_;refine ap ls ?_;exact ef
   .have rd:=pw d (Nat.le_trans sm.bl Y) j hj;have sd:=fx (tP d j) (lok j hj);rw[decide_eq_false (show ¬((j:Nat):Int)<0 by omega)];refine H ?_;rw[hml,decide_eq_false (show ¬((d.bl.length:Nat):Int)<=((j:Nat):Int) by omega)];refine H ?_;refine bD [] [] aS ?_;refine G rd ?_;refine ap sd ?_;refine H ?_;rcases hX with⟨hr,rfl,rfl⟩|⟨m,rfl,lk,s1,s2,n2,rfl,rfl⟩
    .by_cases q1:n<0
     .rw[decide_eq_true q1];refine H ?_;rw[decide_eq_true (show(2:Int)=2 from O)];refine ap z ?_;exact ef
     rw[decide_eq_false q1];refine H ?_;rw[decide_eq_false (show ¬40<n by omega)];refine H ?_;by_cases q2:st<1
     .rw[decide_eq_true q2];refine H ?_;rw[decide_eq_true (show(2:Int)=2 from O)];refine ap z ?_;exact ef
     rw[decide_eq_false q2];refine H ?_;have q3:100000<st:=by
      rcases hr with hr|hr
      .simp[ar]at hr;omega
      .simp[ar]at hr;omega
     rw[decide_eq_true q3];refine H ?_;rw[decide_eq_true (show(2:Int)=2 from O)];refine ap z ?_;exact ef
    .have rl:=nB d b st m lk;have ls:=fx { d with bl:=da d b st m } ⟨@qO d sm,Nat.le_trans (lk.lay (aP)).1 Y,Nat.le_trans sm.zn Y,fun b hb=>iS ((lk.lay (aP)).2 b hb) Y⟩;rw[decide_eq_false (show ¬((m:Nat):Int)<0 by omega)];refine H ?_;rw[decide_eq_false (show ¬40<((m:Nat):Int) by omega)];refine H ?_;rw[decide_eq_false (show ¬st<1 by omega)];refine H ?_;rw[decide_eq_false (show ¬100000<st by omega)];refine H ?_;refine bD [] [] aS ?_;refine G rl ?_;refine ap ls ?_;exact ef
  .have h6':=h6;refine Ret.of_pwp layOk mixed Go.Proofs.Tryz.func11 O Y O O ?_;refine ap a ?_;refine ap s ?_;refine ap f ?_;refine H ?_;rw[decide_eq_true (Int.not_le.1 h6)];refine H ?_;rw[decide_eq_false (fun h:n<=40=>hn ⟨Int.not_le.1 h6,h⟩)];refine H ?_;refine fN [(7,7),(8,7)] aS aS ?_;refine G c ?_;refine G pl ?_;refine H ?_;refine Eu O O O O O ?_;refine Ds 2 O O O O O O (fun _=>rfl) aI O O O O ?_;refine G c ?_;refine G pd ?_;refine ap r ?_;refine H ?_;rcases hY with⟨hi,rfl,rfl⟩|⟨⟨hi,hi2⟩,rfl,rfl⟩|⟨j,rfl,hj,rfl,rfl⟩
   .rw[decide_eq_true hi];refine ap z ?_;refine H ?_;rcases hX with⟨hr,rfl,rfl⟩|⟨m,rfl,lk,s1,s2,n2,rfl,rfl⟩
    .rw[decide_eq_false (show ¬n<0 by omega)];refine H ?_;rw[decide_eq_true (show 40<n by omega)];refine H ?_;rw[decide_eq_true (show(2:Int)=2 from O)];refine ap z ?_;exact ef
    .exact absurd ⟨Int.not_le.1 h6,n2⟩ hn
   .rw[decide_eq_false hi];refine H ?_;rw[hml,decide_eq_true hi2];refine ap z ?_;refine H ?_;rcases hX with⟨hr,rfl,rfl⟩|⟨m,rfl,lk,s1,s2,n2,rfl,rfl⟩
    .rw[decide_eq_false (show ¬n<0 by omega)];refine H ?_;rw[decide_eq_true (show 40<n by omega)];refine H ?_;rw[decide_eq_true (show(2:Int)=2 from O)];refine ap z ?_;exact ef
    .exact absurd ⟨Int.not_le.1 h6,n2⟩ hn
   .have rd:=pw d (Nat.le_trans sm.bl Y) j hj;have sd:=fx (tP d j) (lok j hj);rw[decide_eq_false (show ¬((j:Nat):Int)<0 by omega)];refine H ?_;rw[hml,decide_eq_false (show ¬((d.bl.length:Nat):Int)<=((j:Nat):Int) by omega)];refine H ?_;refine bD [] [] aS ?_;refine G rd ?_;refine ap sd ?_;refine H ?_;rcases hX with⟨hr,rfl,rfl⟩|⟨m,rfl,lk,s1,s2,n2,rfl,rfl⟩
    .rw[decide_eq_false (show ¬n<0 by omega)];refine H ?_;rw[decide_eq_true (show 40<n by omega)];refine H ?_;rw[decide_eq_true (show(2:Int)=2 from O)];refine ap z ?_;exact ef
    .exact absurd ⟨Int.not_le.1 h6,n2⟩ hn
 .have pl:=BU d ok hE b st n;have pd:=y7 d ok hE i;generalize jg d=e at *
  by_cases h6:n<=6
  .have h6':=h6;refine Ret.of_pwp layOk mixed Go.Proofs.Tryz.func11 O Y O O ?_;refine ap a ?_;refine ap s ?_;refine ap f ?_;refine H ?_;rw[decide_eq_false (Int.not_lt.2 h6)];refine H ?_;refine fN [(7,7),(8,7)] aS aS ?_;refine G c ?_;refine G pl ?_;refine H ?_;refine Eu O O O O O ?_;refine Ds 2 O O O O O O (fun _=>rfl) aI O O O O ?_;refine G c ?_;refine G pd ?_;refine ap r ?_;refine H ?_;rw[decide_eq_false hE];refine H ?_;rw[decide_eq_true (show e=e from O)];refine H ?_;rw[decide_eq_true (show e=e from O)];refine ap z ?_;refine ap z ?_;exact ef
  .have h6':=h6;refine Ret.of_pwp layOk mixed Go.Proofs.Tryz.func11 O Y O O ?_;refine ap a ?_;refine ap s ?_;refine ap f ?_;refine H ?_;rw[decide_eq_true (Int.not_le.1 h6)];refine H ?_;rw[decide_eq_false (fun h:n<=40=>hn ⟨Int.not_le.1 h6,h⟩)];refine H ?_;refine fN [(7,7),(8,7)] aS aS ?_;refine G c ?_;refine G pl ?_;refine H ?_;refine Eu O O O O O ?_;refine Ds 2 O O O O O O (fun _=>rfl) aI O O O O ?_;refine G c ?_;refine G pd ?_;refine ap r ?_;refine H ?_;rw[decide_eq_false hE];refine H ?_;rw[decide_eq_true (show e=e from O)];refine H ?_;rw[decide_eq_true (show e=e from O)];refine ap z ?_;refine ap z ?_;exact ef
theorem dkPt0 {c:PV}(h:argW lay.get 110 c):∃(b:BKR) (st n:Int),c = .agg (qZ b st n)/\i64 b.x:=by
 obtain⟨cs,rfl,h⟩:∃cs,c = .agg cs/\i_ lay.get 12 110 cs:=h;obtain⟨parts,rfl,hl,hp⟩:=gy h O
 match parts,hl,hp with
 |[p0,p1,p2],_,hp =>
  have h0:=hp 0 _ p0 O O;obtain⟨a1,rfl⟩:=bP (hp 1 _ p1 O O) O;obtain⟨a2,rfl⟩:=bP (hp 2 _ p2 O O) O;obtain⟨parts,rfl,hl,hp⟩:=gy h0 O
  match parts,hl,hp with
  |[p0,p1,p2,p3,p4,p5,p6,p7],_,hp =>
   obtain⟨a0,rfl,hx⟩:=i2 (hp 0 _ p0 O O);obtain⟨b1,rfl⟩:=bP (hp 1 _ p1 O O) O;obtain⟨b2,rfl⟩:=bP (hp 2 _ p2 O O) O;obtain⟨b3,rfl⟩:=bP (hp 3 _ p3 O O) O;obtain⟨b4,rfl⟩:=bP (hp 4 _ p4 O O) O;obtain⟨b5,rfl⟩:=C6 (hp 5 _ p5 O O);obtain⟨b6,rfl⟩:=bP (hp 6 _ p6 O O) O;obtain⟨b7,rfl⟩:=nT (hp 7 _ p7 O O) O;exact⟨⟨a0,b1,b2,b3,b4,b5,b6,b7⟩,a1,a2,by simp[qZ,eBk,eR,eN],hx⟩
end Go.Pv
