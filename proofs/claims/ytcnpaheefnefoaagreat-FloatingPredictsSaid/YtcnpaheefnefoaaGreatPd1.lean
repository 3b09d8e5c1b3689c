/- Texts of one hand, gathered: PvFz, FuE, FuF, FuI, FuJ, FuK, FuL, FsF, FsG, FsH, FuM, FuN, FsI, FtB, FtC, FuA, FuG, FuH, FuO, FsJ, FsK, FsL, FsO, FsP, FmJ, FsQ, FsR, FsS, FuP, FuQ, FvB, FsM, FsN, FtD, FtE, FvG. -/
import Derived.Test.YtcnpaheefnefoaaGreatBa5
import Derived.WalkKit
import Derived.Deep.LoopGhost
import Derived.Deep.RegionLaw
import Derived.Lib.Walk
import Derived.Sort.WalkB12
import Derived.Lib.SliceRun
set_option linter.unusedSectionVars false
set_option linter.unusedSimpArgs false
set_option linter.unusedVariables false
set_option linter.unnecessarySimpa false
namespace Go.Pv
open Go.RowKit
variable [Globs]
variable {s:St}
theorem Ghost.freezeD {k gk k0 g0 i j n sz:Nat} {T:TypeId} {rows:List (List PV)} {c0:Cont} {row:List PV} (hk:Nat.beq k0 k=false) (ho:s.own k=(gk,some ⟨T,sz,rows,1⟩)) (h0:s.own k0=(g0,some c0)) (hkind:c0.kind=2) (hrow:c0.rows[i]? = some row) (hj:row[j]? = some (.als k gk 0 n)) (hz0:Nat.blt 0 c0.sz=true) (hn:n=rows.length) :
  Ghost s ((s.setOwn k (gk+1) none).setOwn k0 g0 (some ⟨c0.ty,c0.sz,c0.rows.set i (row.set j (.sl rows)),2⟩)):=by
 intro C a w hX ⟨γ,h⟩
 subst hn
 have hne:k0≠k:=fun e=>by subst e;simp at hk
 obtain⟨h1,hle,-⟩:=h.drop hX ho
 have ho1:(s.setOwn k (gk+1) none).own k0=(g0,some c0):=by rw[au hne];exact h0
 have hsite:=h.sites k0 c0 (by rw[h0])
 have hlt:=(List.getElem?_eq_some_iff.1 hrow).1
 have hlt2:=(List.getElem?_eq_some_iff.1 hj).1
 have hfr:∀v,Rep (ae C γ s w) (.als k gk 0 rows.length) v→Rep (ae C γ (s.setOwn k (gk+1) none) w) (.sl rows) v:=by
  intro v hp
  refine .d ?_
  rcases h.als_at hp ho with⟨q1,_,q3,q4⟩|⟨b,cap,cur,q1,q2,q3,q4,q5,q6,q7⟩
  ·have:rows=[]:=(h.sites k _ (by rw[ho])).emp q1
   rw[this,q4]
   exact .sl0 _ _
  ·obtain⟨cur',g1,g2,g3,g4,g5⟩:=h.site_at ho q1 (h.cells_sz ho q1 q3 q6)
   have hb:(ae C γ (s.setOwn k (gk+1) none) w).ok b:=by
    have hbase:=h.base k _ b (by rw[ho]) q1
    refine⟨hbase.2,fun hx=>?_,fun k' c' hc' hb'=>?_⟩
    ·have:=hX b hx;omega
    ·by_cases hk':k'=k
     ·subst hk';rw[ac]at hc';cases hc'
     ·rw[au hk']at hc'
      exact hk' (h.inj k' k c' _ b hc' (by rw[ho]) hb' q1)
   rw[q2]
   simp only[Nat.zero_mul]
   refine .sl rows b 0 cap sz (fun i j=>cur'.getD (i*sz+j) undef) hb g2 q4 g4 (fun i j row pv e1 e2=>?_) (fun i j row pv e1 e2=>?_)
   ·obtain⟨u,f1,f2,_⟩:=g5 i j row pv e1 e2
    have g1:w.heap[b]? = some (.cells cur' T (0,0)):=g1
    show w.cell? _=_∧_
    rw[aU g1,Nat.zero_add,f1]
    simp[f1,f2]
   ·obtain⟨u,f1,_,f3⟩:=g5 i j row pv e1 e2
    have hu:cur'.getD (i*sz+j) undef=u:=by simp[f1]
    simp only[hu]
    exact hle.drep f3
 have he:=jC (C:=C) (γ:=γ) (w:=w) (c1:=⟨c0.ty,c0.sz,c0.rows.set i (row.set j (.sl rows)),2⟩) ho1 rfl rfl (by simp)
 have hother:∀k',k'≠k0→((s.setOwn k (gk+1) none).setOwn k0 g0 (some ⟨c0.ty,c0.sz,c0.rows.set i (row.set j (.sl rows)),2⟩)).own k'=(s.setOwn k (gk+1) none).own k':=fun k' hk'=>au hk'
 have hsome:∀k' c',(((s.setOwn k (gk+1) none).setOwn k0 g0 (some ⟨c0.ty,c0.sz,c0.rows.set i (row.set j (.sl rows)),2⟩)).own k').2=some c'→∃c'',((s.setOwn k (gk+1) none).own k').2=some c'':=by
  intro k' c' hc'
  by_cases hk':k'=k0
  ·subst hk';exact⟨c0,by rw[ho1]⟩
  ·rw[hother k' hk']at hc';exact⟨c',hc'⟩
 refine⟨γ,h1.defers,h1.size,fun r=>by rw[he];exact h1.regs r,fun k' c' hc'=>?_,fun k1 k2 c1 c2 b e1 e2 e3 e4=>?_,fun k' c' b e1 e2=>?_,h1.below,h1.top,fun c v hk=>by rw[he];exact h1.kept c v hk⟩
 ·rw[he]
  by_cases hk':k'=k0
  ·subst hk'
   rw[ac]at hc'
   have hc':=Option.some.inj hc'
   subst hc'
   have hz0:0<c0.sz:=by simpa using hz0
   refine⟨fun hb=>?_,(fun b _ hz=>by simp only at hz;omega),(fun b _ hz=>by simp only at hz;omega),fun b hb _=>?_⟩
   ·have:=hsite.emp hb
    rw[this]at hrow;simp at hrow
   ·obtain⟨cur,f1,f2,f3,f4,f5⟩:=hsite.at_ b hb hz0
    refine⟨cur,f1,f2,by simpa using f3,fun r hr=>?_,fun i' j' row1 pv1 e1 e2=>?_⟩
    ·rcases List.mem_or_eq_of_mem_set hr with hr|rfl
     ·exact f4 r hr
     ·simpa using f4 row (List.mem_of_getElem? hrow)
    ·by_cases hi:i'=i
     ·subst hi
      rw[List.getElem?_set_self hlt]at e1
      have e1:=Option.some.inj e1
      subst e1
      by_cases hjj:j'=j
      ·subst hjj
       rw[List.getElem?_set_self hlt2]at e2
       have e2:=Option.some.inj e2
       subst e2
       obtain⟨v,u1,u2,u3⟩:=f5 i' j' row _ hrow hj
       rw[hkind]at u3
       exact⟨v,u1,u2,hfr v u3⟩
      ·rw[List.getElem?_set_ne (Ne.symm hjj)]at e2
       obtain⟨v,u1,u2,u3⟩:=f5 i' j' row pv1 hrow e2
       rw[hkind]at u3
       exact⟨v,u1,u2,Rep.mono hle u3⟩
     ·rw[List.getElem?_set_ne (Ne.symm hi)]at e1
      obtain⟨v,u1,u2,u3⟩:=f5 i' j' row1 pv1 e1 e2
      rw[hkind]at u3
      exact⟨v,u1,u2,Rep.mono hle u3⟩
  ·rw[hother k' hk']at hc'
   exact h1.sites k' c' hc'
 ·obtain⟨d,hd⟩:=hsome k1 c1 e1
  obtain⟨d',hd'⟩:=hsome k2 c2 e2
  exact h1.inj k1 k2 d d' b hd hd' e3 e4
 ·obtain⟨d,hd⟩:=hsome k' c' e1
  exact h1.base k' d b hd e2
end Go.Pv
set_option maxHeartbeats 2000000
namespace Go.Pv
attribute [local irreducible] PWP POps PQuiet PSem ar ao ai ah
open Go.Proofs
set_option maxRecDepth 20000 in
theorem r6 (l:List Int) (hl:l.length≤1000000000):Ret Tryz.prog .fresh 125 [.sl (l.map eN)] (.sl (l.map eN)):=by
 refine Ret.of_pwp layOk mixed Go.Proofs.Tryz.func125 rfl (by decide) rfl rfl ?_
 ((repeat ((fail_if_success (with_reducible refine aJ 1 ?_));refine cn rfl ?_));refine aB 1 ?_)
 refine aa rfl ?_
 refine aW ?_
 refine aK rfl (om layOk rfl rfl rfl (fun h0=>?_) ?_)
 ·rw[h0]
  refine aD ?_
  (repeat ((fail_if_success (with_reducible refine jc ?_));refine cn rfl ?_))
  refine ay (Ghost.nilfs (t:=2) rfl) ?_
  repeat refine aa rfl ?_
  exact qe rfl rfl rfl trivial rfl
 ·refine aD ?_
  repeat refine aa rfl ?_
  refine ax (bt 0 rfl rfl rfl rfl rfl rfl rfl rfl rfl rfl rfl (by repeat' constructor) rfl ?_)
  repeat refine aa rfl ?_
  refine ax (bQ 1 rfl rfl rfl rfl rfl rfl rfl rfl rfl rfl rfl (by repeat' constructor) (by intro row hr;obtain⟨p,_,rfl⟩:=List.mem_map.1 hr;rfl) rfl rfl (by simp;omega) (by simp;omega) ?_)
  (repeat ((fail_if_success (with_reducible refine jc ?_));refine cn rfl ?_))
  refine ay (Ghost.takeF (k:=5) (t:=2) l rfl rfl rfl rfl (fun _=>rfl)) ?_
  repeat refine aa rfl ?_
  exact qe rfl rfl rfl (by repeat' constructor) rfl
def kq (x:RR):RR:=ofQ x.val
def gv (x:SR):SR:=⟨x.x,kq x.c,⟨x.k.S,x.k.M.map kq⟩⟩
def DX (ch:SR→SR) (b:BR):BR:=⟨b.w,kq b.a,b.l.map fun x=>ch (gv x)⟩
structure ChOk (f:FuncId) (caps:List PV) (ch:SR→SR) (x:SR):Prop where
 run:∀ {K:St→Prop} {s:St} {d g g4 g5 g400:Nat} {c4 c5 c400:Cont} {c a:Operand} {tys:Array TypeId} {ty:TypeId} {pos:String} {af:Array Edge},s.ev c = .clo f caps→s.ev a = .ptr 8 g 0 0 →
 FitO s [(8,g,⟨71,7,[eS x],2⟩),(4,g4,c4),(5,g5,c5),(400,g400,c400)] →
 (∀s1:St,K (({ reg:=s.reg,own:=(s1.over [] [(8,g,⟨71,7,[eS (ch x)],2⟩),(4,g4,c4),(5,g5,c5),(400,g400,c400)]).own }:St).putR d (.tup []))) →
 Sm Tryz.prog lay.get s ⟨some d,.call ⟨.value c,#[a],tys⟩,ty,pos,af,none⟩ K
theorem Au (x:SR):ChOk 65 [] id x:=by
 constructor
 intro K s d g g4 g5 g400 c4 c5 c400 c a tys ty pos af hc ha ho hK
 refine bE layOk rfl hc Tryz.func65 rfl (by decide) rfl rfl ?_
 show PWP _ _ _ _ (aQ s (([a]:List Operand).map s.ev++[]))
 have hk:=hK s
 simp only[id_eq]at hk
 rw[Fit.over (l:=[]) ho]at hk
 repeat refine aa rfl ?_
 exact cf rfl hk
theorem iD {α β:Type} {f:α→β} {l:List α} {k:Nat} {x:α} (h:l[k]? = some x):(l.take (k+1)).map f=(l.take k).map f++[f x]:=by rw[b0 h,List.map_append];rfl
set_option maxRecDepth 20000 in
theorem r8 (b:BR) (hb:b.Lim) (h12:b.l.length≤1000) (hM:∀s∈b.l,s.k.M.length≤1000) (cl:FuncId) (caps:List PV) (ch:SR→SR) (hch:∀s∈b.l,ChOk cl caps ch (gv s)) :
  Ret Tryz.prog .shared 64 [.agg (eB b),.clo cl caps] (.agg (eB (DX ch b))):=by
 have h1:=Ay b.a (hx:=hb.a.v) (by decide)
 have hml:(b.l.map eS).length=b.l.length:=by simp
 obtain⟨w,ba,l⟩:=b
 simp only at *
 have hll:=hb.l.1
 rw[show ofQ ba.val=kq ba from rfl]at h1
 clear hb
 generalize hG:(fun x=>ch (gv x))=G
 rw[DX,hG]
 generalize kq ba=A0 at *
 refine Ret.of_pwp layOk mixed Go.Proofs.Tryz.func64 rfl (by decide) rfl rfl ?_
 repeat refine aa rfl ?_
 refine aM 6 1 [11,12,13,14,15,16,5] [] (by decide +kernel) rfl ?_
 repeat refine aa rfl ?_
 refine am rfl rfl rfl h1 rfl rfl ?_
 repeat refine aa rfl ?_
 refine ay (Ghost.nilcell (k:=400) (k0:=5) (i:=0) (j:=5) (row:=I w::(eR A0++[.nil])) 71 7 1 rfl rfl rfl rfl rfl rfl rfl) ?_
 refine aq (fun i:Nat=>i≤l.length) (fun i=>[(1,.clo cl caps),(4,.ptr 4 1 0 0),(5,.ptr 5 1 0 0),(18,.sl (l.map eS)),(19,I l.length),(20,I (i:Nat))])
  (fun i=>[(4,1,⟨29,6,[I 0::(zN++[.nil])],2⟩),(5,1,⟨29,6,[I w::(eR A0++[.als 400 (1+i) 0 (((l.take i).map G).map eS).length])],2⟩),(400,1+i,⟨71,7,((l.take i).map G).map eS,1⟩)]) (fun i=>l.length-i) 0 (Nat.zero_le _) ⟨rfl,rfl,rfl,rfl,by rw[←hml];rfl,rfl,rfl,rfl,rfl,trivial⟩ ?_
 intro i s hi
 repeat refine aa rfl ?_
 refine ab rfl ?_ ?_<;>intro h
 ·have hlt:i<l.length:=by have:=of_decide_eq_true h;omega
  clear h
  obtain⟨x,hx⟩:=aI hlt
  have hxm:=List.mem_of_getElem? hx
  have hxl:=hll x hxm
  have hcx:=hch x hxm
  have hMx:=hM x hxm
  have hrow:=iD (f:=G) hx
  have hil:((l.take i).map G).length≤1000:=by rw[List.length_map,List.length_take];omega
  have hw:=iA i
  have hGx:G x=ch (gv x):=by rw[←hG]
  generalize G x=y at *
  generalize (l.take i).map G=B at *
  have e1:=Ay x.c (hx:=hxl.c.v) (by decide)
  rw[show ofQ x.c.val=kq x.c from rfl]at e1
  have e2:=(r6 x.k.S hxl.k.ls).shared_of_fresh
  have e3:∀m∈x.k.M,Ret Tryz.prog .shared 124 [.agg (eR m)] (.agg (eR (kq m))):=fun m hm=>Ay m (hx:=(hxl.k.m m hm).v) (by decide)
  have hmm:(x.k.M.map eR).length=x.k.M.length:=by simp
  obtain⟨xx,xc,xS,xM⟩:=x
  simp only[gv]at *
  generalize kq xc=XC at *
  repeat refine aa rfl ?_
  refine bT rfl rfl rfl rfl rfl rfl rfl hx rfl ?_
  (repeat ((fail_if_success (with_reducible refine aJ 5 ?_));refine cn rfl ?_))
  refine ay (d5 8) ?_
  refine aM 11 1 [24,25,26,27,28,29,30,31,32,33,34,8] [] (by decide +kernel) rfl ?_
  repeat refine aa rfl ?_
  refine am rfl rfl rfl e1 rfl rfl ?_
  repeat refine aa rfl ?_
  refine am rfl rfl rfl e2 rfl rfl ?_
  repeat refine aa rfl ?_
  refine fp [(1,.clo cl caps),(4,.ptr 4 1 0 0),(5,.ptr 5 1 0 0),(8,.ptr 8 ((s.own 8).1+2+1) 0 0),(18,.sl (l.map eS)),(19,I l.length),(20,I (i:Nat)),(37,.sl (xM.map eR)),(38,I (xM.map eR).length),(39,I ((0:Nat):Int))]
   [(4,1,⟨29,6,[I 0::(zN++[.nil])],2⟩),(5,1,⟨29,6,[I w::(eR A0++[.als 400 (1+i) 0 (B.map eS).length])],2⟩),(400,1+i,⟨71,7,B.map eS,1⟩),(8,(s.own 8).1+2+1,⟨71,7,[I xx::(eR XC++[.sl (xS.map eN),.nil])],2⟩)]
   ⟨rfl,rfl,rfl,rfl,rfl,rfl,rfl,rfl,rfl,rfl,rfl,rfl,rfl,rfl,trivial⟩ ?_
  generalize (s.own 8).1+2+1=g8
  rw[hmm]
  intro s1
  refine ay (Ghost.nilcell (k:=300) (k0:=8) (i:=0) (j:=6) (row:=I xx::(eR XC++[.sl (xS.map eN),.nil])) 26 4 1 rfl rfl rfl rfl rfl rfl rfl) ?_
  have hg3:∃g3,(s1.own 300).1+1=g3:=⟨_,rfl⟩
  obtain⟨g3,hg3⟩:=hg3
  refine aq (fun k:Nat=>k≤xM.length) (fun k=>[(1,.clo cl caps),(4,.ptr 4 1 0 0),(5,.ptr 5 1 0 0),(8,.ptr 8 g8 0 0),(18,.sl (l.map eS)),(19,I l.length),(20,I (i:Nat)),(37,.sl (xM.map eR)),(38,I xM.length),(39,I (k:Nat))])
   (fun k=>[(4,1,⟨29,6,[I 0::(zN++[.nil])],2⟩),(5,1,⟨29,6,[I w::(eR A0++[.als 400 (1+i) 0 (B.map eS).length])],2⟩),(400,1+i,⟨71,7,B.map eS,1⟩),(8,g8,⟨71,7,[I xx::(eR XC++[.sl (xS.map eN),.als 300 (g3+k) 0 (((xM.take k).map kq).map eR).length])],2⟩),(300,g3+k,⟨26,4,((xM.take k).map kq).map eR,1⟩)]) (fun k=>xM.length-k) 0 (Nat.zero_le _)
   ⟨rfl,rfl,rfl,rfl,rfl,rfl,rfl,rfl,rfl,rfl,rfl,rfl,rfl,by rw[←hg3];rfl,by rw[←hg3];rfl,trivial⟩ ?_
  clear hg3
  intro k s2 hk
  repeat refine aa rfl ?_
  refine ab rfl ?_ ?_<;>intro h
  ·have hlk:k<xM.length:=by have:=of_decide_eq_true h;omega
   clear h
   obtain⟨m,hm⟩:=aI hlk
   have e4:=e3 m (List.mem_of_getElem? hm)
   have hrk:=iD (f:=kq) hm
   have hkl:((xM.take k).map kq).length≤1000:=by rw[List.length_map,List.length_take];omega
   have hwk:IntKind.i64.wrap (((k:Nat):Int)+1)=((k+1:Nat):Int):=by rw[wrap_i64 (by omega) (by omega)];omega
   generalize kq m=n at *
   generalize (xM.take k).map kq=E at *
   repeat refine aa rfl ?_
   refine bT rfl rfl rfl rfl rfl rfl rfl hm rfl ?_
   (repeat ((fail_if_success (with_reducible refine aJ 9 ?_));refine cn rfl ?_))
   refine mF [48,300] [8] 9 [5,6,9] (by decide +kernel) (by decide +kernel) ?_
   repeat refine aa rfl ?_
   refine am rfl rfl rfl e4 rfl rfl ?_
   repeat refine aa rfl ?_
   refine B1 rfl rfl rfl (bt 1 rfl rfl rfl rfl rfl rfl rfl rfl rfl rfl rfl (by repeat' constructor) rfl ⟨sC rfl,?_⟩)
   repeat refine aa rfl ?_
   refine B1 rfl rfl rfl (bQ 1 rfl rfl rfl rfl rfl rfl rfl rfl rfl rfl rfl (by repeat' constructor) (by intro row hr;first|(simp at hr;subst hr;rfl)|(simp at hr;obtain⟨_,_,rfl⟩:=hr;rfl)|simp at hr) rfl rfl (by simp;omega) (by simp;omega) ⟨sC rfl,?_⟩)
   repeat refine aa rfl ?_
   have hb3:g3+(k+1)=g3+k+1:=rfl
   refine⟨k+1,hlk,by omega,rfl,rfl,rfl,rfl,rfl,rfl,rfl,rfl,rfl,congrArg I hwk,rfl,rfl,rfl,?_,?_,trivial⟩
   ·rw[hrk,hb3]
    refine Eq.trans (b:=(g8,some (Cont.mk 71 7 [I xx::(eR XC++[.sl (xS.map eN),.als 300 (g3+k+1) 0 (E.map eR++[eR n]).length])] 2))) rfl ?_
    rw[show(E++[n]).map eR=E.map eR++[eR n] by rw[List.map_append];rfl]
   ·rw[hrk,hb3,show(E++[n]).map eR=E.map eR++[eR n] by rw[List.map_append];rfl]
    rfl
  ·have hke:k=xM.length:=by have:=of_decide_eq_false h;omega
   clear h
   subst hke
   rw[List.take_length]
   refine ay (Ghost.freezeD (k:=300) (k0:=8) (i:=0) (j:=6) (row:=I xx::(eR XC++[.sl (xS.map eN),.als 300 (g3+xM.length) 0 ((xM.map kq).map eR).length])) rfl rfl rfl rfl rfl rfl rfl rfl) ?_
   ((repeat ((fail_if_success (with_reducible refine aJ 11 ?_));refine cn rfl ?_));refine aB 1 ?_)
   refine aa rfl ?_
   refine aW ?_
   refine aK rfl (hcx.run rfl rfl ⟨rfl,rfl,rfl,rfl,trivial⟩ fun s3=>?_)
   refine aD ?_
   repeat refine aa rfl ?_
   refine ax (bt 1 rfl rfl rfl rfl rfl rfl rfl rfl rfl rfl rfl (by repeat' constructor) rfl ?_)
   repeat refine aa rfl ?_
   refine ax (bQ 1 rfl rfl rfl rfl rfl rfl rfl rfl rfl rfl rfl (by repeat' constructor) (by intro row hr;first|(simp at hr;subst hr;rfl)|simp at hr) rfl rfl (by simp;omega) (by simp;omega) ?_)
   repeat refine aa rfl ?_
   have hb4:1+(i+1)=1+i+1:=rfl
   refine⟨i+1,hlt,by omega,rfl,rfl,rfl,rfl,rfl,congrArg I hw,rfl,?_,?_,trivial⟩
   ·rw[hrow,hb4]
    refine Eq.trans (b:=(1,some (Cont.mk 29 6 [I w::(eR A0++[.als 400 (1+i+1) 0 (B.map eS++[eS y]).length])] 2))) ?_ ?_
    ·rw[hGx]
     rfl
    ·rw[show(B++[y]).map eS=B.map eS++[eS y] by rw[List.map_append];rfl]
   ·rw[hrow,hb4,show(B++[y]).map eS=B.map eS++[eS y] by rw[List.map_append];rfl,hGx]
    rfl
 ·have hie:i=l.length:=by have:=of_decide_eq_false h;omega
  clear h
  subst hie
  rw[List.take_length]
  refine ay (Ghost.freezeD (k:=400) (k0:=5) (i:=0) (j:=5) (row:=I w::(eR A0++[.als 400 (1+l.length) 0 ((l.map G).map eS).length])) rfl rfl rfl rfl rfl rfl rfl rfl) ?_
  repeat refine aa rfl ?_
  exact aG rfl rfl rfl
def zB:List PV:=I 0::(zN++[.nil])
def gx:BR:=⟨0,RR.zero,[]⟩
theorem WeakL.app {a b c d:List PV} (h1:WeakL a b) (h2:WeakL c d):WeakL (a++c) (b++d):=by
 induction h1 with
 |nil=>exact h2
 |cons h _ ih=>exact .cons h ih
theorem uA:WeakL zB (eB gx) := .cons (.rfl _) (fw.app (.cons .nil .nil))
set_option maxRecDepth 20000 in
theorem p5 (b:BR) (hb:b.Lim):Ret Tryz.prog .shared 68 [.agg (eB b)] (.tup [.agg (eB (if aX b=0 then b else gx)),I (aX b)]):=by
 have h1:=aV b hb
 by_cases h0:aX b=0
 ·rw[if_pos h0,h0]
  rw[h0]at h1
  refine Ret.of_pwp layOk mixed Go.Proofs.Tryz.func68 rfl (by decide) rfl rfl ?_
  repeat refine aa rfl ?_
  refine aS rfl rfl rfl h1 rfl rfl rfl ?_
  repeat refine aa rfl ?_
  exact aG rfl rfl rfl
 ·rw[if_neg h0]
  suffices hz:Ret Tryz.prog .shared 68 [.agg (eB b)] (.tup [.agg zB,I (aX b)]) from hz.weak (WeakL.refl _) (WeakL.tup (.cons uA.agg (WeakL.refl _)))
  generalize aX b=e at *
  refine Ret.of_pwp layOk mixed Go.Proofs.Tryz.func68 rfl (by decide) rfl rfl ?_
  repeat refine aa rfl ?_
  refine aS rfl rfl rfl h1 rfl rfl rfl ?_
  repeat refine aa rfl ?_
  refine ab rfl ?_ ?_<;>intro h
  ·clear h
   repeat refine aa rfl ?_
   exact aG rfl rfl rfl
  ·simp at h
   exact absurd h h0
def jq (b:BR) (m x:Int):Rat:=((b.w:Rat)*b.a.val+(m:Rat)*(x:Rat))/((b.w+m:Int):Rat)
def cd (b:BR) (m x:Int):BR:=⟨b.w+m,ofQ (jq b m x),b.l.map gv⟩
theorem tn {b:BR} {m x:Int} (hw:1≤b.w∧b.w≤1000000000) (ha:b.a.sz 3) (hm:0≤m∧m≤1000000000) (hx : -1000000≤x∧x≤1000000):hq (jq b m x) 8:=by
 have e:jq b m x=((b.w*b.a.n.val+m*x*b.a.d.den:Int):Rat)/((b.a.d.den*(b.w+m):Int):Rat):=by
  rw[jq,RR.val]
  have hd:((b.a.d.den:Int):Rat)≠0:=by have:=b.a.d.den_ne;exact_mod_cast this
  have hs:((b.w+m:Int):Rat)≠0:=by
   have:(b.w+m:Int)≠0:=by omega
   exact_mod_cast this
  push_cast at *
  generalize (b.a.d.den:Rat)=D at *
  generalize (b.a.n.val:Rat)=P at *
  generalize (b.w:Rat)=W at *
  generalize (m:Rat)=M at *
  grind
 have h1:=b.a.n.val_lt (n:=3) ha.1
 have h2:=b.a.d.den_lt (n:=3) ha.2 (by decide)
 have h3:=b.a.d.den_ne
 generalize b.a.d.den=D at *
 generalize b.a.n.val=P at *
 rw[e]
 rw[show 65536^3=281474976710656 by decide]at h1 h2
 have p1:(b.w*P).natAbs≤1000000000*281474976710656:=by rw[Int.natAbs_mul];exact Nat.mul_le_mul (by omega) (by omega)
 have p2:(m*x*D).natAbs≤1000000000*1000000*281474976710656:=by rw[Int.natAbs_mul,Int.natAbs_mul];exact Nat.mul_le_mul (Nat.mul_le_mul (by omega) (by omega)) (by omega)
 have p3:(D*(b.w+m)).natAbs≤281474976710656*2000000000:=by rw[Int.natAbs_mul];exact Nat.mul_le_mul (by omega) (by omega)
 have e8:65536^8=340282366920938463463374607431768211456:=by decide
 refine ko (Int.mul_ne_zero h3 (by omega)) ?_ ?_
 ·have:=Int.natAbs_add_le (b.w*P) (m*x*D)
  rw[e8]
  omega
 ·rw[e8]
  omega
set_option maxRecDepth 20000 in
theorem to (b:BR) (hb:b.Lim) (h0:aX b=0) (m x:Int) (hf:(m<0∨1000000000<m)∨(x < -1000000∨1000000<x)):Ret Tryz.prog .shared 20 [.agg (eB b),I m,I x] (.tup [.agg (eB gx),I 2]):=by
 have h1:=aV b hb
 rw[h0]at h1
 have h2:=fg x
 suffices hz:Ret Tryz.prog .shared 20 [.agg (eB b),I m,I x] (.tup [.agg zB,I 2]) from hz.weak (WeakL.refl _) (WeakL.tup (.cons uA.agg (WeakL.refl _)))
 refine Ret.of_pwp layOk mixed Go.Proofs.Tryz.func20 rfl (by decide) rfl rfl ?_
 repeat refine aa rfl ?_
 refine aS rfl rfl rfl h1 rfl rfl rfl ?_
 repeat refine aa rfl ?_
 refine dl rfl rfl rfl ?_ ?_<;>intro h
 ·clear h
  repeat refine aa rfl ?_
  exact aG rfl rfl rfl
 have g1:=of_decide_eq_false h
 clear h
 repeat refine aa rfl ?_
 refine dl rfl rfl rfl ?_ ?_<;>intro h
 ·clear h
  repeat refine aa rfl ?_
  exact aG rfl rfl rfl
 have g2:=of_decide_eq_false h
 clear h
 rw[decide_eq_true (hf.resolve_left (fun h=>h.elim (fun h=>g1 h) (fun h=>g2 h)))]at h2
 repeat refine aa rfl ?_
 refine aS rfl rfl rfl h2 rfl rfl rfl ?_
 repeat refine aa rfl ?_
 exact aG rfl rfl rfl
theorem fH {b:BR} (h0:aX b=0):1≤b.w∧b.w≤1000000000:=by
 have:=js h0
 exact⟨by omega,by omega⟩
set_option maxRecDepth 20000 in
theorem wO (b:BR) (hb:b.Lim) (h12:b.l.length≤1000) (hM:∀s∈b.l,s.k.M.length≤1000) (h0:aX b=0) (m x:Int) (hm:0≤m∧m≤1000000000) (hx : -1000000≤x∧x≤1000000) (hl:(cd b m x).Lim) :
  Ret Tryz.prog .shared 20 [.agg (eB b),I m,I x] (.tup [.agg (eB (if aX (cd b m x)=0 then cd b m x else gx)),I (aX (cd b m x))]):=by
 have h1:=aV b hb
 rw[h0]at h1
 have hw:=fH h0
 have h2:=fg x
 rw[decide_eq_false (by omega)]at h2
 have h3:=r8 b hb h12 hM 65 [] _root_.id (fun s _=>Au (gv s))
 have zw:Zb b.w:=aN hb.w.1 hb.w.2
 have zm:Zb m:=aN (by omega) (by omega)
 have zx:Zb x:=aN (by omega) (by omega)
 have zs:Zb (b.w+m):=aN (by omega) (by omega)
 have k1:=aL b.w ⟨by omega,by omega⟩
 have k2:=ec (ofQ (b.w:Rat)) b.a (hy:=hb.a.v) (by decide) (by decide)
 have v2:Vq (ofQ ((b.w:Rat)*b.a.val)) ((b.w:Rat)*b.a.val) (4+13):=Vq.ofQ (h:=@HQ.mul _ _ 4 13 HQ.int hb.a.v.hq)
 have k3:=aL m ⟨by omega,by omega⟩
 have k4:=aL x ⟨by omega,by omega⟩
 have k5:=ec (ofQ (m:Rat)) (ofQ (x:Rat)) (by decide) (by decide)
 have v5:Vq (ofQ ((m:Rat)*(x:Rat))) ((m:Rat)*(x:Rat)) (4+4):=Vq.ofQ (h:=@HQ.mul _ _ 4 4 HQ.int HQ.int)
 have k6:=dO (ofQ ((b.w:Rat)*b.a.val)) (ofQ ((m:Rat)*(x:Rat))) (hx:=v2) (hy:=v5) (by decide) (by decide)
 have v6:Vq (ofQ ((b.w:Rat)*b.a.val+(m:Rat)*(x:Rat))) ((b.w:Rat)*b.a.val+(m:Rat)*(x:Rat)) (4+13+(4+4)+1):=Vq.ofQ (h:=@HQ.add _ _ (4+13) (4+4) (cK v2) (cK v5))
 have k7:=aL (b.w+m) ⟨by omega,by omega⟩
 have k8:=mB (ofQ ((b.w:Rat)*b.a.val+(m:Rat)*(x:Rat))) (ofQ ((b.w+m:Int):Rat)) (hx:=v6) (by decide) (by decide) (by
  have:(b.w+m:Int)≠0:=by omega
  exact_mod_cast this)
 rw[show((b.w:Rat)*b.a.val+(m:Rat)*(x:Rat))/((b.w+m:Int):Rat)=jq b m x from rfl]at k8
 have hwm:IntKind.i64.wrap (b.w+m)=b.w+m:=wrap_i64 (by omega) (by omega)
 have k9:=p5 (cd b m x) hl
 have hcp:DX _root_.id b=⟨b.w,kq b.a,b.l.map gv⟩:=rfl
 have had:cd b m x=⟨b.w+m,ofQ (jq b m x),b.l.map gv⟩:=rfl
 rw[hcp]at h3
 generalize hE:aX (cd b m x)=e at *
 generalize hX:(if e=0 then cd b m x else gx)=X at *
 rw[had]at k9
 clear had hE hX hl hcp h0 hM h12 zw zm zx zs v2 v5 v6
 generalize ofQ (jq b m x)=A9 at *
 generalize ofQ ((b.w:Rat)*b.a.val+(m:Rat)*(x:Rat))=A6 at *
 generalize ofQ ((b.w:Rat)*b.a.val)=A2 at *
 generalize ofQ ((m:Rat)*(x:Rat))=A5 at *
 generalize ofQ ((b.w+m:Int):Rat)=A7 at *
 generalize ofQ (b.w:Rat)=A1 at *
 generalize ofQ (m:Rat)=A3 at *
 generalize ofQ (x:Rat)=A4 at *
 generalize b.l.map gv=L at *
 generalize kq b.a=A0 at *
 obtain⟨w,ba,l⟩:=b
 simp only at *
 refine Ret.of_pwp layOk mixed Go.Proofs.Tryz.func20 rfl (by decide) rfl rfl ?_
 repeat refine aa rfl ?_
 refine aS rfl rfl rfl h1 rfl rfl rfl ?_
 repeat refine aa rfl ?_
 refine dl rfl rfl rfl ?_ ?_<;>intro h
 ·have:=of_decide_eq_true h
  omega
 clear h
 repeat refine aa rfl ?_
 refine dl rfl rfl rfl ?_ ?_<;>intro h
 ·have:=of_decide_eq_true h
  omega
 clear h
 repeat refine aa rfl ?_
 refine aS rfl rfl rfl h2 rfl rfl rfl ?_
 repeat refine aa rfl ?_
 refine am rfl rfl rfl h3 rfl rfl ?_
 repeat refine aa rfl ?_
 refine aM 12 1 [30,31,32,33,34,35,36,37,38,39,40,41,10] [] (by decide +kernel) rfl ?_
 repeat refine aa rfl ?_
 refine am rfl rfl rfl k1 rfl rfl ?_
 repeat refine aa rfl ?_
 refine am rfl rfl rfl k2 rfl rfl ?_
 repeat refine aa rfl ?_
 refine am rfl rfl rfl k3 rfl rfl ?_
 repeat refine aa rfl ?_
 refine am rfl rfl rfl k4 rfl rfl ?_
 repeat refine aa rfl ?_
 refine am rfl rfl rfl k5 rfl rfl ?_
 repeat refine aa rfl ?_
 refine am rfl rfl rfl k6 rfl rfl ?_
 repeat refine aa rfl ?_
 rw[hwm]
 repeat refine aa rfl ?_
 refine mF [] [9] 6 [6] (by decide +kernel) (by decide +kernel) ?_
 repeat refine aa rfl ?_
 refine am rfl rfl rfl k7 rfl rfl ?_
 repeat refine aa rfl ?_
 refine am rfl rfl rfl k8 rfl rfl ?_
 repeat refine aa rfl ?_
 refine am rfl rfl rfl k9 rfl rfl ?_
 repeat refine aa rfl ?_
 exact aG rfl rfl rfl
open Go.Proofs Go.RowKit Go.Sort
theorem Chg.trans {w w1 w2:World} {b:Nat} {T:TypeId} {c1 c2:Array Value} (h1:Chg w w1 b T c1) (h2:Chg w1 w2 b T c2):Chg w w2 b T c2 :=
 ⟨h2.os.trans h1.os,h2.tape.trans h1.tape,h2.output.trans h1.output,Nat.le_trans h1.size h2.size,fun b' hne hb=>(h2.other b' hne (Nat.lt_of_lt_of_le hb h1.size)).trans (h1.other b' hne hb),h2.at_⟩
theorem pl_ret (x y:RR) {p q:Rat} {n m:Nat} [hx:Vq x p n] [hy:Vq y q m] (hn:n≤20000000) (hm:m≤20000000):Ret Tryz.prog .shared 77 [.agg (eR x),.agg (eR y)] (.agg (eR (ofQ (p+q)))):=by
 have h:=vN x y hn hm
 generalize ofQ (p+q)=X at *
 refine Ret.of_pwp layOk mixed Go.Proofs.Tryz.func77 rfl (by decide) rfl rfl ?_
 repeat refine aa rfl ?_
 refine am rfl rfl rfl h rfl rfl ?_
 repeat refine aa rfl ?_
 exact aG rfl rfl rfl
theorem ti_ret (x y:RR) {p q:Rat} {n m:Nat} [hx:Vq x p n] [hy:Vq y q m] (hn:n≤20000000) (hm:m≤20000000):Ret Tryz.prog .shared 78 [.agg (eR x),.agg (eR y)] (.agg (eR (ofQ (p*q)))):=by
 have h:=CW x y hn hm
 generalize ofQ (p*q)=X at *
 refine Ret.of_pwp layOk mixed Go.Proofs.Tryz.func78 rfl (by decide) rfl rfl ?_
 repeat refine aa rfl ?_
 refine am rfl rfl rfl h rfl rfl ?_
 repeat refine aa rfl ?_
 exact aG rfl rfl rfl
theorem rimm_ret (s:SR) (hs:s.Lim) (a:AR) {z t:Rat} {n m:Nat} [ha:Va a z t n m] (hn:n≤1000000) (hm:m≤1000000):Ret Tryz.prog .shared 26 [.agg (eS s),.agg (eA a)] (.agg (eR (ofQ (yQ s z t)))):=by
 have hx:Zb s.x:=aN hs.x.1 hs.x.2
 have hw:=ke s.x hs.x
 have e1:=pl_ret s.c a.z (hx:=hs.c.v) (hy:=ha.z) (by decide) (by omega)
 have v1:Vq (ofQ (s.c.val+z)) (s.c.val+z) (13+(n+1)+1):=Vq.ofQ (h:=@HQ.add _ _ 13 (n+1) hs.c.v.hq ha.z.hq)
 have e2:=ti_ret a.t (ofQ (s.x:Rat)) (hx:=ha.t) (by omega) (by decide)
 have v2:Vq (ofQ (t*(s.x:Rat))) (t*(s.x:Rat)) (m+1+4):=Vq.ofQ (h:=@HQ.mul _ _ (m+1) 4 ha.t.hq HQ.int)
 have e3:=pl_ret (ofQ (s.c.val+z)) (ofQ (t*(s.x:Rat))) (hx:=v1) (hy:=v2) (by omega) (by omega)
 rw[show s.c.val+z+t*(s.x:Rat)=yQ s z t by rw[yQ];grind]at e3
 generalize ofQ (yQ s z t)=X at *
 generalize ofQ (s.c.val+z)=X1 at *
 generalize ofQ (t*(s.x:Rat))=X2 at *
 generalize ofQ (s.x:Rat)=X3 at *
 obtain⟨x,c,k⟩:=s
 obtain⟨az,at'⟩:=a
 simp only at *
 refine Ret.of_pwp layOk mixed Go.Proofs.Tryz.func26 rfl (by decide) rfl rfl ?_
 repeat refine aa rfl ?_
 refine ak 12 [5,6,7,8,9,10,11,12,13,14,15,16] (by decide +kernel) ?_
 repeat refine aa rfl ?_
 refine am rfl rfl rfl e1 rfl rfl ?_
 repeat refine aa rfl ?_
 refine am rfl rfl rfl hw rfl rfl ?_
 repeat refine aa rfl ?_
 refine am rfl rfl rfl e2 rfl rfl ?_
 repeat refine aa rfl ?_
 refine am rfl rfl rfl e3 rfl rfl ?_
 repeat refine aa rfl ?_
 exact aG rfl rfl rfl
theorem Bx {l:List SR} {z t:Rat} {i:Nat} (hi:i<l.length):(FL l z t)[i]? = some (ofQ (fI l z t i)):=by
 rw[FL,List.getElem?_map,bq (d:=dS) hi];rfl
def eqV:List RR→List RR→Bool
 |[],[]=>true
 |x::l,y::m=>decide (x.val=y.val)&&eqV l m
 |_,_=>false
theorem eqV_len:∀ {l m:List RR},eqV l m=true→l.length=m.length
 |[],[],_=>rfl
 |x::l,y::m,h=>by
  rw[eqV,Bool.and_eq_true]at h
  simp[eqV_len h.2]
 |[],_::_,h=>by cases h
 |_::_,[],h=>by cases h
theorem eqV_drop {l m:List RR} {i:Nat} {x y:RR} (hx:l[i]? = some x) (hy:m[i]? = some y):eqV (l.drop i) (m.drop i)=(decide (x.val=y.val)&&eqV (l.drop (i+1)) (m.drop (i+1))):=by
 obtain⟨h1,rfl⟩:=List.getElem?_eq_some_iff.1 hx
 obtain⟨h2,rfl⟩:=List.getElem?_eq_some_iff.1 hy
 rw[List.drop_eq_getElem_cons h1,List.drop_eq_getElem_cons h2,eqV]
def solE (b:BR) (z t:Rat) (F:List RR):Int:=if eqV (FL b.l z t) F=true∧(bd b).Bal z t then 0 else 24
def DS (F:List RR) (n:Nat):Prop:=∀x∈F,x.le n
theorem leL_v {F:List RR} {n:Nat} (h:DS F n) {x:RR} (hx:x∈F):Vq x x.val n:=Vq.raw (h x hx).1 (h x hx).2
theorem FL_le {l:List SR} (hl:gp l) (hf:oH l) {z t:Rat} {n m:Nat} (hz:HQ z n) (ht:HQ t m):DS (FL l z t) (8*(n+m+60)+4):=by
 intro x hx
 obtain⟨s,hs,rfl⟩:=List.mem_map.1 hx
 exact dE (xC (hl.1 s hs) (hf.2 s hs) hz ht).ok
theorem cmp0_ret (x y:RR) {n m:Nat} (hx:Vq x x.val n) (hy:Vq y y.val m) (hn:n≤8000000) (hm:m≤8000000):Ret Tryz.prog .shared 85 [.agg (eR x),.agg (eR y)] (.bool (decide (x.val=y.val))):=by
 have hc:=ni x y hn hm
 have hs:=kF (x.val-y.val)
 have e:decide (x.val=y.val)=decide (sgn (x.val-y.val)=0):=by rw[decide_eq_decide,hs];constructor<;>intro h<;>grind
 rw[e]
 generalize sgn (x.val-y.val)=sg at *
 refine Ret.of_pwp layOk mixed Go.Proofs.Tryz.func85 rfl (by decide) rfl rfl ?_
 repeat refine aa rfl ?_
 refine aS rfl rfl rfl hc rfl rfl rfl ?_
 repeat refine aa rfl ?_
 exact aR rfl rfl rfl
set_option maxRecDepth 20000 in
theorem eqF_ret (G F:List RR) {n k:Nat} (hG:DS G n) (hF:DS F k) (hn:n≤8000000) (hk:k≤8000000) (h1:G.length≤9223372036854775807):Ret Tryz.prog .shared 84 [.sl (G.map eR),.sl (F.map eR),.clo 85 []] (.bool (eqV G F)):=by
 have hmF:(F.map eR).length=F.length:=by simp
 have hmG:(G.map eR).length=G.length:=by simp
 by_cases hlen:G.length=F.length
 ·generalize hQ:eqV G F=Q at *
  refine Ret.of_pwp layOk mixed Go.Proofs.Tryz.func84 rfl (by decide) rfl rfl ?_
  repeat refine aa rfl ?_
  refine ab rfl ?_ ?_<;>intro h
  ·exfalso
   simp at h
   omega
  clear h
  repeat refine aa rfl ?_
  refine aq (fun i:Nat=>i≤G.length∧eqV (G.drop i) (F.drop i)=Q) (fun i=>[(1,.sl (F.map eR)),(2,.clo 85 []),(15,.sl (G.map eR)),(16,I G.length),(17,I (i:Nat))]) (fun i=>[]) (fun i=>G.length-i) 0 ⟨Nat.zero_le _,hQ⟩ ⟨rfl,rfl,rfl,by rw[←hmG];rfl,rfl,trivial⟩ ?_
  intro i s ⟨hi,hD⟩
  repeat refine aa rfl ?_
  refine ab rfl ?_ ?_<;>intro h
  ·have hlt:i<G.length:=by have:=of_decide_eq_true h;omega
   clear h
   obtain⟨x,hx⟩:=aI hlt
   obtain⟨y,hy⟩:=aI (show i<F.length by omega)
   have hc:=cmp0_ret x y (leL_v hG (List.mem_of_getElem? hx)) (leL_v hF (List.mem_of_getElem? hy)) hn hk
   have hw:=iA i
   rw[eqV_drop hx hy]at hD
   by_cases he:x.val=y.val
   ·rw[decide_eq_true he]at hc hD
    rw[Bool.true_and]at hD
    repeat refine aa rfl ?_
    refine bT rfl rfl rfl rfl rfl rfl rfl hx rfl ?_
    repeat refine aa rfl ?_
    refine bT rfl rfl rfl rfl rfl rfl rfl hy rfl ?_
    repeat refine aa rfl ?_
    refine aS rfl rfl rfl hc rfl rfl rfl ?_
    repeat refine aa rfl ?_
    exact⟨i+1,⟨by omega,hD⟩,by omega,rfl,rfl,rfl,rfl,congrArg I hw,trivial⟩
   ·rw[decide_eq_false he]at hc hD
    rw[Bool.false_and]at hD
    subst hD
    repeat refine aa rfl ?_
    refine bT rfl rfl rfl rfl rfl rfl rfl hx rfl ?_
    repeat refine aa rfl ?_
    refine bT rfl rfl rfl rfl rfl rfl rfl hy rfl ?_
    repeat refine aa rfl ?_
    refine aS rfl rfl rfl hc rfl rfl rfl ?_
    repeat refine aa rfl ?_
    exact aR rfl rfl rfl
  ·have hie:i=G.length:=by have:=of_decide_eq_false h;omega
   clear h
   rw[hie,List.drop_length,hlen,List.drop_length]at hD
   have hD:true=Q:=hD
   subst hD
   repeat refine aa rfl ?_
   exact aR rfl rfl rfl
 ·have hQ:eqV G F=false:=by
   cases hq:eqV G F with
   |false=>rfl
   |true=>exact absurd (eqV_len hq) hlen
  rw[hQ]
  refine Ret.of_pwp layOk mixed Go.Proofs.Tryz.func84 rfl (by decide) rfl rfl ?_
  repeat refine aa rfl ?_
  refine ab rfl ?_ ?_<;>intro h
  ·clear h
   repeat refine aa rfl ?_
   exact aR rfl rfl rfl
  ·exfalso
   simp at h
   omega
set_option maxRecDepth 20000 in
theorem psol_ret (b:BR) (hb:b.Ok) (a:AR) (F:List RR) {z t:Rat} {n m k:Nat} [ha:Va a z t n m] (hn:n+m≤60000) (hF:DS F k) (hk:k≤1000000):Ret Tryz.prog .shared 30 [.agg (eB b),.agg (jA a F)] (I (solE b z t F)):=by
 have h12:=hb.few.1
 have h0:=aV b hb.lim
 rw[hb.chk]at h0
 have h1:=eF b.l hb.lim.l hb.chkL a (z:=z) (t:=t) (by omega)
 have h2:=oQ b hb a (z:=z) (t:=t) hn
 have hle:=FL_le hb.lim.l hb.few ha.z.hq ha.t.hq
 have hll:(FL b.l z t).length≤12:=by rw[FL,List.length_map];omega
 have h3:=eqF_ret (FL b.l z t) F hle hF (by omega) (by omega) (by omega)
 have hE:solE b z t F=if eqV (FL b.l z t) F=true∧(bd b).Bal z t then 0 else 24:=rfl
 rw[hE]
 clear hE hle hll
 generalize eqV (FL b.l z t) F=Q at *
 generalize FL b.l z t=G at *
 cases Q with
 |false =>
  rw[if_neg (by simp)]
  obtain⟨w,ba,l⟩:=b
  obtain⟨az,at'⟩:=a
  simp only at *
  refine Ret.of_pwp layOk mixed Go.Proofs.Tryz.func30 rfl (by decide) rfl rfl ?_
  repeat refine aa rfl ?_
  refine aS rfl rfl rfl h0 rfl rfl rfl ?_
  repeat refine aa rfl ?_
  refine am rfl rfl rfl h1 rfl rfl ?_
  repeat refine aa rfl ?_
  refine aS rfl rfl rfl h3 rfl rfl rfl ?_
  repeat refine aa rfl ?_
  exact bx rfl rfl rfl
 |true =>
  by_cases hbal:(bd b).Bal z t
  ·rw[if_pos ⟨rfl,hbal⟩]
   rw[decide_eq_true hbal]at h2
   obtain⟨w,ba,l⟩:=b
   obtain⟨az,at'⟩:=a
   simp only at *
   refine Ret.of_pwp layOk mixed Go.Proofs.Tryz.func30 rfl (by decide) rfl rfl ?_
   repeat refine aa rfl ?_
   refine aS rfl rfl rfl h0 rfl rfl rfl ?_
   repeat refine aa rfl ?_
   refine am rfl rfl rfl h1 rfl rfl ?_
   repeat refine aa rfl ?_
   refine aS rfl rfl rfl h3 rfl rfl rfl ?_
   repeat refine aa rfl ?_
   refine aS rfl rfl rfl h2 rfl rfl rfl ?_
   repeat refine aa rfl ?_
   exact bx rfl rfl rfl
  ·rw[if_neg (fun h=>hbal h.2)]
   rw[decide_eq_false hbal]at h2
   obtain⟨w,ba,l⟩:=b
   obtain⟨az,at'⟩:=a
   simp only at *
   refine Ret.of_pwp layOk mixed Go.Proofs.Tryz.func30 rfl (by decide) rfl rfl ?_
   repeat refine aa rfl ?_
   refine aS rfl rfl rfl h0 rfl rfl rfl ?_
   repeat refine aa rfl ?_
   refine am rfl rfl rfl h1 rfl rfl ?_
   repeat refine aa rfl ?_
   refine aS rfl rfl rfl h3 rfl rfl rfl ?_
   repeat refine aa rfl ?_
   refine aS rfl rfl rfl h2 rfl rfl rfl ?_
   repeat refine aa rfl ?_
   exact bx rfl rfl rfl
structure SameS (s t:SR):Prop where
 x:s.x=t.x
 c:s.c.val=t.c.val
 S:s.k.S=t.k.S
 n:s.k.M.length=t.k.M.length
 m:∀k,k<s.k.M.length→(s.k.M.getD k RR.zero).val=(t.k.M.getD k RR.zero).val
structure SameB (p q:BR):Prop where
 w:p.w=q.w
 a:p.a.val=q.a.val
 n:p.l.length=q.l.length
 s:∀i,i<p.l.length→SameS (p.l.getD i dS) (q.l.getD i dS)
def DF (b:BR) (m x:Int):BR:=⟨b.w+m,ofQ (jq b m x),b.l⟩
theorem vA {b:BR} (hb:ArgB b) (h:d6 b=true):b.Lim∧(aX b=0→b.Ok∧(bd b).Sz):=by
 rw[d6,Bool.and_eq_true,sV,pF]at h
 exact⟨⟨hb.w,h.2.mono (by decide),jm hb.data h.1 (by decide) (by decide)⟩,fun hc=>⟨yZ hb.w hb.data h.2 h.1 (by decide) (by decide) hc,y2 hb.w hb.data h.2 h.1 (by decide) (by decide) hc⟩⟩
theorem qj {α β:Type} (f:α→List β) (n:Nat):∀(l:List α),(∀x∈l,(f x).length≤n)→(l.flatMap f).length≤l.length*n
 |[],_=>by simp
 |x::l,h=>by
  have h1:=h x (by simp)
  have h2:=qj f n l fun y hy=>h y (by simp[hy])
  rw[List.flatMap_cons,List.length_append,List.length_cons,Nat.add_mul]
  omega
theorem nC {l:List SR} (h:l.length≤10) (h4:∀s∈l,s.k.S.length≤4) (t:Rat):(kf l t).length≤40:=by
 have h1:=qj (li t) 4 l fun s hs=>by rw[oT];exact h4 s hs
 rw[kf]
 omega
theorem ss {b:BR} (h:d6 b=true) (t:Rat):(kf b.l t).length≤40:=by
 rw[d6,Bool.and_eq_true,pF]at h
 exact nC h.1.1 (fun s hs=>(h.1.2 s hs).1) t
theorem kr {b:BR} (hb:ArgB b) (h:d6 b=true):b.Good:=by
 obtain⟨h1,h2⟩:=vA hb h
 exact⟨h1,fun h0=>⟨(h2 h0).1,(h2 h0).2,ss h⟩⟩
def C_ (b:BR):Prop:=∀z t,¬(bd b).Bal z t
theorem ref_noBal {b:BR} (hb:b.Ok) {r:AR} (h:ct b r=true):C_ b:=fun z t hz=>by
 have:=tq hb hz r.z.val r.t.val
 rw[ct]at h
 rw[h]at this
 cases this
inductive Said (b:BR):Prop
 |none (r:AR) (e:Int) (he:e=12∨e=13) (hr:ct b r=true) (hv:Va r r.z.val r.t.val 4 4) (hn:C_ b) (h1:fa b=⟨zA,[],r,e⟩) (h2:bV b=([],e))
 |loose (z t:Rat) (hn:dN b) (hb:(bd b).Bal z t) (hz:HQ z 24000) (ht:HQ t 20000) (h1:fa b=⟨zA,[],zA,14⟩) (h2:bV b=(FL b.l z t,0))
 |one (z t:Rat) (hn:dN b) (hb:(bd b).Bal z t) (hz:HQ z 24000) (ht:HQ t 20000) (hu:∀z' t',(bd b).Bal z' t'→z'=z∧t'=t) (h1:fa b=⟨⟨ofQ z,ofQ t⟩,FL b.l z t,zA,0⟩) (h2:bV b=(FL b.l z t,0))
theorem said {b:BR} (hg:b.Good) (h0:aX b=0):Said b:=by
 obtain⟨hb,hs,-⟩:=hg.2 h0
 have e1:=@rfl _ (fa b)
 have e2:=@rfl _ (bV b)
 conv at e1=>rhs;rw[fa,if_pos h0]
 conv at e2=>rhs;rw[bV,if_pos h0]
 by_cases h1:ct b bM=true
 ·rw[if_pos h1]at e1 e2
  exact .none bM 12 (.inl rfl) h1 o0 (ref_noBal hb h1) e1 e2
 ·rw[if_neg h1]at e1 e2
  cases h2:(bj b.l).find? (ct b) with
  |some r =>
   rw[h2]at e1 e2
   exact .none r 13 (.inr rfl) (List.find?_some h2) (pJ hb.chkL (List.mem_of_find?_eq_some h2)) (ref_noBal hb (List.find?_some h2)) e1 e2
  |none =>
   rw[h2]at e1 e2
   have hn:=gZ h1 h2
   obtain⟨_,hbal,hz,ht⟩:=mb hb hs hn
   simp only at e1 e2
   cases hl:eJ b (iy b).1 (iy b).2 with
   |true =>
    rw[if_pos hl]at e1
    exact .loose _ _ hn hbal hz ht e1 e2
   |false =>
    rw[if_neg (by rw[hl];decide)]at e1
    exact .one _ _ hn hbal hz ht ((Cx hb hbal).1 hl) e1 e2
theorem eqV_self:∀l:List RR,eqV l l=true
 |[]=>rfl
 |x::l=>by rw[eqV,eqV_self l,decide_eq_true rfl];rfl
theorem solE_FL (b:BR) (z t:Rat):solE b z t (FL b.l z t)=if (bd b).Bal z t then 0 else 24:=by
 rw[solE,eqV_self]
 by_cases h:(bd b).Bal z t
 ·rw[if_pos ⟨rfl,h⟩,if_pos h]
 ·rw[if_neg (fun g=>h g.2),if_neg h]
structure Raised (u:Rat) (b c:BR):Prop where
 n:c.l.length=b.l.length
 x:∀i,i<b.l.length→(c.l.getD i dS).x=(b.l.getD i dS).x
 S:∀i,i<b.l.length→(c.l.getD i dS).k.S=(b.l.getD i dS).k.S
 m:∀i,i<b.l.length→(c.l.getD i dS).k.m=(b.l.getD i dS).k.m
 cc:∀i,i<b.l.length→(c.l.getD i dS).c.val=(b.l.getD i dS).c.val+u
 w:c.w=b.w
 a:c.a.val=b.a.val
variable {u:Rat} {b c:BR}
theorem Raised.s (h:Raised u b c) {i:Nat} (hi:i<b.l.length):(c.l.getD i dS).k.s=(b.l.getD i dS).k.s:=by
 funext k
 rw[CR.s,CR.s,h.S i hi]
theorem Raised.f (h:Raised u b c) {z t:Rat} {i:Nat} (hi:i<b.l.length):(bd c).f (z-u) t i=(bd b).f z t i:=by
 have e:(bd c).y (z-u) t i=(bd b).y z t i:=by
  show(c.l.getD i dS).c.val+(z-u+t*((c.l.getD i dS).x:Rat))=(b.l.getD i dS).c.val+(z+t*((b.l.getD i dS).x:Rat))
  rw[h.cc i hi,h.x i hi]
  grind
 show dD (c.l.getD i dS).k.S.length (c.l.getD i dS).k.s (c.l.getD i dS).k.m ((bd c).y (z-u) t i)=dD (b.l.getD i dS).k.S.length (b.l.getD i dS).k.s (b.l.getD i dS).k.m ((bd b).y z t i)
 rw[e,h.S i hi,h.s hi,h.m i hi]
theorem Raised.FL (h:Raised u b c) {z t:Rat}:FL c.l (z-u) t=FL b.l z t:=by
 refine List.ext_getElem? fun i=>?_
 by_cases hi:i<b.l.length
 ·rw[Bx hi,Bx (show i<c.l.length by rw[h.n];exact hi)]
  exact congrArg (fun q=>some (ofQ q)) (h.f hi)
 ·rw[List.getElem?_eq_none (by rw[Go.Pv.FL,List.length_map,h.n];omega),List.getElem?_eq_none (by rw[Go.Pv.FL,List.length_map];omega)]
inductive SaidUp (u:Rat) (b c:BR):Prop
 |none (r:AR) (e:Int) (he:e=12∨e=13) (hv:Va r r.z.val r.t.val 4 4) (h1:fa b=⟨zA,[],r,e⟩) (h2:bV b=([],e)) (h3:fa c=⟨zA,[],r,e⟩) (h4:bV c=([],e))
 |loose (F:List RR) (hF:DS F 1000000) (hl:F.length≤1000) (h1:fa b=⟨zA,[],zA,14⟩) (h2:bV b=(F,0)) (h3:fa c=⟨zA,[],zA,14⟩) (h4:bV c=(F,0))
 |one (z t:Rat) (F:List RR) (hF:DS F 1000000) (hl:F.length≤1000) (hz:HQ z 24000) (ht:HQ t 20000) (h1:fa b=⟨⟨ofQ z,ofQ t⟩,F,zA,0⟩) (h2:bV b=(F,0)) (h3:fa c=⟨⟨ofQ (z-u),ofQ t⟩,F,zA,0⟩) (h4:bV c=(F,0))
end Go.Pv
set_option maxHeartbeats 2000000
namespace Go.Pv
attribute [local irreducible] PWP POps PQuiet PSem ar ao ai ah
open Go.Proofs
theorem qn {f:SR→SR} {l:List SR} {i:Nat} (hi:i<l.length):(l.map f).getD i dS=f (l.getD i dS):=by
 rw[List.getD_eq_getElem?_getD,List.getElem?_map,bq (d:=dS) hi];rfl
theorem pc (x:RR):(kq x).val=x.val:=ofQ_val _
theorem Ae (S:List Int) (M:List RR):(CR.mk S (M.map kq)).m=(CR.mk S M).m:=by
 funext k
 show((M.map kq).getD k RR.zero).val=(M.getD k RR.zero).val
 rw[List.getD_eq_getElem?_getD,List.getD_eq_getElem?_getD,List.getElem?_map]
 cases M[k]? with
 |none=>rfl
 |some x=>exact pc x
theorem BJ {q:Rat} {n m:Nat} (h:hq q n) (hm:n≤m):(ofQ q).sz m:=by
 have:=dE h
 exact⟨by omega,by omega⟩
structure ShB (b:BR):Prop where
 w:i64 b.w
 data:nt b.l
 a:b.a.sz 3
 l:iI b.l 10 4
theorem pd {b:BR} (hb:ArgB b) (h:d6 b=true):ShB b:=by
 rw[d6,Bool.and_eq_true,sV,pF]at h
 exact⟨hb.w,hb.data,h.2,h.1⟩
theorem BQ {x:RR} (h:x.sz 3):(kq x).sz 12:=BJ (uo h) (by decide)
theorem Cj {b:BR} (h:ShB b) {x:SR} (hx:x∈b.l):(gv x).Lim:=by
 obtain⟨h1,h2,h3,h4⟩:=h.l.2 x hx
 obtain⟨d1,d2⟩:=h.data x hx
 refine⟨d1,BQ h3,d2,fun m hm=>?_,?_,?_⟩
 ·obtain⟨y,hy,rfl⟩:=List.mem_map.1 (show m∈x.k.M.map kq from hm)
  exact BQ (h4 y hy)
 ·show x.k.S.length≤_
  omega
 ·show(x.k.M.map kq).length≤_
  rw[List.length_map];omega
theorem mR {b:BR} (h:ShB b):b.Lim:=⟨h.w,h.a.mono (by decide),jm h.data h.l (by decide) (by decide)⟩
theorem Ax {b:BR} (h:ShB b) {f:SR→SR} (hf:∀x∈b.l,(f x).Lim):gp (b.l.map f):=by
 refine⟨fun s hs=>?_,by rw[List.length_map];have:=h.l.1;omega⟩
 obtain⟨x,hx,rfl⟩:=List.mem_map.1 hs
 exact hf x hx
theorem oJ {b:BR} (h:ShB b) (hw:1≤b.w∧b.w≤1000000000) {m x:Int} (hm:0≤m∧m≤1000000000) (hx : -1000000≤x∧x≤1000000):(cd b m x).Lim∧(DF b m x).Lim:=by
 have ha:(ofQ (jq b m x)).sz 12:=BJ (tn hw h.a hm hx) (by decide)
 have hw:i64 (b.w+m):=⟨by omega,by omega⟩
 exact⟨⟨hw,ha,Ax h fun x hx=>Cj h hx⟩,⟨hw,ha,(mR h).l⟩⟩
structure Both (f g:FuncId) (args:List PV):Prop where
 run:∃(p q:BR) (e:Int),Ret Tryz.prog .shared f args (.tup [.agg (eB p),I e])∧Ret Tryz.prog .shared g args (.tup [.agg (eB q),I e])∧Ret Tryz.prog .shared 37 [.agg (eB p),.agg (eB q)] (.bool true)
theorem yX {b:BR} (h:ShB b):b.l.length≤1000∧∀s∈b.l,s.k.M.length≤1000∧s.k.S.length≤1000 :=
 ⟨by have:=h.l.1;omega,fun s hs=>by have:=h.l.2 s hs;exact⟨by have:=this.2.1;omega,by have:=this.1;omega⟩⟩
theorem jw {l:List SR} {i:Nat} (hi:i<l.length):(l.map gv).getD i dS=gv (l.getD i dS):=qn hi
theorem BB {b:BR} {m x:Int} (h:b.w+m≠0) (A B:Rat):((b.w+m:Int):Rat)*(A+B*jq b m x)=(b.w:Rat)*(A+B*b.a.val)+(m:Rat)*(A+B*(x:Rat)):=by
 have hs:((b.w+m:Int):Rat)≠0:=by exact_mod_cast h
 rw[jq]
 push_cast at *
 generalize (b.w:Rat)=W at *
 generalize (m:Rat)=M at *
 generalize (x:Rat)=X at *
 grind
theorem pV {b:BR} (h:ShB b) (h0:aX b=0) (hs:(bd b).Sz) {m x:Int} (hm:0≤m∧m≤1000000000) (hx : -1000000≤x∧x≤1000000):(cd b m x).Good:=by
 have hw:=fH h0
 have hl:=(oJ h hw hm hx).1
 have hn:(cd b m x).l.length=b.l.length:=List.length_map _
 have hg:∀i,i<b.l.length→(cd b m x).l.getD i dS=gv (b.l.getD i dS):=fun i hi=>qn hi
 have hlen:(cd b m x).l.length≤10:=by rw[hn];exact h.l.1
 have h4:∀s∈(cd b m x).l,s.k.S.length≤4:=fun s hs=>by
  obtain⟨y,hy,rfl⟩:=List.mem_map.1 hs
  exact(h.l.2 y hy).1
 refine⟨hl,fun hc=>⟨⟨hl,hc,by omega,fun s hs=>Nat.le_trans (h4 s hs) (by decide)⟩,?_,nC hlen h4⟩⟩
 refine⟨hlen,fun i hi=>?_,fun i hi=>?_,fun i hi=>?_,fun i hi k hk=>?_,fun i hi k hk=>?_,?_,?_⟩
 ·exact Nat.le_trans (h4 _ (aH hi)) (by decide)
 ·have hi':i<b.l.length:=by rw[←hn];exact hi
  show hq (((cd b m x).l.getD i dS).x:Rat) 4
  rw[hg i hi']
  exact hs.X i hi'
 ·have hi':i<b.l.length:=by rw[←hn];exact hi
  show hq ((cd b m x).l.getD i dS).c.val 9
  rw[hg i hi']
  show hq (kq (b.l.getD i dS).c).val 9
  rw[pc]
  exact hs.C i hi'
 ·have hi':i<b.l.length:=by rw[←hn];exact hi
  have hk:k<((cd b m x).l.getD i dS).k.S.length:=hk
  rw[hg i hi']at hk
  show hq (((cd b m x).l.getD i dS).k.s k) 4
  rw[hg i hi']
  exact hs.S i hi' k hk
 ·have hi':i<b.l.length:=by rw[←hn];exact hi
  have hk:k<((cd b m x).l.getD i dS).k.S.length:=hk
  rw[hg i hi']at hk
  show hq (((cd b m x).l.getD i dS).k.m k) 4
  rw[hg i hi']
  show hq ((CR.mk (b.l.getD i dS).k.S ((b.l.getD i dS).k.M.map kq)).m k) 4
  rw[Ae]
  exact hs.M i hi' k hk
 ·exact o7 _ ⟨by show -9223372036854775808≤b.w+m;omega,by show b.w+m≤9223372036854775807;omega⟩
 ·show hq (ofQ (jq b m x)).val 8
  rw[ofQ_val]
  exact tn hw h.a hm hx
theorem qr {n:Nat} {S:Nat→Rat} {p:Nat} {y y':Rat} (hp:InR n S p y) (hs:∀k,k<n→¬(S k≤y∧y'<S k)∧¬(y<S k∧S k<y')):wF n S p y':=by
 refine⟨hp.1,fun k hk=>?_,fun hlt=>?_⟩
 ·have h1:=hp.2.1 k hk
  have h2:=(hs k (by have:=hp.1;omega)).1
  grind
 ·have h1:=hp.2.2 hlt
  have h2:=(hs p hlt).2
  grind
namespace Bd
variable {b:Bd}
theorem straight (h:b.Ok) {z t m x:Rat} {d:Rat × Rat} (hb:b.Bal z t) (hd:newt (b.Kh (b.pR z t)) (b.Kc (b.pR z t)) (b.Kp (b.pR z t)) m (m*x)=some d)
  (hs:∀i,i<b.N→∀k,k<b.n i→¬(b.S i k≤b.y z t i∧b.y (z+d.1) (t+d.2) i<b.S i k)∧¬(b.y z t i<b.S i k∧b.S i k<b.y (z+d.1) (t+d.2) i)) :
  b.F (z+d.1) (t+d.2)=b.w+m∧b.G (z+d.1) (t+d.2)=b.w*b.A+m*x:=by
 have h0:b.Inc (b.pR z t) z t:=fun i _=>mE.c
 have h1:b.Inc (b.pR z t) (z+d.1) (t+d.2):=fun i hi=>qr mE (hs i hi)
 have e1:=F_at h h0
 have e2:=G_at h h0
 rw[F_at h h1,G_at h h1]
 rw[hb.1]at e1
 rw[hb.2]at e2
 generalize b.Kh (b.pR z t)=kh at *
 generalize b.Kc (b.pR z t)=kc at *
 generalize b.Kp (b.pR z t)=kp at *
 rw[newt]at hd
 split at hd
 ·cases hd
 ·rename_i hne
  cases hd
  constructor
  ·rw[e1];grind
  ·rw[e2];grind
end Bd
structure LR where
 nm:List UInt8
 m:Int
 x:Int
 z:Int
 f:Int
def DP (w:LR):List PV:=[.str w.nm,I w.m,I w.x,I w.z,I w.f]
def uN (w:LR):Bool:=decide (w.m<0∨1000000000<w.m∨w.x < -1000000∨1000000<w.x)
def mY (b:BR) (z t:Rat) (w:LR):Option (Rat × Rat):=Bd.newt ((bd b).Kh ((bd b).pR z t)) ((bd b).Kc ((bd b).pR z t)) ((bd b).Kp ((bd b).pR z t)) (w.m:Rat) ((w.m:Rat)*(w.x:Rat))
structure TQ where
 a:AR
 e:Int
def TQ.pv (q:TQ):PV := .tup [.agg (eA q.a),I q.e]
noncomputable def oA (b:BR) (z t:Rat) (F:List RR) (w:LR):TQ :=
 if solE b z t F=0 then(if uN w=true then⟨zA,2⟩ else match mY b z t w with
  |none=>⟨zA,9⟩
  |some d=>⟨⟨ofQ (z+d.1),ofQ (t+d.2)⟩,0⟩) else⟨zA,solE b z t F⟩
theorem yc {h c p u v:Rat} {d:Rat × Rat} (hh:HQ h 300) (hc:HQ c 300) (hp:HQ p 300) (hu:HQ u 10) (hv:HQ v 10) (hd:Bd.newt h c p u v=some d):HQ d.1 2000∧HQ d.2 2000:=by
 rw[Bd.newt]at hd
 split at hd
 ·cases hd
 ·cases hd
  have dt:=@HQ.sub _ _ _ _ (@HQ.mul _ _ 300 300 hh hp) (@HQ.mul _ _ 300 300 hc hc)
  exact⟨(@HQ.div _ _ _ _ (@HQ.sub _ _ _ _ (@HQ.mul _ _ _ _ hp hu) (@HQ.mul _ _ _ _ hc hv)) dt).mono (by decide),(@HQ.div _ _ _ _ (@HQ.sub _ _ _ _ (@HQ.mul _ _ _ _ hh hv) (@HQ.mul _ _ _ _ hc hu)) dt).mono (by decide)⟩
theorem un {b:BR} (hb:b.Ok) {z t:Rat} {w:LR} (hm:i64 w.m) (hx:i64 w.x) {d:Rat × Rat} (hd:mY b z t w=some d):HQ d.1 2000∧HQ d.2 2000:=by
 have zm:Zb w.m:=aN hm.1 hm.2
 have zx:Zb w.x:=aN hx.1 hx.2
 exact yc (pP hb _) (pO hb _) (tm hb _) ((HQ.int (z:=w.m)).mono (by decide)) ((@HQ.mul _ _ 4 4 HQ.int HQ.int).mono (by decide)) hd
theorem zV {w:LR} (h:uN w=false):0≤w.m∧w.m≤1000000000 ∧ -1000000≤w.x∧w.x≤1000000:=by
 have:=of_decide_eq_false h
 omega
set_option maxRecDepth 20000 in
theorem vK (b:BR) (a:AR) (F:List RR) (w:LR) (e:Int) (he:e≠0) (h0:Ret Tryz.prog .shared 30 [.agg (eB b),.agg (jA a F)] (I e)):Ret Tryz.prog .shared 24 [.agg (eB b),.agg (jA a F),.agg (DP w)] (.tup [.agg (eA zA),I e]):=by
 refine Ret.weak (r' := .tup [.agg (zN++zN),I e]) ?_ (WeakL.refl _) (WeakL.tup (.cons fv.agg (WeakL.refl _)))
 obtain⟨az,at'⟩:=a
 obtain⟨nm,m,x,z,f⟩:=w
 refine Ret.of_pwp layOk mixed Go.Proofs.Tryz.func24 rfl (by decide) rfl rfl ?_
 repeat refine aa rfl ?_
 refine aS rfl rfl rfl h0 rfl rfl rfl ?_
 repeat refine aa rfl ?_
 refine ab rfl ?_ ?_<;>intro h
 ·clear h
  repeat refine aa rfl ?_
  exact aG rfl rfl rfl
 ·exfalso
  simp at h
  exact he h
set_option maxRecDepth 20000 in
theorem vJ (b:BR) (a:AR) (F:List RR) (w:LR) (hw:uN w=true) (h0:Ret Tryz.prog .shared 30 [.agg (eB b),.agg (jA a F)] (I 0)):Ret Tryz.prog .shared 24 [.agg (eB b),.agg (jA a F),.agg (DP w)] (.tup [.agg (eA zA),I 2]):=by
 refine Ret.weak (r' := .tup [.agg (zN++zN),I 2]) ?_ (WeakL.refl _) (WeakL.tup (.cons fv.agg (WeakL.refl _)))
 obtain⟨az,at'⟩:=a
 obtain⟨nm,m,x,z,f⟩:=w
 have hfar:=fg x
 have hd:=of_decide_eq_true hw
 simp only at hd
 by_cases h1:m<0
 ·refine Ret.of_pwp layOk mixed Go.Proofs.Tryz.func24 rfl (by decide) rfl rfl ?_
  repeat refine aa rfl ?_
  refine aS rfl rfl rfl h0 rfl rfl rfl ?_
  repeat refine aa rfl ?_
  refine dl rfl rfl rfl ?_ ?_<;>intro h
  ·clear h
   repeat refine aa rfl ?_
   exact aG rfl rfl rfl
  ·exact absurd h1 (of_decide_eq_false h)
 ·by_cases h2:1000000000<m
  ·refine Ret.of_pwp layOk mixed Go.Proofs.Tryz.func24 rfl (by decide) rfl rfl ?_
   repeat refine aa rfl ?_
   refine aS rfl rfl rfl h0 rfl rfl rfl ?_
   repeat refine aa rfl ?_
   refine dl rfl rfl rfl ?_ ?_<;>intro h
   ·exact absurd (of_decide_eq_true h) h1
   clear h
   repeat refine aa rfl ?_
   refine dl rfl rfl rfl ?_ ?_<;>intro h
   ·clear h
    repeat refine aa rfl ?_
    exact aG rfl rfl rfl
   ·exact absurd h2 (of_decide_eq_false h)
  ·rw[decide_eq_true (show x < -1000000∨1000000<x by omega)]at hfar
   refine Ret.of_pwp layOk mixed Go.Proofs.Tryz.func24 rfl (by decide) rfl rfl ?_
   repeat refine aa rfl ?_
   refine aS rfl rfl rfl h0 rfl rfl rfl ?_
   repeat refine aa rfl ?_
   refine dl rfl rfl rfl ?_ ?_<;>intro h
   ·exact absurd (of_decide_eq_true h) h1
   clear h
   repeat refine aa rfl ?_
   refine dl rfl rfl rfl ?_ ?_<;>intro h
   ·exact absurd (of_decide_eq_true h) h2
   clear h
   repeat refine aa rfl ?_
   refine aS rfl rfl rfl hfar rfl rfl rfl ?_
   repeat refine aa rfl ?_
   exact aG rfl rfl rfl
set_option maxRecDepth 20000 in
theorem yr (b:BR) (hb:b.Ok) (a:AR) (F:List RR) (w:LR) (hw:uN w=false) {z t:Rat} {n m:Nat} [ha:Va a z t n m] (hn:n+m≤50000) (h0:Ret Tryz.prog .shared 30 [.agg (eB b),.agg (jA a F)] (I 0)) :
  Ret Tryz.prog .shared 24 [.agg (eB b),.agg (jA a F),.agg (DP w)] (match mY b z t w with
  |none=>(⟨zA,9⟩:TQ)
  |some d=>⟨⟨ofQ (z+d.1),ofQ (t+d.2)⟩,0⟩).pv:=by
 obtain⟨g1,g2,g3,g4⟩:=zV hw
 have hm:i64 w.m:=⟨by omega,by omega⟩
 have hx:i64 w.x:=⟨by omega,by omega⟩
 have zm:Zb w.m:=aN hm.1 hm.2
 have zx:Zb w.x:=aN hx.1 hx.2
 have hfar:=fg w.x
 rw[decide_eq_false (show ¬(w.x < -1000000∨1000000<w.x) by omega)]at hfar
 have hri:=kD a
 have hst:=mZ b hb a (z:=z) (t:=t) (by omega)
 have w1:=aL w.m hm
 have w2:=aL w.x hx
 have e1:=ec (ofQ (w.m:Rat)) (ofQ (w.x:Rat)) (by decide) (by decide)
 have vm:Vq (ofQ (w.m:Rat)) (w.m:Rat) 1000:=lP (Vq.ofQ (h:=HQ.int (z:=w.m))) (by decide)
 have vmx:Vq (ofQ ((w.m:Rat)*(w.x:Rat))) ((w.m:Rat)*(w.x:Rat)) 1000:=lP (Vq.ofQ (h:=@HQ.mul _ _ 4 4 HQ.int HQ.int)) (by decide)
 have hmv:=nV _ _ _ _ _ (a:=300) (b:=1000) (Vq.ofQ (h:=pP hb ((bd b).pR z t))) (Vq.ofQ (h:=pO hb ((bd b).pR z t))) (Vq.ofQ (h:=tm hb ((bd b).pR z t))) vm vmx (by decide) (by decide)
 rw[show Bd.newt ((bd b).Kh ((bd b).pR z t)) ((bd b).Kc ((bd b).pR z t)) ((bd b).Kp ((bd b).pR z t)) (w.m:Rat) ((w.m:Rat)*(w.x:Rat))=mY b z t w from rfl]at hmv
 have haf:∀d,mY b z t w=some d→Ret Tryz.prog .shared 76 [.agg (eA a),.agg (eA ⟨ofQ d.1,ofQ d.2⟩)] (.agg (eA ⟨ofQ (z+d.1),ofQ (t+d.2)⟩)):=fun d hd=>by
  obtain⟨k1,k2⟩:=un hb hm hx hd
  exact nu a ⟨ofQ d.1,ofQ d.2⟩ (hd:=⟨Vq.ofQ (h:=k1),Vq.ofQ (h:=k2)⟩) (by omega) (by omega) (by decide) (by decide)
 rw[DH]at hst
 generalize ofQ ((bd b).Kh ((bd b).pR z t))=R1 at *
 generalize ofQ ((bd b).Kc ((bd b).pR z t))=R2 at *
 generalize ofQ ((bd b).Kp ((bd b).pR z t))=R3 at *
 generalize ofQ ((w.m:Rat)*(w.x:Rat))=MX at *
 generalize ofQ (w.m:Rat)=M0 at *
 generalize ofQ (w.x:Rat)=X0 at *
 generalize mY b z t w=st at *
 clear vm vmx
 cases st with
 |none =>
  simp only[i5]at hmv
  refine Ret.weak (r' := .tup [.agg (zN++zN),I 9]) ?_ (WeakL.refl _) (WeakL.tup (.cons fv.agg (WeakL.refl _)))
  obtain⟨bw,ba,bl⟩:=b
  obtain⟨az,at'⟩:=a
  obtain⟨nm,m,x,z,f⟩:=w
  simp only at *
  refine Ret.of_pwp layOk mixed Go.Proofs.Tryz.func24 rfl (by decide) rfl rfl ?_
  repeat refine aa rfl ?_
  refine aS rfl rfl rfl h0 rfl rfl rfl ?_
  repeat refine aa rfl ?_
  refine dl rfl rfl rfl ?_ ?_<;>intro h
  ·have:=of_decide_eq_true h
   simp only at this
   omega
  clear h
  repeat refine aa rfl ?_
  refine dl rfl rfl rfl ?_ ?_<;>intro h
  ·have:=of_decide_eq_true h
   simp only at this
   omega
  clear h
  repeat refine aa rfl ?_
  refine aS rfl rfl rfl hfar rfl rfl rfl ?_
  repeat refine aa rfl ?_
  refine bC [9] [20,21] (by decide +kernel) ?_
  repeat refine aa rfl ?_
  refine am rfl rfl rfl hri rfl rfl ?_
  repeat refine aa rfl ?_
  refine am rfl rfl rfl hst rfl rfl ?_
  repeat refine aa rfl ?_
  refine am rfl rfl rfl w1 rfl rfl ?_
  repeat refine aa rfl ?_
  refine am rfl rfl rfl w1 rfl rfl ?_
  repeat refine aa rfl ?_
  refine am rfl rfl rfl w2 rfl rfl ?_
  repeat refine aa rfl ?_
  refine am rfl rfl rfl e1 rfl rfl ?_
  repeat refine aa rfl ?_
  refine am rfl rfl rfl hmv rfl rfl ?_
  repeat refine aa rfl ?_
  exact aG rfl rfl rfl
 |some d =>
  have haf:=haf d rfl
  simp only[i5]at hmv
  simp only[TQ.pv]
  generalize ofQ d.1=D1 at *
  generalize ofQ d.2=D2 at *
  generalize ofQ (z+d.1)=E1 at *
  generalize ofQ (t+d.2)=E2 at *
  obtain⟨bw,ba,bl⟩:=b
  obtain⟨az,at'⟩:=a
  obtain⟨nm,m,x,z,f⟩:=w
  simp only at *
  refine Ret.of_pwp layOk mixed Go.Proofs.Tryz.func24 rfl (by decide) rfl rfl ?_
  repeat refine aa rfl ?_
  refine aS rfl rfl rfl h0 rfl rfl rfl ?_
  repeat refine aa rfl ?_
  refine dl rfl rfl rfl ?_ ?_<;>intro h
  ·have:=of_decide_eq_true h
   simp only at this
   omega
  clear h
  repeat refine aa rfl ?_
  refine dl rfl rfl rfl ?_ ?_<;>intro h
  ·have:=of_decide_eq_true h
   simp only at this
   omega
  clear h
  repeat refine aa rfl ?_
  refine aS rfl rfl rfl hfar rfl rfl rfl ?_
  repeat refine aa rfl ?_
  refine bC [9] [20,21] (by decide +kernel) ?_
  repeat refine aa rfl ?_
  refine am rfl rfl rfl hri rfl rfl ?_
  repeat refine aa rfl ?_
  refine am rfl rfl rfl hst rfl rfl ?_
  repeat refine aa rfl ?_
  refine am rfl rfl rfl w1 rfl rfl ?_
  repeat refine aa rfl ?_
  refine am rfl rfl rfl w1 rfl rfl ?_
  repeat refine aa rfl ?_
  refine am rfl rfl rfl w2 rfl rfl ?_
  repeat refine aa rfl ?_
  refine am rfl rfl rfl e1 rfl rfl ?_
  repeat refine aa rfl ?_
  refine am rfl rfl rfl hmv rfl rfl ?_
  repeat refine aa rfl ?_
  refine am rfl rfl rfl haf rfl rfl ?_
  repeat refine aa rfl ?_
  exact aG rfl rfl rfl
theorem vL (b:BR) (hb:b.Ok) (a:AR) (F:List RR) (w:LR) {z t:Rat} {n m k:Nat} [ha:Va a z t n m] (hn:n+m≤50000) (hF:DS F k) (hk:k≤1000000):Ret Tryz.prog .shared 24 [.agg (eB b),.agg (jA a F),.agg (DP w)] (oA b z t F w).pv:=by
 have h0:=psol_ret b hb a F (z:=z) (t:=t) (by omega) hF hk
 rw[oA]
 by_cases h1:solE b z t F=0
 ·rw[if_pos h1]
  rw[h1]at h0
  by_cases h2:uN w=true
  ·rw[if_pos h2]
   exact vJ b a F w h2 h0
  ·rw[if_neg h2]
   exact yr b hb a F w (by simpa using h2) hn h0
 ·rw[if_neg h1]
  exact vK b a F w _ h1 h0
theorem sT:Ret Tryz.prog .shared 25 [.agg (eA zA),.agg (zN++zN)] (.bool true) :=
 (v8 zA ⟨Nat.zero_le _,Nat.zero_le _⟩ ⟨Nat.zero_le _,Nat.zero_le _⟩).weak (.cons (.rfl _) (.cons fv.agg .nil)) (.rfl _)
theorem DN (s:SR) (z t:Rat):yQ (gv s) z t=yQ s z t:=by
 show(kq s.c).val+_=_
 rw[pc];rfl
theorem xB (s:SR) (z t:Rat):fQ (gv s) z t=fQ s z t:=by
 rw[fQ,fQ,DN]
 show dD s.k.S.length s.k.s (CR.mk s.k.S (s.k.M.map kq)).m _=_
 rw[Ae]
theorem C6 (l:List SR) (z t:Rat):FL (l.map gv) z t=FL l z t:=by
 rw[FL,FL,List.map_map]
 exact List.map_congr_left fun s _=>congrArg ofQ (xB s z t)
theorem De (b:BR) (m x:Int) (z t:Rat):(bd (cd b m x)).F z t=(bd b).F z t:=by
 rw[Dm,Dm]
 show ag (fI (b.l.map gv) z t) (b.l.map gv).length=_
 rw[List.length_map]
 refine bu fun i hi=>?_
 rw[fI,fI,jw hi,xB]
theorem Df (b:BR) (m x:Int) (z t:Rat):(bd (cd b m x)).G z t=(bd b).G z t:=by
 rw[Dn,Dn]
 show ag (gI (b.l.map gv) z t) (b.l.map gv).length=_
 rw[List.length_map]
 refine bu fun i hi=>?_
 rw[gI,gI,jw hi,xB]
 rfl
theorem zR {b:BR} {m x:Int} {z t:Rat} (h:b.w+m≠0) (h1:(bd b).F z t=(b.w:Rat)+(m:Rat)) (h2:(bd b).G z t=(b.w:Rat)*b.a.val+(m:Rat)*(x:Rat)):(bd (cd b m x)).Bal z t:=by
 refine⟨?_,?_⟩
 ·rw[De,h1]
  show _=((b.w+m:Int):Rat)
  rw[Rat.intCast_add]
 ·rw[Df,h2]
  show _=((b.w+m:Int):Rat)*(ofQ (jq b m x)).val
  have:=BB (x:=x) h 0 1
  rw[ofQ_val]
  grind
def nY (s:SR) (z t z' t':Rat) (k:Nat):Prop:=¬(s.k.s k≤yQ s z t∧yQ s z' t'<s.k.s k)∧¬(yQ s z t<s.k.s k∧s.k.s k<yQ s z' t')
theorem vG {b:BR} (hb:b.Ok) {m x:Int} {z t:Rat} {d:Rat × Rat} (h:b.w+m≠0) (hbal:(bd b).Bal z t) (hd:Bd.newt ((bd b).Kh ((bd b).pR z t)) ((bd b).Kc ((bd b).pR z t)) ((bd b).Kp ((bd b).pR z t)) (m:Rat) ((m:Rat)*(x:Rat))=some d)
  (hs:∀i,i<b.l.length→∀k,k<(b.l.getD i dS).k.S.length→nY (b.l.getD i dS) z t (z+d.1) (t+d.2) k):solE (cd b m x) (z+d.1) (t+d.2) (FL b.l (z+d.1) (t+d.2))=0:=by
 have h1:=Bd.straight (fC hb) hbal hd hs
 have h2:=zR h h1.1 h1.2
 have h3:=solE_FL (cd b m x) (z+d.1) (t+d.2)
 rw[if_pos h2]at h3
 rw[←h3]
 show solE _ _ _ _=solE _ _ _ (FL (b.l.map gv) _ _)
 rw[C6]
theorem zT {b:BR} (hb:ArgB b) (hm:d6 b=true) (h0:aX b=0) (m x:Int):∃(c:BR) (f:Int),Ret Tryz.prog .shared 20 [.agg (eB b),I m,I x] (.tup [.agg (eB c),I f]) ∧
  (f=0→(0≤m∧m≤1000000000)∧(-1000000≤x∧x≤1000000)∧aX (cd b m x)=0∧c=cd b m x):=by
 have h:=pd hb hm
 obtain⟨l1,l2⟩:=yX h
 by_cases hf:(m<0∨1000000000<m)∨(x < -1000000∨1000000<x)
 ·exact⟨gx,2,to b (mR h) h0 m x hf,fun hc=>absurd hc (by decide)⟩
 ·have hm':0≤m∧m≤1000000000:=by omega
  have hx' : -1000000≤x∧x≤1000000:=by omega
  have a1:=(oJ h (fH h0) hm' hx').1
  have p1:=wO b (mR h) l1 (fun s hs=>(l2 s hs).1) h0 m x hm' hx' a1
  by_cases hc:aX (cd b m x)=0
  ·rw[if_pos hc,hc]at p1
   exact⟨_,_,p1,fun _=>⟨hm',hx',hc,rfl⟩⟩
  ·rw[if_neg hc]at p1
   exact⟨_,_,p1,fun h=>absurd h hc⟩
set_option maxRecDepth 20000 in
theorem predicts_law (b:BR) (hb:ArgB b) (m x:Int):Ret Tryz.prog .shared 5 [.agg (eB b),I m,I x] (.bool true):=by
 have aw:=ny
 have h1:=qI b hb.len
 have hmg:=kr hb
 have har:=fun(hm:d6 b=true) h0=>zT hb hm h0 m x
 have hsh:=fun(hm:d6 b=true)=>pd hb hm
 generalize d6 b=x1 at *
 refine Ret.of_pwp layOk mixed Go.Proofs.Tryz.func5 rfl (by decide) rfl rfl ?_
 repeat refine aa rfl ?_
 refine aS rfl rfl rfl aw rfl rfl rfl ?_
 repeat refine aa rfl ?_
 refine aS rfl rfl rfl h1 rfl rfl rfl ?_
 cases x1
 ·repeat refine aa rfl ?_
  exact aR rfl rfl rfl
 repeat refine aa rfl ?_
 have hg:=hmg rfl
 have h20:=aV b hg.1
 have har:=har rfl
 have hsh:=hsh rfl
 clear hmg h1 aw
 by_cases x7:aX b=0
 rotate_left
 ·clear har
  generalize aX b=e at *
  refine aS rfl rfl rfl h20 rfl rfl rfl ?_
  repeat refine aa rfl ?_
  refine ab rfl ?_ ?_<;>intro h
  ·clear h
   repeat refine aa rfl ?_
   exact aR rfl rfl rfl
  ·simp at h
   exact absurd h x7
 have sv:=wr b hg
 obtain⟨c,f,a1,a2⟩:=har x7
 rw[x7]at h20
 refine aS rfl rfl rfl h20 rfl rfl rfl ?_
 repeat refine aa rfl ?_
 obtain⟨hok,hsz,-⟩:=hg.2 x7
 cases said hg x7 with
 |none r e he hr hv hn k1 k2 =>
  rw[k1]at sv
  clear a2 har k2 hn hv hr
  rcases he with rfl|rfl
  ·refine am rfl rfl rfl sv rfl rfl ?_
   repeat refine aa rfl ?_
   refine am rfl rfl rfl a1 rfl rfl ?_
   repeat refine aa rfl ?_
   exact aR rfl rfl rfl
  ·refine am rfl rfl rfl sv rfl rfl ?_
   repeat refine aa rfl ?_
   refine am rfl rfl rfl a1 rfl rfl ?_
   repeat refine aa rfl ?_
   exact aR rfl rfl rfl
 |loose z t hn hbal hz ht k1 k2 =>
  rw[k1]at sv
  clear a2 har k2 hn hbal hz ht
  refine am rfl rfl rfl sv rfl rfl ?_
  repeat refine aa rfl ?_
  refine am rfl rfl rfl a1 rfl rfl ?_
  repeat refine aa rfl ?_
  exact aR rfl rfl rfl
 |one z t hn hbal hz ht hu k1 k2 =>
  rw[k1]at sv
  clear har k2 hn hu
  by_cases hf:f=0
  rotate_left
  ·refine am rfl rfl rfl sv rfl rfl ?_
   repeat refine aa rfl ?_
   refine am rfl rfl rfl a1 rfl rfl ?_
   repeat refine aa rfl ?_
   refine ab rfl ?_ ?_<;>intro h
   ·clear h
    repeat refine aa rfl ?_
    exact aR rfl rfl rfl
   ·exfalso
    simp at h
    exact hf h
  obtain⟨hm,hx,hc0,hc⟩:=a2 hf
  subst hf
  subst hc
  have hne:b.w+m≠0:=by have:=fH x7;omega
  have va:Va (⟨ofQ z,ofQ t⟩:AR) z t 24000 20000:=⟨Vq.ofQ (h:=hz),Vq.ofQ (h:=ht)⟩
  have p1:=vL b hok ⟨ofQ z,ofQ t⟩ (FL b.l z t) ⟨[],m,x,0,0⟩ (ha:=va) (by decide) (FL_le hok.lim.l hok.few hz ht) (by decide)
  have hS:solE b z t (FL b.l z t)=0:=by rw[solE_FL,if_pos hbal]
  have hbad:uN ⟨[],m,x,0,0⟩=false:=decide_eq_false (by simp only;omega)
  cases hd:mY b z t ⟨[],m,x,0,0⟩ with
  |none =>
   have e:oA b z t (FL b.l z t) ⟨[],m,x,0,0⟩=⟨zA,9⟩:=by rw[oA,if_pos hS,hbad,if_neg (by decide),hd]
   rw[e]at p1
   have sz:=sT
   clear a2
   refine am rfl rfl rfl sv rfl rfl ?_
   repeat refine aa rfl ?_
   refine am rfl rfl rfl a1 rfl rfl ?_
   repeat refine aa rfl ?_
   refine am rfl rfl rfl p1 rfl rfl ?_
   repeat refine aa rfl ?_
   refine aS rfl rfl rfl sz rfl rfl rfl ?_
   repeat refine aa rfl ?_
   exact aR rfl rfl rfl
  |some d =>
   have e:oA b z t (FL b.l z t) ⟨[],m,x,0,0⟩=⟨⟨ofQ (z+d.1),ofQ (t+d.2)⟩,0⟩:=by rw[oA,if_pos hS,hbad,if_neg (by decide),hd]
   rw[e]at p1
   have k1:=un hok (w:=⟨[],m,x,0,0⟩) ⟨by simp only;omega,by simp only;omega⟩ ⟨by simp only;omega,by simp only;omega⟩ hd
   have hz':HQ (z+d.1) 26001:=@HQ.add _ _ 24000 2000 hz k1.1
   have ht':HQ (t+d.2) 22001:=@HQ.add _ _ 20000 2000 ht k1.2
   have hpred:=vG hok (m:=m) (x:=x) hne hbal hd
   generalize z+d.1=z' at *
   generalize t+d.2=t' at *
   have va':Va (⟨ofQ z',ofQ t'⟩:AR) z' t' 26001 22001:=⟨Vq.ofQ (h:=hz'),Vq.ofQ (h:=ht')⟩
   have hgc:=((pV hsh x7 hsz hm hx).2 hc0).1
   have q1:=psol_ret (cd b m x) hgc ⟨ofQ z',ofQ t'⟩ (FL b.l z' t') (ha:=va') (by decide) (FL_le hok.lim.l hok.few hz' ht') (by decide)
   have q2:=eF b.l hok.lim.l hok.chkL ⟨ofQ z',ofQ t'⟩ (ha:=va') (by decide)
   have i1:=fun(s:SR) (hs:s∈b.l)=>rimm_ret s (hok.lim.l.1 s hs) ⟨ofQ z,ofQ t⟩ (ha:=va) (by decide) (by decide)
   have i2:=fun(s:SR) (hs:s∈b.l)=>rimm_ret s (hok.lim.l.1 s hs) ⟨ofQ z',ofQ t'⟩ (ha:=va') (by decide) (by decide)
   have v1:=fun(s:SR) (hs:s∈b.l)=>oD (hok.lim.l.1 s hs) hz ht
   have v2:=fun(s:SR) (hs:s∈b.l)=>oD (hok.lim.l.1 s hs) hz' ht'
   have hks:=fun(s:SR) (hs:s∈b.l) (k:Nat)=>jV (hok.lim.l.1 s hs).k k
   have hn1:b.l.length≤10:=hsh.l.1
   have hn2:∀s∈b.l,s.k.S.length≤4:=fun s hs=>(hsh.l.2 s hs).1
   have hml:(b.l.map eS).length=b.l.length:=by simp
   clear a2 hg h20 hgc hd e k1 hbad hS va va' hz ht hz' ht' hok hbal hsz
   generalize hFL:FL b.l z' t'=F' at *
   generalize hFL0:FL b.l z t=F0 at *
   generalize hA0:(⟨ofQ z,ofQ t⟩:AR)=A0 at *
   generalize hA1:(⟨ofQ z',ofQ t'⟩:AR)=A1 at *
   generalize hC:cd b m x=C at *
   refine am rfl rfl rfl sv rfl rfl ?_
   repeat refine aa rfl ?_
   refine am rfl rfl rfl a1 rfl rfl ?_
   repeat refine aa rfl ?_
   refine am rfl rfl rfl p1 rfl rfl ?_
   repeat refine aa rfl ?_
   refine aq (fun i:Nat=>i≤b.l.length∧∀j,j<i→∀k,k<(b.l.getD j dS).k.S.length→nY (b.l.getD j dS) z t z' t' k)
    (fun i=>[(3,.ptr 3 1 0 0),(7,.ptr 7 1 0 0),(10,.ptr 10 1 0 0),(12,.ptr 12 1 0 0),(14,I (i:Nat))])
    (fun _=>[(3,1,⟨29,6,[eB b],2⟩),(7,1,⟨36,9,[jA A0 F0],2⟩),(10,1,⟨29,6,[eB C],2⟩),(12,1,⟨33,8,[eA A1],2⟩)]) (fun i=>b.l.length-i) 0 ⟨Nat.zero_le _,fun j hj=>absurd hj (by omega)⟩ ⟨rfl,rfl,rfl,rfl,rfl,rfl,rfl,rfl,rfl,trivial⟩ ?_
   rintro i s ⟨hi,hall⟩
   repeat refine aa rfl ?_
   refine ab rfl ?_ ?_<;>intro h
   ·have hlt:i<b.l.length:=by have:=of_decide_eq_true h;simp only[hml]at this;omega
    clear h
    have hx:=bq (d:=dS) hlt
    have hmem:=aH hlt
    have j1:=i1 _ hmem
    have j2:=i2 _ hmem
    have w1:=v1 _ hmem
    have w2:=v2 _ hmem
    have hk1:=hks _ hmem
    have hn2:=hn2 _ hmem
    have hw:=iA i
    have hO:∀k,nY (b.l.getD i dS) z t z' t' k↔¬((((b.l.getD i dS).k.S.getD k 0:Int):Rat)≤yQ (b.l.getD i dS) z t∧yQ (b.l.getD i dS) z' t'<(((b.l.getD i dS).k.S.getD k 0:Int):Rat))∧¬(yQ (b.l.getD i dS) z t<(((b.l.getD i dS).k.S.getD k 0:Int):Rat)∧(((b.l.getD i dS).k.S.getD k 0:Int):Rat)<yQ (b.l.getD i dS) z' t'):=fun k=>Iff.rfl
    generalize hs:b.l.getD i dS=S at *
    generalize yQ S z t=p at *
    generalize yQ S z' t'=q at *
    repeat refine aa rfl ?_
    refine bT rfl rfl rfl rfl rfl rfl rfl hx rfl ?_
    (repeat ((fail_if_success (with_reducible refine aJ 16 ?_));refine cn rfl ?_))
    refine yu [(7,16),(8,17),(9,16),(10,17)] (by decide +kernel) (by decide +kernel) ?_
    repeat refine aa rfl ?_
    refine am rfl rfl rfl j1 rfl rfl ?_
    repeat refine aa rfl ?_
    refine am rfl rfl rfl j2 rfl rfl ?_
    repeat refine aa rfl ?_
    refine Ep rfl rfl rfl rfl rfl ?_
    refine Ep rfl rfl rfl rfl rfl ?_
    refine Er 2 rfl rfl rfl rfl rfl rfl (fun _=>rfl) (by repeat' constructor) rfl rfl rfl rfl ?_
    refine Er 2 rfl rfl rfl rfl rfl rfl (fun _=>rfl) (by repeat' constructor) rfl rfl rfl rfl ?_
    repeat refine aa rfl ?_
    have hmS:(S.k.S.map eN).length=S.k.S.length:=by simp
    refine fp [(3,.ptr 3 1 0 0),(7,.ptr 7 1 0 0),(10,.ptr 10 1 0 0),(12,.ptr 12 1 0 0),(14,I (i:Nat)),(15,.ptr 15 ((s.own 15).1+1) 0 0),(16,.ptr 16 ((s.own 16).1+1) 0 0),(17,.ptr 17 ((s.own 17).1+1) 0 0),(18,I ((0:Nat):Int))] [(3,1,⟨29,6,[eB b],2⟩),(7,1,⟨36,9,[jA A0 F0],2⟩),(10,1,⟨29,6,[eB C],2⟩),(12,1,⟨33,8,[eA A1],2⟩),(15,(s.own 15).1+1,⟨71,7,[eS S],2⟩),(16,(s.own 16).1+1,⟨26,4,[eR (ofQ p)],2⟩),(17,(s.own 17).1+1,⟨26,4,[eR (ofQ q)],2⟩)] ⟨rfl,rfl,rfl,rfl,rfl,rfl,rfl,rfl,rfl,rfl,rfl,rfl,rfl,rfl,rfl,rfl,trivial⟩ ?_
    generalize (s.own 15).1+1=g15
    generalize (s.own 16).1+1=g16
    generalize (s.own 17).1+1=g17
    intro s1
    refine aq (fun k:Nat=>k≤S.k.S.length∧∀j,j<k→nY S z t z' t' j) (fun k=>[(3,.ptr 3 1 0 0),(7,.ptr 7 1 0 0),(10,.ptr 10 1 0 0),(12,.ptr 12 1 0 0),(14,I (i:Nat)),(15,.ptr 15 (g15) 0 0),(16,.ptr 16 (g16) 0 0),(17,.ptr 17 (g17) 0 0),(18,I (k:Nat))]) (fun _=>[(3,1,⟨29,6,[eB b],2⟩),(7,1,⟨36,9,[jA A0 F0],2⟩),(10,1,⟨29,6,[eB C],2⟩),(12,1,⟨33,8,[eA A1],2⟩),(15,g15,⟨71,7,[eS S],2⟩),(16,g16,⟨26,4,[eR (ofQ p)],2⟩),(17,g17,⟨26,4,[eR (ofQ q)],2⟩)]) (fun k=>S.k.S.length-k) 0 ⟨Nat.zero_le _,fun j hj=>absurd hj (by omega)⟩ ⟨rfl,rfl,rfl,rfl,rfl,rfl,rfl,rfl,rfl,rfl,rfl,rfl,rfl,rfl,rfl,rfl,trivial⟩ ?_
    rintro k s2 ⟨hk,hin⟩
    repeat refine aa rfl ?_
    refine ab rfl ?_ ?_<;>intro h
    ·have hlk:k<S.k.S.length:=by have:=of_decide_eq_true h;simp only[hmS]at this;omega
     clear h
     have hp:=bq (d:=(0:Int)) hlk
     have hst:=hk1 k
     have hOk:=hO k
     have hwk:IntKind.i64.wrap (((k:Nat):Int)+1)=((k+1:Nat):Int):=by rw[wrap_i64 (by omega) (by omega)];omega
     generalize S.k.S.getD k 0=n at *
     have zn:Zb n:=aN hst.1 hst.2
     have c0:=ke n hst
     have c1:=n_ (ofQ p) (ofQ (n:Rat)) (hx:=Vq.ofQ (h:=w1)) (hy:=Vq.ofQ (h:=HQ.int (z:=n))) (by decide) (by decide)
     have c2:=n_ (ofQ q) (ofQ (n:Rat)) (hx:=Vq.ofQ (h:=w2)) (hy:=Vq.ofQ (h:=HQ.int (z:=n))) (by decide) (by decide)
     have e1:=sU (p-(n:Rat))
     have e2:=ca (q-(n:Rat))
     have e3:=ca (p-(n:Rat))
     have e4:=f7 (q-(n:Rat))
     generalize sgn (p-(n:Rat))=u at *
     generalize sgn (q-(n:Rat))=v at *
     have hnext:nY S z t z' t' k→∀j,j<k+1→nY S z t z' t' j:=fun h j hj=>by
      rcases Nat.lt_or_ge j k with h2|h2
      ·exact hin j h2
      ·rw[show j=k by omega];exact h
     repeat refine aa rfl ?_
     refine bT rfl rfl rfl rfl rfl rfl rfl hp rfl ?_
     repeat refine aa rfl ?_
     refine am rfl rfl rfl c0 rfl rfl ?_
     repeat refine aa rfl ?_
     refine aS rfl rfl rfl c1 rfl rfl rfl ?_
     repeat refine aa rfl ?_
     refine dl rfl rfl rfl ?_ ?_<;>intro h
     ·have h1:0≤u:=of_decide_eq_true h
      clear h
      repeat refine aa rfl ?_
      refine aS rfl rfl rfl c2 rfl rfl rfl ?_
      repeat refine aa rfl ?_
      refine dl rfl rfl rfl ?_ ?_<;>intro h
      ·clear h
       repeat refine aa rfl ?_
       exact aR rfl rfl rfl
      ·have h2:¬v<0:=of_decide_eq_false h
       clear h
       repeat refine aa rfl ?_
       refine aS rfl rfl rfl c1 rfl rfl rfl ?_
       repeat refine aa rfl ?_
       refine dl rfl rfl rfl ?_ ?_<;>intro h
       ·exfalso
        have:=of_decide_eq_true h
        omega
       clear h
       repeat refine aa rfl ?_
       exact⟨k+1,⟨hlk,hnext (hOk.2 ⟨fun h=>by have:=e1.1 h1;grind,fun h=>by have:=e1.1 h1;grind⟩)⟩,by omega,rfl,rfl,rfl,rfl,rfl,rfl,rfl,rfl,congrArg I hwk,rfl,rfl,rfl,rfl,rfl,rfl,rfl,trivial⟩
     ·have h1:¬0≤u:=of_decide_eq_false h
      clear h
      repeat refine aa rfl ?_
      refine aS rfl rfl rfl c1 rfl rfl rfl ?_
      repeat refine aa rfl ?_
      refine dl rfl rfl rfl ?_ ?_<;>intro h
      rotate_left
      ·exfalso
       have:=of_decide_eq_false h
       omega
      clear h
      repeat refine aa rfl ?_
      refine aS rfl rfl rfl c2 rfl rfl rfl ?_
      repeat refine aa rfl ?_
      refine ab rfl ?_ ?_<;>intro h
      ·clear h
       repeat refine aa rfl ?_
       exact aR rfl rfl rfl
      ·have h2:¬0<v:=of_decide_eq_false h
       clear h
       repeat refine aa rfl ?_
       exact⟨k+1,⟨hlk,hnext (hOk.2 ⟨fun h=>by grind,fun h=>by grind⟩)⟩,by omega,rfl,rfl,rfl,rfl,rfl,rfl,rfl,rfl,congrArg I hwk,rfl,rfl,rfl,rfl,rfl,rfl,rfl,trivial⟩
    ·have hge:k=S.k.S.length:=by have:=of_decide_eq_false h;simp only[hmS]at this;omega
     clear h
     subst hge
     repeat refine aa rfl ?_
     refine⟨i+1,⟨hlt,fun j hj=>?_⟩,by omega,rfl,rfl,rfl,rfl,congrArg I hw,rfl,rfl,rfl,rfl,trivial⟩
     rcases Nat.lt_or_ge j i with h2|h2
     ·exact hall j h2
     ·rw[show j=i by omega,hs]
      exact hin
   ·have hge:i=b.l.length:=by have:=of_decide_eq_false h;simp only[hml]at this;omega
    clear h
    subst hge
    have e0:=hpred hall
    rw[e0]at q1
    repeat refine aa rfl ?_
    refine am rfl rfl rfl q2 rfl rfl ?_
    repeat refine aa rfl ?_
    refine aS rfl rfl rfl q1 rfl rfl rfl ?_
    repeat refine aa rfl ?_
    exact aR rfl rfl rfl
end Go.Pv
