/- Texts of one hand, gathered: FvE, PvFz, FuE, FuF, FuI, FuJ, FuK, FuL, FsF, FsG, FsH, FuM, FuN, FsI, FtB, FtC, FuA, FuG, FuH, FuO, FsJ, FsK, FsL, FsO, FsP, FmJ, FsQ, FsR, FsS, FuP, FuQ, FvF. -/
import Derived.Test.YtcnpaheefnefoaaGreatBa5
import Derived.WalkKit
import Derived.Deep.LoopGhost
import Derived.Deep.RegionLaw
import Derived.Lib.Walk
import Derived.Sort.WalkB12
import Derived.Lib.SliceRun
set_option linter.unusedSectionVars false
set_option linter.unusedSimpArgs false
set_option linter.unusedVariables false
set_option linter.unnecessarySimpa false
set_option maxHeartbeats 2000000
namespace Go.Pv
attribute [local irreducible] PWP POps PQuiet PSem ar ao ai ah
open Go.Proofs
theorem yN (a b:RI) (ha:a.l.length≤300000000) (hb:b.l.length≤290000000):Ret Tryz.prog .shared 138 [.agg (eI a),.agg (eI b)] (.agg (eI (bB (a.val-b.val)))):=by
 have h1:=rg b (by omega)
 have hl:(bB (-b.val)).l.length≤300000000:=by
  have:(bB (-b.val)).l.length≤b.l.length:=by
   rw[gm]
   refine cE ?_
   rw[Int.natAbs_neg,b.val_abs]
   exact Nat.le_refl _
  omega
 have h2:=mH a (bB (-b.val)) ha hl
 rw[bI,show a.val + -b.val=a.val-b.val by omega]at h2
 generalize bB (a.val-b.val)=Z at *
 generalize bB (-b.val)=Y at *
 refine Ret.of_pwp layOk mixed Go.Proofs.Tryz.func138 rfl (by decide) rfl rfl ?_
 repeat refine aa rfl ?_
 refine ak 4 [5,6,7,8] (by decide +kernel) ?_
 repeat refine aa rfl ?_
 refine am rfl rfl rfl h1 rfl rfl ?_
 repeat refine aa rfl ?_
 refine am rfl rfl rfl h2 rfl rfl ?_
 repeat refine aa rfl ?_
 exact aG rfl rfl rfl
theorem lI (b:Bool) (n:Nat):(cb b n).natAbs=n:=by cases b<;>simp[cb]
theorem div_pos {A B:Nat} (hB:0<B):(A:Int)/(B:Int)=((A/B:Nat):Int)∧(A:Int)%(B:Int)=((A%B:Nat):Int):=⟨(Int.natCast_ediv A B).symm▸rfl,(Int.natCast_emod A B).symm▸rfl⟩
theorem oZ {A B:Nat} (hB:0<B) : -(A:Int)/(B:Int)=(if A%B=0 then -((A/B:Nat):Int) else -((A/B:Nat):Int)-1) ∧ -(A:Int)%(B:Int)=(if A%B=0 then 0 else -((A%B:Nat):Int)+B):=by
 have h1:=Nat.div_add_mod A B
 have h2:=Nat.mod_lt A hB
 generalize A/B=q at *
 generalize A%B=r at *
 have e:(A:Int)=(B:Int)*q+r:=by exact_mod_cast h1.symm
 have hb:(0:Int)<B:=by exact_mod_cast hB
 by_cases h:r=0
 ·rw[if_pos h,if_pos h]
  refine(Int.ediv_emod_unique hb).2 ⟨?_,by omega,by omega⟩
  rw[e,h]
  have:=Int.mul_neg (B:Int) q
  rw[this];simp
 ·rw[if_neg h,if_neg h]
  refine(Int.ediv_emod_unique hb).2 ⟨?_,by omega,by omega⟩
  rw[e,Int.mul_sub,Int.mul_neg,Int.mul_one]
  omega
set_option maxRecDepth 20000 in
theorem rb (a b:RI) (ha:a.l.length≤90000000) (hb:b.l.length≤90000000) (hn:b.neg=false) (hb0:nv b.l≠0):Ret Tryz.prog .shared 71 [.agg (eI a),.agg (eI b)] (.tup [.agg (eI (bB (a.val/b.val))),.agg (eI (bB (a.val%b.val)))]):=by
 have hta:=cG a.l (by omega)
 have htb:=cG b.l (by omega)
 have hla:=bz a.l
 have hlb:=bz b.l
 have hAn:=bW a.l
 have hBn:=bW b.l
 have d1:=ig (aE a.l) (aE b.l) (by omega) (by omega) (by rw[hBn];exact hb0)
 rw[CU,hAn,hBn]at d1
 have hql:(aj (nv a.l/nv b.l)).length≤90000000:=by
  have:=cE (L:=a.l) (Nat.div_le_self (nv a.l) (nv b.l));omega
 have hrl:(aj (nv a.l%nv b.l)).length≤90000000:=by
  have:=cE (L:=a.l) (Nat.mod_le (nv a.l) (nv b.l));omega
 have m1:=cw a.neg (aj (nv a.l/nv b.l)) (by omega) (aY _)
 have m2:=cw a.neg (aj (nv a.l%nv b.l)) (by omega) (aY _)
 rw[aC]at m1 m2
 have s1:=og (bB (cb a.neg (nv a.l%nv b.l))) (by rw[gm,lI];omega)
 rw[bI]at s1
 have hBv:b.val=(nv b.l:Int):=by rw[b.val_sgz,hn];rfl
 have hAv:=a.val_sgz
 have hBp:0<nv b.l:=Nat.pos_of_ne_zero hb0
 by_cases hneg:a.neg=true∧nv a.l%nv b.l≠0
 ·obtain⟨hg,hr⟩:=hneg
  have eq:a.val/b.val=cb a.neg (nv a.l/nv b.l)-1:=by
   rw[hAv,hBv,hg]
   show -(nv a.l:Int)/(nv b.l:Int)=_
   rw[(oZ hBp).1,if_neg hr];rfl
  have er:a.val%b.val=cb a.neg (nv a.l%nv b.l)+(cb false (nv b.l)):=by
   rw[hAv,hBv,hg]
   show -(nv a.l:Int)%(nv b.l:Int)=_
   rw[(oZ hBp).2,if_neg hr];rfl
  have m3:=cw false (aE b.l) (by omega) (dh _)
  rw[hBn]at m3
  have k1:=mH (bB (cb a.neg (nv a.l%nv b.l))) (bB (cb false (nv b.l))) (by rw[gm,lI];omega) (by rw[gm,lI,←aE];omega)
  have k2:=ub 1 (by decide) (by decide)
  have k3:=yN (bB (cb a.neg (nv a.l/nv b.l))) (bB 1) (by rw[gm,lI];omega) (by rw[AF];decide)
  rw[bI,bI]at k1 k3
  rw[←er]at k1
  rw[←eq]at k3
  have hs:io (cb a.neg (nv a.l%nv b.l))<0:=by
   rw[hg,io,cb]
   rw[if_neg (by simp;omega),if_pos (by simp;omega)]
   decide
  generalize io (cb a.neg (nv a.l%nv b.l))=sg at *
  generalize bB (a.val/b.val)=X at *
  generalize bB (a.val%b.val)=Y at *
  generalize bB (cb a.neg (nv a.l/nv b.l))=X0 at *
  generalize bB (cb a.neg (nv a.l%nv b.l))=Y0 at *
  generalize bB (cb false (nv b.l))=B0 at *
  generalize bB 1=O1 at *
  generalize aj (nv a.l/nv b.l)=Q at *
  generalize aj (nv a.l%nv b.l)=R at *
  generalize aE a.l=A at *
  generalize aE b.l=B at *
  obtain⟨an,al⟩:=a
  obtain⟨bn,bl⟩:=b
  simp only at *
  subst hn
  subst hg
  refine Ret.of_pwp layOk mixed Go.Proofs.Tryz.func71 rfl (by decide) rfl rfl ?_
  repeat refine aa rfl ?_
  refine ak 12 [11,12,13,14,15,16,17,10,18,19,6,7] (by decide +kernel) ?_
  repeat refine aa rfl ?_
  refine am rfl rfl rfl hta rfl rfl ?_
  repeat refine aa rfl ?_
  refine am rfl rfl rfl htb rfl rfl ?_
  repeat refine aa rfl ?_
  refine am rfl rfl rfl d1 rfl rfl ?_
  repeat refine aa rfl ?_
  refine aM 11 2 [20,21,22,23,24,25,26,27,28,29,30,8,9] [] (by decide +kernel) rfl ?_
  repeat refine aa rfl ?_
  refine am rfl rfl rfl m1 rfl rfl ?_
  repeat refine aa rfl ?_
  refine am rfl rfl rfl m2 rfl rfl ?_
  repeat refine aa rfl ?_
  refine aS rfl rfl rfl s1 rfl rfl rfl ?_
  repeat refine aa rfl ?_
  refine ab rfl ?_ ?_<;>intro h
  rotate_left
  ·exact absurd hs (of_decide_eq_false h)
  clear h
  repeat refine aa rfl ?_
  refine ak 6 [34,35,36,37,38,39] (by decide +kernel) ?_
  repeat refine aa rfl ?_
  refine am rfl rfl rfl htb rfl rfl ?_
  repeat refine aa rfl ?_
  refine am rfl rfl rfl m3 rfl rfl ?_
  repeat refine aa rfl ?_
  refine am rfl rfl rfl k1 rfl rfl ?_
  repeat refine aa rfl ?_
  refine ak 3 [45,46,47] (by decide +kernel) ?_
  repeat refine aa rfl ?_
  refine am rfl rfl rfl k2 rfl rfl ?_
  repeat refine aa rfl ?_
  refine am rfl rfl rfl k3 rfl rfl ?_
  repeat refine aa rfl ?_
  refine bC [4,5] [2,3] (by decide +kernel) ?_
  repeat refine aa rfl ?_
  exact aG rfl rfl rfl
 ·have eq:a.val/b.val=cb a.neg (nv a.l/nv b.l)∧a.val%b.val=cb a.neg (nv a.l%nv b.l):=by
   rw[hAv,hBv]
   cases hg:a.neg with
   |false=>exact div_pos hBp
   |true =>
    have hr:nv a.l%nv b.l=0:=by
     rcases Nat.eq_zero_or_pos (nv a.l%nv b.l) with h|h
     ·exact h
     ·exact absurd ⟨hg,by omega⟩ hneg
    have:=oZ (A:=nv a.l) hBp
    rw[if_pos hr,if_pos hr]at this
    rw[hr]
    exact this
  have hs:¬io (cb a.neg (nv a.l%nv b.l))<0:=by
   cases hg:a.neg with
   |false =>
    unfold io cb
    simp only[Bool.false_eq_true,if_false]
    split
    ·omega
    ·split<;>omega
   |true =>
    have hr:nv a.l%nv b.l=0:=by
     rcases Nat.eq_zero_or_pos (nv a.l%nv b.l) with h|h
     ·exact h
     ·exact absurd ⟨hg,by omega⟩ hneg
    rw[hr];decide
  rw[eq.1,eq.2]
  generalize io (cb a.neg (nv a.l%nv b.l))=sg at *
  generalize bB (cb a.neg (nv a.l/nv b.l))=X0 at *
  generalize bB (cb a.neg (nv a.l%nv b.l))=Y0 at *
  generalize aj (nv a.l/nv b.l)=Q at *
  generalize aj (nv a.l%nv b.l)=R at *
  generalize aE a.l=A at *
  generalize aE b.l=B at *
  clear eq hneg
  obtain⟨an,al⟩:=a
  obtain⟨bn,bl⟩:=b
  simp only at *
  subst hn
  cases an
  all_goals
   refine Ret.of_pwp layOk mixed Go.Proofs.Tryz.func71 rfl (by decide) rfl rfl ?_
   repeat refine aa rfl ?_
   refine ak 12 [11,12,13,14,15,16,17,10,18,19,6,7] (by decide +kernel) ?_
   repeat refine aa rfl ?_
   refine am rfl rfl rfl hta rfl rfl ?_
   repeat refine aa rfl ?_
   refine am rfl rfl rfl htb rfl rfl ?_
   repeat refine aa rfl ?_
   refine am rfl rfl rfl d1 rfl rfl ?_
   repeat refine aa rfl ?_
   refine aM 11 2 [20,21,22,23,24,25,26,27,28,29,30,8,9] [] (by decide +kernel) rfl ?_
   repeat refine aa rfl ?_
   refine am rfl rfl rfl m1 rfl rfl ?_
   repeat refine aa rfl ?_
   refine am rfl rfl rfl m2 rfl rfl ?_
   repeat refine aa rfl ?_
   refine aS rfl rfl rfl s1 rfl rfl rfl ?_
   repeat refine aa rfl ?_
   refine ab rfl ?_ ?_<;>intro h
   ·exact absurd (of_decide_eq_true h) hs
   clear h
   repeat refine aa rfl ?_
   refine bC [4,5] [2,3] (by decide +kernel) ?_
   repeat refine aa rfl ?_
   exact aG rfl rfl rfl
theorem sI (x:RR) {p:Rat} {n:Nat} [hx:Vq x p n] (hn:n≤20000000):Ret Tryz.prog .shared 22 [.agg (eR x)] (.agg (eI (bB p.floor))):=by
 have h1:=hx.sz
 have l1:=dE hx.hq.ok
 have n1:=dJ x (by omega) (by omega)
 rw[hx.val]at n1
 have m1:=rb (ofQ p).n (ofQ p).d (by omega) (by omega) rfl (tY p)
 rw[eQ,du,←Rat.floor_def]at m1
 generalize bB p.floor=F at *
 generalize bB (p.num%(p.den:Int))=G at *
 generalize ofQ p=P at *
 refine Ret.of_pwp layOk mixed Go.Proofs.Tryz.func22 rfl (by decide) rfl rfl ?_
 repeat refine aa rfl ?_
 refine am rfl rfl rfl n1 rfl rfl ?_
 repeat refine aa rfl ?_
 refine am rfl rfl rfl m1 rfl rfl ?_
 repeat refine aa rfl ?_
 exact aG rfl rfl rfl
theorem sx (l:List UInt16) (i:Nat):nv (l.drop i)≤nv l:=by
 rcases Nat.lt_or_ge i l.length with h|h
 ·rw[b7 l i (by omega)]
  have:=Nat.mul_le_mul_right (nv (l.drop i)) (show 1≤65536^i from Nat.pow_pos (by decide))
  omega
 ·rw[List.drop_of_length_le h];exact Nat.zero_le _
set_option maxRecDepth 20000 in
theorem sN (N:Nat) (hl:(aj N).length≤800000000):Ret Tryz.prog .shared 21 [.agg (eI (bB (N:Int)))] (.tup [I (if N<9223372036854775808 then N else 0:Nat),.bool (decide (N<9223372036854775808))]):=by
 have hz:bB (N:Int)=⟨false,aj N⟩:=by
  have:=qR false (aj N) (aY N)
  rw[aC]at this
  exact this
 rw[hz]
 have hr:=cG (aj N) (by omega)
 rw[aE,aC]at hr
 have hm:((aj N).map eD).length=(aj N).length:=by simp
 have hN:N=nv (aj N):=(aC N).symm
 have e4:(65536:Nat)^4=18446744073709551616:=by decide
 by_cases h4:4<(aj N).length
 ·have hbig:¬N<9223372036854775808:=fun h=>by
   have:=iX (n:=N) (by omega)
   omega
  rw[if_neg hbig,decide_eq_false hbig]
  generalize aj N=L at *
  refine Ret.of_pwp layOk mixed Go.Proofs.Tryz.func21 rfl (by decide) rfl rfl ?_
  repeat refine aa rfl ?_
  refine am rfl rfl rfl hr rfl rfl ?_
  repeat refine aa rfl ?_
  refine ab rfl ?_ ?_<;>intro h
  rotate_left
  ·exfalso
   have:=of_decide_eq_false h
   omega
  clear h
  repeat refine aa rfl ?_
  exact aG rfl rfl rfl
 ·have hlt:N<18446744073709551616:=by
   have h1:=bL (aj N)
   have h2:(65536:Nat)^(aj N).length≤65536^4:=Nat.pow_le_pow_right (by decide) (by omega)
   omega
  generalize hLg:aj N=L at *
  refine Ret.of_pwp layOk mixed Go.Proofs.Tryz.func21 rfl (by decide) rfl rfl ?_
  repeat refine aa rfl ?_
  refine am rfl rfl rfl hr rfl rfl ?_
  repeat refine aa rfl ?_
  refine ab rfl ?_ ?_<;>intro h
  ·exfalso
   have:=of_decide_eq_true h
   omega
  clear h
  repeat refine aa rfl ?_
  refine aq (fun k=>k≤L.length) (fun k=>[(1,.ptr 1 1 0 0),(4,.sl (L.map eD)),(5,.int .u64 (nv (L.drop k):Nat)),(6,I ((k:Int)-1))]) (fun k=>[(1,1,⟨24,2,[eI ⟨false,L⟩],2⟩)]) (fun k=>k) L.length (Nat.le_refl _) ⟨rfl,rfl,by rw[List.drop_length];rfl,?_,rfl,trivial⟩ ?_
  ·show I _=I _
   rw[hm,wrap_i64 (by omega) (by omega)]
  intro k s hk
  repeat refine aa rfl ?_
  refine ab rfl ?_ ?_<;>intro h
  ·have h0:0<k:=by have:=of_decide_eq_true h;omega
   clear h
   obtain⟨i,rfl⟩:∃i,k=i+1:=⟨k-1,by omega⟩
   obtain⟨x,hx⟩:=aI (show i<L.length by omega)
   have hxl:=aT x
   have hd:=c7 hx
   have hb:nv (L.drop i)<18446744073709551616:=by
    have:nv (L.drop i)≤nv L:=sx L i
    omega
   have e1:IntKind.u64.wrap (((nv (L.drop (i+1)):Nat):Int)*65536)=((nv (L.drop (i+1))*65536:Nat):Int):=by rw[wrap_u64 (by omega) (by omega)];omega
   have e2:IntKind.u64.wrap (x.toNat:Int)=(x.toNat:Int):=wrap_u64 (by omega) (by omega)
   have e3:IntKind.u64.wrap (((nv (L.drop (i+1))*65536:Nat):Int)+(x.toNat:Int))=((nv (L.drop i):Nat):Int):=by rw[wrap_u64 (by omega) (by omega)];omega
   have e5:((i+1:Nat):Int)-1=(i:Nat):=by omega
   have e6:IntKind.i64.wrap (((i:Nat):Int)-1)=(i:Int)-1:=wrap_i64 (by omega) (by omega)
   rw[e5]
   repeat refine aa rfl ?_
   rw[e1]
   refine bT rfl rfl rfl rfl rfl rfl rfl hx rfl ?_
   repeat refine aa rfl ?_
   rw[e2]
   repeat refine aa rfl ?_
   rw[e3]
   repeat refine aa rfl ?_
   exact⟨i,by omega,by omega,rfl,rfl,rfl,congrArg I e6,rfl,trivial⟩
  ·have h0:k=0:=by have:=of_decide_eq_false h;omega
   subst h0
   clear h
   rw[List.drop_zero,←hN]
   by_cases hs:N<9223372036854775808
   ·rw[if_pos hs,decide_eq_true hs]
    have e7:IntKind.i64.wrap (N:Int)=N:=wrap_i64 (by omega) (by omega)
    iterate 31 refine cn rfl ?_
    refine ab rfl ?_ ?_<;>intro h
    ·clear h
     repeat refine aa rfl ?_
     rw[e7]
     repeat refine aa rfl ?_
     exact aG rfl rfl rfl
    ·exfalso
     have h2:=of_decide_eq_false h
     omega
   ·rw[if_neg hs,decide_eq_false hs]
    iterate 31 refine cn rfl ?_
    refine ab rfl ?_ ?_<;>intro h
    ·exfalso
     have h2:=of_decide_eq_true h
     omega
    ·clear h
     repeat refine aa rfl ?_
     exact aG rfl rfl rfl
end Go.Pv
namespace Go.Pv
open Go.RowKit
variable [Globs]
variable {s:St}
theorem Ghost.freezeD {k gk k0 g0 i j n sz:Nat} {T:TypeId} {rows:List (List PV)} {c0:Cont} {row:List PV} (hk:Nat.beq k0 k=false) (ho:s.own k=(gk,some ⟨T,sz,rows,1⟩)) (h0:s.own k0=(g0,some c0)) (hkind:c0.kind=2) (hrow:c0.rows[i]? = some row) (hj:row[j]? = some (.als k gk 0 n)) (hz0:Nat.blt 0 c0.sz=true) (hn:n=rows.length) :
  Ghost s ((s.setOwn k (gk+1) none).setOwn k0 g0 (some ⟨c0.ty,c0.sz,c0.rows.set i (row.set j (.sl rows)),2⟩)):=by
 intro C a w hX ⟨γ,h⟩
 subst hn
 have hne:k0≠k:=fun e=>by subst e;simp at hk
 obtain⟨h1,hle,-⟩:=h.drop hX ho
 have ho1:(s.setOwn k (gk+1) none).own k0=(g0,some c0):=by rw[au hne];exact h0
 have hsite:=h.sites k0 c0 (by rw[h0])
 have hlt:=(List.getElem?_eq_some_iff.1 hrow).1
 have hlt2:=(List.getElem?_eq_some_iff.1 hj).1
 have hfr:∀v,Rep (ae C γ s w) (.als k gk 0 rows.length) v→Rep (ae C γ (s.setOwn k (gk+1) none) w) (.sl rows) v:=by
  intro v hp
  refine .d ?_
  rcases h.als_at hp ho with⟨q1,_,q3,q4⟩|⟨b,cap,cur,q1,q2,q3,q4,q5,q6,q7⟩
  ·have:rows=[]:=(h.sites k _ (by rw[ho])).emp q1
   rw[this,q4]
   exact .sl0 _ _
  ·obtain⟨cur',g1,g2,g3,g4,g5⟩:=h.site_at ho q1 (h.cells_sz ho q1 q3 q6)
   have hb:(ae C γ (s.setOwn k (gk+1) none) w).ok b:=by
    have hbase:=h.base k _ b (by rw[ho]) q1
    refine⟨hbase.2,fun hx=>?_,fun k' c' hc' hb'=>?_⟩
    ·have:=hX b hx;omega
    ·by_cases hk':k'=k
     ·subst hk';rw[ac]at hc';cases hc'
     ·rw[au hk']at hc'
      exact hk' (h.inj k' k c' _ b hc' (by rw[ho]) hb' q1)
   rw[q2]
   simp only[Nat.zero_mul]
   refine .sl rows b 0 cap sz (fun i j=>cur'.getD (i*sz+j) undef) hb g2 q4 g4 (fun i j row pv e1 e2=>?_) (fun i j row pv e1 e2=>?_)
   ·obtain⟨u,f1,f2,_⟩:=g5 i j row pv e1 e2
    have g1:w.heap[b]? = some (.cells cur' T (0,0)):=g1
    show w.cell? _=_∧_
    rw[aU g1,Nat.zero_add,f1]
    simp[f1,f2]
   ·obtain⟨u,f1,_,f3⟩:=g5 i j row pv e1 e2
    have hu:cur'.getD (i*sz+j) undef=u:=by simp[f1]
    simp only[hu]
    exact hle.drep f3
 have he:=jC (C:=C) (γ:=γ) (w:=w) (c1:=⟨c0.ty,c0.sz,c0.rows.set i (row.set j (.sl rows)),2⟩) ho1 rfl rfl (by simp)
 have hother:∀k',k'≠k0→((s.setOwn k (gk+1) none).setOwn k0 g0 (some ⟨c0.ty,c0.sz,c0.rows.set i (row.set j (.sl rows)),2⟩)).own k'=(s.setOwn k (gk+1) none).own k':=fun k' hk'=>au hk'
 have hsome:∀k' c',(((s.setOwn k (gk+1) none).setOwn k0 g0 (some ⟨c0.ty,c0.sz,c0.rows.set i (row.set j (.sl rows)),2⟩)).own k').2=some c'→∃c'',((s.setOwn k (gk+1) none).own k').2=some c'':=by
  intro k' c' hc'
  by_cases hk':k'=k0
  ·subst hk';exact⟨c0,by rw[ho1]⟩
  ·rw[hother k' hk']at hc';exact⟨c',hc'⟩
 refine⟨γ,h1.defers,h1.size,fun r=>by rw[he];exact h1.regs r,fun k' c' hc'=>?_,fun k1 k2 c1 c2 b e1 e2 e3 e4=>?_,fun k' c' b e1 e2=>?_,h1.below,h1.top,fun c v hk=>by rw[he];exact h1.kept c v hk⟩
 ·rw[he]
  by_cases hk':k'=k0
  ·subst hk'
   rw[ac]at hc'
   have hc':=Option.some.inj hc'
   subst hc'
   have hz0:0<c0.sz:=by simpa using hz0
   refine⟨fun hb=>?_,(fun b _ hz=>by simp only at hz;omega),(fun b _ hz=>by simp only at hz;omega),fun b hb _=>?_⟩
   ·have:=hsite.emp hb
    rw[this]at hrow;simp at hrow
   ·obtain⟨cur,f1,f2,f3,f4,f5⟩:=hsite.at_ b hb hz0
    refine⟨cur,f1,f2,by simpa using f3,fun r hr=>?_,fun i' j' row1 pv1 e1 e2=>?_⟩
    ·rcases List.mem_or_eq_of_mem_set hr with hr|rfl
     ·exact f4 r hr
     ·simpa using f4 row (List.mem_of_getElem? hrow)
    ·by_cases hi:i'=i
     ·subst hi
      rw[List.getElem?_set_self hlt]at e1
      have e1:=Option.some.inj e1
      subst e1
      by_cases hjj:j'=j
      ·subst hjj
       rw[List.getElem?_set_self hlt2]at e2
       have e2:=Option.some.inj e2
       subst e2
       obtain⟨v,u1,u2,u3⟩:=f5 i' j' row _ hrow hj
       rw[hkind]at u3
       exact⟨v,u1,u2,hfr v u3⟩
      ·rw[List.getElem?_set_ne (Ne.symm hjj)]at e2
       obtain⟨v,u1,u2,u3⟩:=f5 i' j' row pv1 hrow e2
       rw[hkind]at u3
       exact⟨v,u1,u2,Rep.mono hle u3⟩
     ·rw[List.getElem?_set_ne (Ne.symm hi)]at e1
      obtain⟨v,u1,u2,u3⟩:=f5 i' j' row1 pv1 e1 e2
      rw[hkind]at u3
      exact⟨v,u1,u2,Rep.mono hle u3⟩
  ·rw[hother k' hk']at hc'
   exact h1.sites k' c' hc'
 ·obtain⟨d,hd⟩:=hsome k1 c1 e1
  obtain⟨d',hd'⟩:=hsome k2 c2 e2
  exact h1.inj k1 k2 d d' b hd hd' e3 e4
 ·obtain⟨d,hd⟩:=hsome k' c' e1
  exact h1.base k' d b hd e2
end Go.Pv
set_option maxHeartbeats 2000000
namespace Go.Pv
attribute [local irreducible] PWP POps PQuiet PSem ar ao ai ah
open Go.Proofs
set_option maxRecDepth 20000 in
theorem r6 (l:List Int) (hl:l.length≤1000000000):Ret Tryz.prog .fresh 125 [.sl (l.map eN)] (.sl (l.map eN)):=by
 refine Ret.of_pwp layOk mixed Go.Proofs.Tryz.func125 rfl (by decide) rfl rfl ?_
 ((repeat ((fail_if_success (with_reducible refine aJ 1 ?_));refine cn rfl ?_));refine aB 1 ?_)
 refine aa rfl ?_
 refine aW ?_
 refine aK rfl (om layOk rfl rfl rfl (fun h0=>?_) ?_)
 ·rw[h0]
  refine aD ?_
  (repeat ((fail_if_success (with_reducible refine jc ?_));refine cn rfl ?_))
  refine ay (Ghost.nilfs (t:=2) rfl) ?_
  repeat refine aa rfl ?_
  exact qe rfl rfl rfl trivial rfl
 ·refine aD ?_
  repeat refine aa rfl ?_
  refine ax (bt 0 rfl rfl rfl rfl rfl rfl rfl rfl rfl rfl rfl (by repeat' constructor) rfl ?_)
  repeat refine aa rfl ?_
  refine ax (bQ 1 rfl rfl rfl rfl rfl rfl rfl rfl rfl rfl rfl (by repeat' constructor) (by intro row hr;obtain⟨p,_,rfl⟩:=List.mem_map.1 hr;rfl) rfl rfl (by simp;omega) (by simp;omega) ?_)
  (repeat ((fail_if_success (with_reducible refine jc ?_));refine cn rfl ?_))
  refine ay (Ghost.takeF (k:=5) (t:=2) l rfl rfl rfl rfl (fun _=>rfl)) ?_
  repeat refine aa rfl ?_
  exact qe rfl rfl rfl (by repeat' constructor) rfl
def kq (x:RR):RR:=ofQ x.val
def gv (x:SR):SR:=⟨x.x,kq x.c,⟨x.k.S,x.k.M.map kq⟩⟩
def DX (ch:SR→SR) (b:BR):BR:=⟨b.w,kq b.a,b.l.map fun x=>ch (gv x)⟩
structure ChOk (f:FuncId) (caps:List PV) (ch:SR→SR) (x:SR):Prop where
 run:∀ {K:St→Prop} {s:St} {d g g4 g5 g400:Nat} {c4 c5 c400:Cont} {c a:Operand} {tys:Array TypeId} {ty:TypeId} {pos:String} {af:Array Edge},s.ev c = .clo f caps→s.ev a = .ptr 8 g 0 0 →
 FitO s [(8,g,⟨71,7,[eS x],2⟩),(4,g4,c4),(5,g5,c5),(400,g400,c400)] →
 (∀s1:St,K (({ reg:=s.reg,own:=(s1.over [] [(8,g,⟨71,7,[eS (ch x)],2⟩),(4,g4,c4),(5,g5,c5),(400,g400,c400)]).own }:St).putR d (.tup []))) →
 Sm Tryz.prog lay.get s ⟨some d,.call ⟨.value c,#[a],tys⟩,ty,pos,af,none⟩ K
theorem Au (x:SR):ChOk 65 [] id x:=by
 constructor
 intro K s d g g4 g5 g400 c4 c5 c400 c a tys ty pos af hc ha ho hK
 refine bE layOk rfl hc Tryz.func65 rfl (by decide) rfl rfl ?_
 show PWP _ _ _ _ (aQ s (([a]:List Operand).map s.ev++[]))
 have hk:=hK s
 simp only[id_eq]at hk
 rw[Fit.over (l:=[]) ho]at hk
 repeat refine aa rfl ?_
 exact cf rfl hk
theorem iD {α β:Type} {f:α→β} {l:List α} {k:Nat} {x:α} (h:l[k]? = some x):(l.take (k+1)).map f=(l.take k).map f++[f x]:=by rw[b0 h,List.map_append];rfl
set_option maxRecDepth 20000 in
theorem r8 (b:BR) (hb:b.Lim) (h12:b.l.length≤1000) (hM:∀s∈b.l,s.k.M.length≤1000) (cl:FuncId) (caps:List PV) (ch:SR→SR) (hch:∀s∈b.l,ChOk cl caps ch (gv s)) :
  Ret Tryz.prog .shared 64 [.agg (eB b),.clo cl caps] (.agg (eB (DX ch b))):=by
 have h1:=Ay b.a (hx:=hb.a.v) (by decide)
 have hml:(b.l.map eS).length=b.l.length:=by simp
 obtain⟨w,ba,l⟩:=b
 simp only at *
 have hll:=hb.l.1
 rw[show ofQ ba.val=kq ba from rfl]at h1
 clear hb
 generalize hG:(fun x=>ch (gv x))=G
 rw[DX,hG]
 generalize kq ba=A0 at *
 refine Ret.of_pwp layOk mixed Go.Proofs.Tryz.func64 rfl (by decide) rfl rfl ?_
 repeat refine aa rfl ?_
 refine aM 6 1 [11,12,13,14,15,16,5] [] (by decide +kernel) rfl ?_
 repeat refine aa rfl ?_
 refine am rfl rfl rfl h1 rfl rfl ?_
 repeat refine aa rfl ?_
 refine ay (Ghost.nilcell (k:=400) (k0:=5) (i:=0) (j:=5) (row:=I w::(eR A0++[.nil])) 71 7 1 rfl rfl rfl rfl rfl rfl rfl) ?_
 refine aq (fun i:Nat=>i≤l.length) (fun i=>[(1,.clo cl caps),(4,.ptr 4 1 0 0),(5,.ptr 5 1 0 0),(18,.sl (l.map eS)),(19,I l.length),(20,I (i:Nat))])
  (fun i=>[(4,1,⟨29,6,[I 0::(zN++[.nil])],2⟩),(5,1,⟨29,6,[I w::(eR A0++[.als 400 (1+i) 0 (((l.take i).map G).map eS).length])],2⟩),(400,1+i,⟨71,7,((l.take i).map G).map eS,1⟩)]) (fun i=>l.length-i) 0 (Nat.zero_le _) ⟨rfl,rfl,rfl,rfl,by rw[←hml];rfl,rfl,rfl,rfl,rfl,trivial⟩ ?_
 intro i s hi
 repeat refine aa rfl ?_
 refine ab rfl ?_ ?_<;>intro h
 ·have hlt:i<l.length:=by have:=of_decide_eq_true h;omega
  clear h
  obtain⟨x,hx⟩:=aI hlt
  have hxm:=List.mem_of_getElem? hx
  have hxl:=hll x hxm
  have hcx:=hch x hxm
  have hMx:=hM x hxm
  have hrow:=iD (f:=G) hx
  have hil:((l.take i).map G).length≤1000:=by rw[List.length_map,List.length_take];omega
  have hw:=iA i
  have hGx:G x=ch (gv x):=by rw[←hG]
  generalize G x=y at *
  generalize (l.take i).map G=B at *
  have e1:=Ay x.c (hx:=hxl.c.v) (by decide)
  rw[show ofQ x.c.val=kq x.c from rfl]at e1
  have e2:=(r6 x.k.S hxl.k.ls).shared_of_fresh
  have e3:∀m∈x.k.M,Ret Tryz.prog .shared 124 [.agg (eR m)] (.agg (eR (kq m))):=fun m hm=>Ay m (hx:=(hxl.k.m m hm).v) (by decide)
  have hmm:(x.k.M.map eR).length=x.k.M.length:=by simp
  obtain⟨xx,xc,xS,xM⟩:=x
  simp only[gv]at *
  generalize kq xc=XC at *
  repeat refine aa rfl ?_
  refine bT rfl rfl rfl rfl rfl rfl rfl hx rfl ?_
  (repeat ((fail_if_success (with_reducible refine aJ 5 ?_));refine cn rfl ?_))
  refine ay (d5 8) ?_
  refine aM 11 1 [24,25,26,27,28,29,30,31,32,33,34,8] [] (by decide +kernel) rfl ?_
  repeat refine aa rfl ?_
  refine am rfl rfl rfl e1 rfl rfl ?_
  repeat refine aa rfl ?_
  refine am rfl rfl rfl e2 rfl rfl ?_
  repeat refine aa rfl ?_
  refine fp [(1,.clo cl caps),(4,.ptr 4 1 0 0),(5,.ptr 5 1 0 0),(8,.ptr 8 ((s.own 8).1+2+1) 0 0),(18,.sl (l.map eS)),(19,I l.length),(20,I (i:Nat)),(37,.sl (xM.map eR)),(38,I (xM.map eR).length),(39,I ((0:Nat):Int))]
   [(4,1,⟨29,6,[I 0::(zN++[.nil])],2⟩),(5,1,⟨29,6,[I w::(eR A0++[.als 400 (1+i) 0 (B.map eS).length])],2⟩),(400,1+i,⟨71,7,B.map eS,1⟩),(8,(s.own 8).1+2+1,⟨71,7,[I xx::(eR XC++[.sl (xS.map eN),.nil])],2⟩)]
   ⟨rfl,rfl,rfl,rfl,rfl,rfl,rfl,rfl,rfl,rfl,rfl,rfl,rfl,rfl,trivial⟩ ?_
  generalize (s.own 8).1+2+1=g8
  rw[hmm]
  intro s1
  refine ay (Ghost.nilcell (k:=300) (k0:=8) (i:=0) (j:=6) (row:=I xx::(eR XC++[.sl (xS.map eN),.nil])) 26 4 1 rfl rfl rfl rfl rfl rfl rfl) ?_
  have hg3:∃g3,(s1.own 300).1+1=g3:=⟨_,rfl⟩
  obtain⟨g3,hg3⟩:=hg3
  refine aq (fun k:Nat=>k≤xM.length) (fun k=>[(1,.clo cl caps),(4,.ptr 4 1 0 0),(5,.ptr 5 1 0 0),(8,.ptr 8 g8 0 0),(18,.sl (l.map eS)),(19,I l.length),(20,I (i:Nat)),(37,.sl (xM.map eR)),(38,I xM.length),(39,I (k:Nat))])
   (fun k=>[(4,1,⟨29,6,[I 0::(zN++[.nil])],2⟩),(5,1,⟨29,6,[I w::(eR A0++[.als 400 (1+i) 0 (B.map eS).length])],2⟩),(400,1+i,⟨71,7,B.map eS,1⟩),(8,g8,⟨71,7,[I xx::(eR XC++[.sl (xS.map eN),.als 300 (g3+k) 0 (((xM.take k).map kq).map eR).length])],2⟩),(300,g3+k,⟨26,4,((xM.take k).map kq).map eR,1⟩)]) (fun k=>xM.length-k) 0 (Nat.zero_le _)
   ⟨rfl,rfl,rfl,rfl,rfl,rfl,rfl,rfl,rfl,rfl,rfl,rfl,rfl,by rw[←hg3];rfl,by rw[←hg3];rfl,trivial⟩ ?_
  clear hg3
  intro k s2 hk
  repeat refine aa rfl ?_
  refine ab rfl ?_ ?_<;>intro h
  ·have hlk:k<xM.length:=by have:=of_decide_eq_true h;omega
   clear h
   obtain⟨m,hm⟩:=aI hlk
   have e4:=e3 m (List.mem_of_getElem? hm)
   have hrk:=iD (f:=kq) hm
   have hkl:((xM.take k).map kq).length≤1000:=by rw[List.length_map,List.length_take];omega
   have hwk:IntKind.i64.wrap (((k:Nat):Int)+1)=((k+1:Nat):Int):=by rw[wrap_i64 (by omega) (by omega)];omega
   generalize kq m=n at *
   generalize (xM.take k).map kq=E at *
   repeat refine aa rfl ?_
   refine bT rfl rfl rfl rfl rfl rfl rfl hm rfl ?_
   (repeat ((fail_if_success (with_reducible refine aJ 9 ?_));refine cn rfl ?_))
   refine mF [48,300] [8] 9 [5,6,9] (by decide +kernel) (by decide +kernel) ?_
   repeat refine aa rfl ?_
   refine am rfl rfl rfl e4 rfl rfl ?_
   repeat refine aa rfl ?_
   refine B1 rfl rfl rfl (bt 1 rfl rfl rfl rfl rfl rfl rfl rfl rfl rfl rfl (by repeat' constructor) rfl ⟨sC rfl,?_⟩)
   repeat refine aa rfl ?_
   refine B1 rfl rfl rfl (bQ 1 rfl rfl rfl rfl rfl rfl rfl rfl rfl rfl rfl (by repeat' constructor) (by intro row hr;first|(simp at hr;subst hr;rfl)|(simp at hr;obtain⟨_,_,rfl⟩:=hr;rfl)|simp at hr) rfl rfl (by simp;omega) (by simp;omega) ⟨sC rfl,?_⟩)
   repeat refine aa rfl ?_
   have hb3:g3+(k+1)=g3+k+1:=rfl
   refine⟨k+1,hlk,by omega,rfl,rfl,rfl,rfl,rfl,rfl,rfl,rfl,rfl,congrArg I hwk,rfl,rfl,rfl,?_,?_,trivial⟩
   ·rw[hrk,hb3]
    refine Eq.trans (b:=(g8,some (Cont.mk 71 7 [I xx::(eR XC++[.sl (xS.map eN),.als 300 (g3+k+1) 0 (E.map eR++[eR n]).length])] 2))) rfl ?_
    rw[show(E++[n]).map eR=E.map eR++[eR n] by rw[List.map_append];rfl]
   ·rw[hrk,hb3,show(E++[n]).map eR=E.map eR++[eR n] by rw[List.map_append];rfl]
    rfl
  ·have hke:k=xM.length:=by have:=of_decide_eq_false h;omega
   clear h
   subst hke
   rw[List.take_length]
   refine ay (Ghost.freezeD (k:=300) (k0:=8) (i:=0) (j:=6) (row:=I xx::(eR XC++[.sl (xS.map eN),.als 300 (g3+xM.length) 0 ((xM.map kq).map eR).length])) rfl rfl rfl rfl rfl rfl rfl rfl) ?_
   ((repeat ((fail_if_success (with_reducible refine aJ 11 ?_));refine cn rfl ?_));refine aB 1 ?_)
   refine aa rfl ?_
   refine aW ?_
   refine aK rfl (hcx.run rfl rfl ⟨rfl,rfl,rfl,rfl,trivial⟩ fun s3=>?_)
   refine aD ?_
   repeat refine aa rfl ?_
   refine ax (bt 1 rfl rfl rfl rfl rfl rfl rfl rfl rfl rfl rfl (by repeat' constructor) rfl ?_)
   repeat refine aa rfl ?_
   refine ax (bQ 1 rfl rfl rfl rfl rfl rfl rfl rfl rfl rfl rfl (by repeat' constructor) (by intro row hr;first|(simp at hr;subst hr;rfl)|simp at hr) rfl rfl (by simp;omega) (by simp;omega) ?_)
   repeat refine aa rfl ?_
   have hb4:1+(i+1)=1+i+1:=rfl
   refine⟨i+1,hlt,by omega,rfl,rfl,rfl,rfl,rfl,congrArg I hw,rfl,?_,?_,trivial⟩
   ·rw[hrow,hb4]
    refine Eq.trans (b:=(1,some (Cont.mk 29 6 [I w::(eR A0++[.als 400 (1+i+1) 0 (B.map eS++[eS y]).length])] 2))) ?_ ?_
    ·rw[hGx]
     rfl
    ·rw[show(B++[y]).map eS=B.map eS++[eS y] by rw[List.map_append];rfl]
   ·rw[hrow,hb4,show(B++[y]).map eS=B.map eS++[eS y] by rw[List.map_append];rfl,hGx]
    rfl
 ·have hie:i=l.length:=by have:=of_decide_eq_false h;omega
  clear h
  subst hie
  rw[List.take_length]
  refine ay (Ghost.freezeD (k:=400) (k0:=5) (i:=0) (j:=5) (row:=I w::(eR A0++[.als 400 (1+l.length) 0 ((l.map G).map eS).length])) rfl rfl rfl rfl rfl rfl rfl rfl) ?_
  repeat refine aa rfl ?_
  exact aG rfl rfl rfl
def zB:List PV:=I 0::(zN++[.nil])
def gx:BR:=⟨0,RR.zero,[]⟩
theorem WeakL.app {a b c d:List PV} (h1:WeakL a b) (h2:WeakL c d):WeakL (a++c) (b++d):=by
 induction h1 with
 |nil=>exact h2
 |cons h _ ih=>exact .cons h ih
theorem uA:WeakL zB (eB gx) := .cons (.rfl _) (fw.app (.cons .nil .nil))
set_option maxRecDepth 20000 in
theorem p5 (b:BR) (hb:b.Lim):Ret Tryz.prog .shared 68 [.agg (eB b)] (.tup [.agg (eB (if aX b=0 then b else gx)),I (aX b)]):=by
 have h1:=aV b hb
 by_cases h0:aX b=0
 ·rw[if_pos h0,h0]
  rw[h0]at h1
  refine Ret.of_pwp layOk mixed Go.Proofs.Tryz.func68 rfl (by decide) rfl rfl ?_
  repeat refine aa rfl ?_
  refine aS rfl rfl rfl h1 rfl rfl rfl ?_
  repeat refine aa rfl ?_
  exact aG rfl rfl rfl
 ·rw[if_neg h0]
  suffices hz:Ret Tryz.prog .shared 68 [.agg (eB b)] (.tup [.agg zB,I (aX b)]) from hz.weak (WeakL.refl _) (WeakL.tup (.cons uA.agg (WeakL.refl _)))
  generalize aX b=e at *
  refine Ret.of_pwp layOk mixed Go.Proofs.Tryz.func68 rfl (by decide) rfl rfl ?_
  repeat refine aa rfl ?_
  refine aS rfl rfl rfl h1 rfl rfl rfl ?_
  repeat refine aa rfl ?_
  refine ab rfl ?_ ?_<;>intro h
  ·clear h
   repeat refine aa rfl ?_
   exact aG rfl rfl rfl
  ·simp at h
   exact absurd h h0
def jq (b:BR) (m x:Int):Rat:=((b.w:Rat)*b.a.val+(m:Rat)*(x:Rat))/((b.w+m:Int):Rat)
def cd (b:BR) (m x:Int):BR:=⟨b.w+m,ofQ (jq b m x),b.l.map gv⟩
theorem tn {b:BR} {m x:Int} (hw:1≤b.w∧b.w≤1000000000) (ha:b.a.sz 3) (hm:0≤m∧m≤1000000000) (hx : -1000000≤x∧x≤1000000):hq (jq b m x) 8:=by
 have e:jq b m x=((b.w*b.a.n.val+m*x*b.a.d.den:Int):Rat)/((b.a.d.den*(b.w+m):Int):Rat):=by
  rw[jq,RR.val]
  have hd:((b.a.d.den:Int):Rat)≠0:=by have:=b.a.d.den_ne;exact_mod_cast this
  have hs:((b.w+m:Int):Rat)≠0:=by
   have:(b.w+m:Int)≠0:=by omega
   exact_mod_cast this
  push_cast at *
  generalize (b.a.d.den:Rat)=D at *
  generalize (b.a.n.val:Rat)=P at *
  generalize (b.w:Rat)=W at *
  generalize (m:Rat)=M at *
  grind
 have h1:=b.a.n.val_lt (n:=3) ha.1
 have h2:=b.a.d.den_lt (n:=3) ha.2 (by decide)
 have h3:=b.a.d.den_ne
 generalize b.a.d.den=D at *
 generalize b.a.n.val=P at *
 rw[e]
 rw[show 65536^3=281474976710656 by decide]at h1 h2
 have p1:(b.w*P).natAbs≤1000000000*281474976710656:=by rw[Int.natAbs_mul];exact Nat.mul_le_mul (by omega) (by omega)
 have p2:(m*x*D).natAbs≤1000000000*1000000*281474976710656:=by rw[Int.natAbs_mul,Int.natAbs_mul];exact Nat.mul_le_mul (Nat.mul_le_mul (by omega) (by omega)) (by omega)
 have p3:(D*(b.w+m)).natAbs≤281474976710656*2000000000:=by rw[Int.natAbs_mul];exact Nat.mul_le_mul (by omega) (by omega)
 have e8:65536^8=340282366920938463463374607431768211456:=by decide
 refine ko (Int.mul_ne_zero h3 (by omega)) ?_ ?_
 ·have:=Int.natAbs_add_le (b.w*P) (m*x*D)
  rw[e8]
  omega
 ·rw[e8]
  omega
set_option maxRecDepth 20000 in
theorem to (b:BR) (hb:b.Lim) (h0:aX b=0) (m x:Int) (hf:(m<0∨1000000000<m)∨(x < -1000000∨1000000<x)):Ret Tryz.prog .shared 20 [.agg (eB b),I m,I x] (.tup [.agg (eB gx),I 2]):=by
 have h1:=aV b hb
 rw[h0]at h1
 have h2:=fg x
 suffices hz:Ret Tryz.prog .shared 20 [.agg (eB b),I m,I x] (.tup [.agg zB,I 2]) from hz.weak (WeakL.refl _) (WeakL.tup (.cons uA.agg (WeakL.refl _)))
 refine Ret.of_pwp layOk mixed Go.Proofs.Tryz.func20 rfl (by decide) rfl rfl ?_
 repeat refine aa rfl ?_
 refine aS rfl rfl rfl h1 rfl rfl rfl ?_
 repeat refine aa rfl ?_
 refine dl rfl rfl rfl ?_ ?_<;>intro h
 ·clear h
  repeat refine aa rfl ?_
  exact aG rfl rfl rfl
 have g1:=of_decide_eq_false h
 clear h
 repeat refine aa rfl ?_
 refine dl rfl rfl rfl ?_ ?_<;>intro h
 ·clear h
  repeat refine aa rfl ?_
  exact aG rfl rfl rfl
 have g2:=of_decide_eq_false h
 clear h
 rw[decide_eq_true (hf.resolve_left (fun h=>h.elim (fun h=>g1 h) (fun h=>g2 h)))]at h2
 repeat refine aa rfl ?_
 refine aS rfl rfl rfl h2 rfl rfl rfl ?_
 repeat refine aa rfl ?_
 exact aG rfl rfl rfl
theorem fH {b:BR} (h0:aX b=0):1≤b.w∧b.w≤1000000000:=by
 have:=js h0
 exact⟨by omega,by omega⟩
set_option maxRecDepth 20000 in
theorem wO (b:BR) (hb:b.Lim) (h12:b.l.length≤1000) (hM:∀s∈b.l,s.k.M.length≤1000) (h0:aX b=0) (m x:Int) (hm:0≤m∧m≤1000000000) (hx : -1000000≤x∧x≤1000000) (hl:(cd b m x).Lim) :
  Ret Tryz.prog .shared 20 [.agg (eB b),I m,I x] (.tup [.agg (eB (if aX (cd b m x)=0 then cd b m x else gx)),I (aX (cd b m x))]):=by
 have h1:=aV b hb
 rw[h0]at h1
 have hw:=fH h0
 have h2:=fg x
 rw[decide_eq_false (by omega)]at h2
 have h3:=r8 b hb h12 hM 65 [] _root_.id (fun s _=>Au (gv s))
 have zw:Zb b.w:=aN hb.w.1 hb.w.2
 have zm:Zb m:=aN (by omega) (by omega)
 have zx:Zb x:=aN (by omega) (by omega)
 have zs:Zb (b.w+m):=aN (by omega) (by omega)
 have k1:=aL b.w ⟨by omega,by omega⟩
 have k2:=ec (ofQ (b.w:Rat)) b.a (hy:=hb.a.v) (by decide) (by decide)
 have v2:Vq (ofQ ((b.w:Rat)*b.a.val)) ((b.w:Rat)*b.a.val) (4+13):=Vq.ofQ (h:=@HQ.mul _ _ 4 13 HQ.int hb.a.v.hq)
 have k3:=aL m ⟨by omega,by omega⟩
 have k4:=aL x ⟨by omega,by omega⟩
 have k5:=ec (ofQ (m:Rat)) (ofQ (x:Rat)) (by decide) (by decide)
 have v5:Vq (ofQ ((m:Rat)*(x:Rat))) ((m:Rat)*(x:Rat)) (4+4):=Vq.ofQ (h:=@HQ.mul _ _ 4 4 HQ.int HQ.int)
 have k6:=dO (ofQ ((b.w:Rat)*b.a.val)) (ofQ ((m:Rat)*(x:Rat))) (hx:=v2) (hy:=v5) (by decide) (by decide)
 have v6:Vq (ofQ ((b.w:Rat)*b.a.val+(m:Rat)*(x:Rat))) ((b.w:Rat)*b.a.val+(m:Rat)*(x:Rat)) (4+13+(4+4)+1):=Vq.ofQ (h:=@HQ.add _ _ (4+13) (4+4) (cK v2) (cK v5))
 have k7:=aL (b.w+m) ⟨by omega,by omega⟩
 have k8:=mB (ofQ ((b.w:Rat)*b.a.val+(m:Rat)*(x:Rat))) (ofQ ((b.w+m:Int):Rat)) (hx:=v6) (by decide) (by decide) (by
  have:(b.w+m:Int)≠0:=by omega
  exact_mod_cast this)
 rw[show((b.w:Rat)*b.a.val+(m:Rat)*(x:Rat))/((b.w+m:Int):Rat)=jq b m x from rfl]at k8
 have hwm:IntKind.i64.wrap (b.w+m)=b.w+m:=wrap_i64 (by omega) (by omega)
 have k9:=p5 (cd b m x) hl
 have hcp:DX _root_.id b=⟨b.w,kq b.a,b.l.map gv⟩:=rfl
 have had:cd b m x=⟨b.w+m,ofQ (jq b m x),b.l.map gv⟩:=rfl
 rw[hcp]at h3
 generalize hE:aX (cd b m x)=e at *
 generalize hX:(if e=0 then cd b m x else gx)=X at *
 rw[had]at k9
 clear had hE hX hl hcp h0 hM h12 zw zm zx zs v2 v5 v6
 generalize ofQ (jq b m x)=A9 at *
 generalize ofQ ((b.w:Rat)*b.a.val+(m:Rat)*(x:Rat))=A6 at *
 generalize ofQ ((b.w:Rat)*b.a.val)=A2 at *
 generalize ofQ ((m:Rat)*(x:Rat))=A5 at *
 generalize ofQ ((b.w+m:Int):Rat)=A7 at *
 generalize ofQ (b.w:Rat)=A1 at *
 generalize ofQ (m:Rat)=A3 at *
 generalize ofQ (x:Rat)=A4 at *
 generalize b.l.map gv=L at *
 generalize kq b.a=A0 at *
 obtain⟨w,ba,l⟩:=b
 simp only at *
 refine Ret.of_pwp layOk mixed Go.Proofs.Tryz.func20 rfl (by decide) rfl rfl ?_
 repeat refine aa rfl ?_
 refine aS rfl rfl rfl h1 rfl rfl rfl ?_
 repeat refine aa rfl ?_
 refine dl rfl rfl rfl ?_ ?_<;>intro h
 ·have:=of_decide_eq_true h
  omega
 clear h
 repeat refine aa rfl ?_
 refine dl rfl rfl rfl ?_ ?_<;>intro h
 ·have:=of_decide_eq_true h
  omega
 clear h
 repeat refine aa rfl ?_
 refine aS rfl rfl rfl h2 rfl rfl rfl ?_
 repeat refine aa rfl ?_
 refine am rfl rfl rfl h3 rfl rfl ?_
 repeat refine aa rfl ?_
 refine aM 12 1 [30,31,32,33,34,35,36,37,38,39,40,41,10] [] (by decide +kernel) rfl ?_
 repeat refine aa rfl ?_
 refine am rfl rfl rfl k1 rfl rfl ?_
 repeat refine aa rfl ?_
 refine am rfl rfl rfl k2 rfl rfl ?_
 repeat refine aa rfl ?_
 refine am rfl rfl rfl k3 rfl rfl ?_
 repeat refine aa rfl ?_
 refine am rfl rfl rfl k4 rfl rfl ?_
 repeat refine aa rfl ?_
 refine am rfl rfl rfl k5 rfl rfl ?_
 repeat refine aa rfl ?_
 refine am rfl rfl rfl k6 rfl rfl ?_
 repeat refine aa rfl ?_
 rw[hwm]
 repeat refine aa rfl ?_
 refine mF [] [9] 6 [6] (by decide +kernel) (by decide +kernel) ?_
 repeat refine aa rfl ?_
 refine am rfl rfl rfl k7 rfl rfl ?_
 repeat refine aa rfl ?_
 refine am rfl rfl rfl k8 rfl rfl ?_
 repeat refine aa rfl ?_
 refine am rfl rfl rfl k9 rfl rfl ?_
 repeat refine aa rfl ?_
 exact aG rfl rfl rfl
open Go.Proofs Go.RowKit Go.Sort
theorem Chg.trans {w w1 w2:World} {b:Nat} {T:TypeId} {c1 c2:Array Value} (h1:Chg w w1 b T c1) (h2:Chg w1 w2 b T c2):Chg w w2 b T c2 :=
 ⟨h2.os.trans h1.os,h2.tape.trans h1.tape,h2.output.trans h1.output,Nat.le_trans h1.size h2.size,fun b' hne hb=>(h2.other b' hne (Nat.lt_of_lt_of_le hb h1.size)).trans (h1.other b' hne hb),h2.at_⟩
theorem Bx {l:List SR} {z t:Rat} {i:Nat} (hi:i<l.length):(FL l z t)[i]? = some (ofQ (fI l z t i)):=by
 rw[FL,List.getElem?_map,bq (d:=dS) hi];rfl
def DS (F:List RR) (n:Nat):Prop:=∀x∈F,x.le n
structure SameS (s t:SR):Prop where
 x:s.x=t.x
 c:s.c.val=t.c.val
 S:s.k.S=t.k.S
 n:s.k.M.length=t.k.M.length
 m:∀k,k<s.k.M.length→(s.k.M.getD k RR.zero).val=(t.k.M.getD k RR.zero).val
structure SameB (p q:BR):Prop where
 w:p.w=q.w
 a:p.a.val=q.a.val
 n:p.l.length=q.l.length
 s:∀i,i<p.l.length→SameS (p.l.getD i dS) (q.l.getD i dS)
def DF (b:BR) (m x:Int):BR:=⟨b.w+m,ofQ (jq b m x),b.l⟩
theorem vA {b:BR} (hb:ArgB b) (h:d6 b=true):b.Lim∧(aX b=0→b.Ok∧(bd b).Sz):=by
 rw[d6,Bool.and_eq_true,sV,pF]at h
 exact⟨⟨hb.w,h.2.mono (by decide),jm hb.data h.1 (by decide) (by decide)⟩,fun hc=>⟨yZ hb.w hb.data h.2 h.1 (by decide) (by decide) hc,y2 hb.w hb.data h.2 h.1 (by decide) (by decide) hc⟩⟩
theorem qj {α β:Type} (f:α→List β) (n:Nat):∀(l:List α),(∀x∈l,(f x).length≤n)→(l.flatMap f).length≤l.length*n
 |[],_=>by simp
 |x::l,h=>by
  have h1:=h x (by simp)
  have h2:=qj f n l fun y hy=>h y (by simp[hy])
  rw[List.flatMap_cons,List.length_append,List.length_cons,Nat.add_mul]
  omega
theorem nC {l:List SR} (h:l.length≤10) (h4:∀s∈l,s.k.S.length≤4) (t:Rat):(kf l t).length≤40:=by
 have h1:=qj (li t) 4 l fun s hs=>by rw[oT];exact h4 s hs
 rw[kf]
 omega
theorem ss {b:BR} (h:d6 b=true) (t:Rat):(kf b.l t).length≤40:=by
 rw[d6,Bool.and_eq_true,pF]at h
 exact nC h.1.1 (fun s hs=>(h.1.2 s hs).1) t
theorem kr {b:BR} (hb:ArgB b) (h:d6 b=true):b.Good:=by
 obtain⟨h1,h2⟩:=vA hb h
 exact⟨h1,fun h0=>⟨(h2 h0).1,(h2 h0).2,ss h⟩⟩
def C_ (b:BR):Prop:=∀z t,¬(bd b).Bal z t
inductive Said (b:BR):Prop
 |none (r:AR) (e:Int) (he:e=12∨e=13) (hr:ct b r=true) (hv:Va r r.z.val r.t.val 4 4) (hn:C_ b) (h1:fa b=⟨zA,[],r,e⟩) (h2:bV b=([],e))
 |loose (z t:Rat) (hn:dN b) (hb:(bd b).Bal z t) (hz:HQ z 24000) (ht:HQ t 20000) (h1:fa b=⟨zA,[],zA,14⟩) (h2:bV b=(FL b.l z t,0))
 |one (z t:Rat) (hn:dN b) (hb:(bd b).Bal z t) (hz:HQ z 24000) (ht:HQ t 20000) (hu:∀z' t',(bd b).Bal z' t'→z'=z∧t'=t) (h1:fa b=⟨⟨ofQ z,ofQ t⟩,FL b.l z t,zA,0⟩) (h2:bV b=(FL b.l z t,0))
structure Raised (u:Rat) (b c:BR):Prop where
 n:c.l.length=b.l.length
 x:∀i,i<b.l.length→(c.l.getD i dS).x=(b.l.getD i dS).x
 S:∀i,i<b.l.length→(c.l.getD i dS).k.S=(b.l.getD i dS).k.S
 m:∀i,i<b.l.length→(c.l.getD i dS).k.m=(b.l.getD i dS).k.m
 cc:∀i,i<b.l.length→(c.l.getD i dS).c.val=(b.l.getD i dS).c.val+u
 w:c.w=b.w
 a:c.a.val=b.a.val
variable {u:Rat} {b c:BR}
theorem Raised.s (h:Raised u b c) {i:Nat} (hi:i<b.l.length):(c.l.getD i dS).k.s=(b.l.getD i dS).k.s:=by
 funext k
 rw[CR.s,CR.s,h.S i hi]
theorem Raised.f (h:Raised u b c) {z t:Rat} {i:Nat} (hi:i<b.l.length):(bd c).f (z-u) t i=(bd b).f z t i:=by
 have e:(bd c).y (z-u) t i=(bd b).y z t i:=by
  show(c.l.getD i dS).c.val+(z-u+t*((c.l.getD i dS).x:Rat))=(b.l.getD i dS).c.val+(z+t*((b.l.getD i dS).x:Rat))
  rw[h.cc i hi,h.x i hi]
  grind
 show dD (c.l.getD i dS).k.S.length (c.l.getD i dS).k.s (c.l.getD i dS).k.m ((bd c).y (z-u) t i)=dD (b.l.getD i dS).k.S.length (b.l.getD i dS).k.s (b.l.getD i dS).k.m ((bd b).y z t i)
 rw[e,h.S i hi,h.s hi,h.m i hi]
theorem Raised.FL (h:Raised u b c) {z t:Rat}:FL c.l (z-u) t=FL b.l z t:=by
 refine List.ext_getElem? fun i=>?_
 by_cases hi:i<b.l.length
 ·rw[Bx hi,Bx (show i<c.l.length by rw[h.n];exact hi)]
  exact congrArg (fun q=>some (ofQ q)) (h.f hi)
 ·rw[List.getElem?_eq_none (by rw[Go.Pv.FL,List.length_map,h.n];omega),List.getElem?_eq_none (by rw[Go.Pv.FL,List.length_map];omega)]
inductive SaidUp (u:Rat) (b c:BR):Prop
 |none (r:AR) (e:Int) (he:e=12∨e=13) (hv:Va r r.z.val r.t.val 4 4) (h1:fa b=⟨zA,[],r,e⟩) (h2:bV b=([],e)) (h3:fa c=⟨zA,[],r,e⟩) (h4:bV c=([],e))
 |loose (F:List RR) (hF:DS F 1000000) (hl:F.length≤1000) (h1:fa b=⟨zA,[],zA,14⟩) (h2:bV b=(F,0)) (h3:fa c=⟨zA,[],zA,14⟩) (h4:bV c=(F,0))
 |one (z t:Rat) (F:List RR) (hF:DS F 1000000) (hl:F.length≤1000) (hz:HQ z 24000) (ht:HQ t 20000) (h1:fa b=⟨⟨ofQ z,ofQ t⟩,F,zA,0⟩) (h2:bV b=(F,0)) (h3:fa c=⟨⟨ofQ (z-u),ofQ t⟩,F,zA,0⟩) (h4:bV c=(F,0))
end Go.Pv
set_option maxHeartbeats 2000000
namespace Go.Pv
attribute [local irreducible] PWP POps PQuiet PSem ar ao ai ah
open Go.Proofs
theorem qn {f:SR→SR} {l:List SR} {i:Nat} (hi:i<l.length):(l.map f).getD i dS=f (l.getD i dS):=by
 rw[List.getD_eq_getElem?_getD,List.getElem?_map,bq (d:=dS) hi];rfl
theorem pc (x:RR):(kq x).val=x.val:=ofQ_val _
theorem Ae (S:List Int) (M:List RR):(CR.mk S (M.map kq)).m=(CR.mk S M).m:=by
 funext k
 show((M.map kq).getD k RR.zero).val=(M.getD k RR.zero).val
 rw[List.getD_eq_getElem?_getD,List.getD_eq_getElem?_getD,List.getElem?_map]
 cases M[k]? with
 |none=>rfl
 |some x=>exact pc x
theorem BJ {q:Rat} {n m:Nat} (h:hq q n) (hm:n≤m):(ofQ q).sz m:=by
 have:=dE h
 exact⟨by omega,by omega⟩
structure ShB (b:BR):Prop where
 w:i64 b.w
 data:nt b.l
 a:b.a.sz 3
 l:iI b.l 10 4
theorem pd {b:BR} (hb:ArgB b) (h:d6 b=true):ShB b:=by
 rw[d6,Bool.and_eq_true,sV,pF]at h
 exact⟨hb.w,hb.data,h.2,h.1⟩
theorem BQ {x:RR} (h:x.sz 3):(kq x).sz 12:=BJ (uo h) (by decide)
theorem Cj {b:BR} (h:ShB b) {x:SR} (hx:x∈b.l):(gv x).Lim:=by
 obtain⟨h1,h2,h3,h4⟩:=h.l.2 x hx
 obtain⟨d1,d2⟩:=h.data x hx
 refine⟨d1,BQ h3,d2,fun m hm=>?_,?_,?_⟩
 ·obtain⟨y,hy,rfl⟩:=List.mem_map.1 (show m∈x.k.M.map kq from hm)
  exact BQ (h4 y hy)
 ·show x.k.S.length≤_
  omega
 ·show(x.k.M.map kq).length≤_
  rw[List.length_map];omega
theorem mR {b:BR} (h:ShB b):b.Lim:=⟨h.w,h.a.mono (by decide),jm h.data h.l (by decide) (by decide)⟩
theorem Ax {b:BR} (h:ShB b) {f:SR→SR} (hf:∀x∈b.l,(f x).Lim):gp (b.l.map f):=by
 refine⟨fun s hs=>?_,by rw[List.length_map];have:=h.l.1;omega⟩
 obtain⟨x,hx,rfl⟩:=List.mem_map.1 hs
 exact hf x hx
theorem oJ {b:BR} (h:ShB b) (hw:1≤b.w∧b.w≤1000000000) {m x:Int} (hm:0≤m∧m≤1000000000) (hx : -1000000≤x∧x≤1000000):(cd b m x).Lim∧(DF b m x).Lim:=by
 have ha:(ofQ (jq b m x)).sz 12:=BJ (tn hw h.a hm hx) (by decide)
 have hw:i64 (b.w+m):=⟨by omega,by omega⟩
 exact⟨⟨hw,ha,Ax h fun x hx=>Cj h hx⟩,⟨hw,ha,(mR h).l⟩⟩
theorem zJ:gx.Lim:=⟨⟨by decide,by decide⟩,⟨Nat.zero_le _,Nat.zero_le _⟩,⟨(fun s hs=>by cases hs),Nat.zero_le _⟩⟩
structure Both (f g:FuncId) (args:List PV):Prop where
 run:∃(p q:BR) (e:Int),Ret Tryz.prog .shared f args (.tup [.agg (eB p),I e])∧Ret Tryz.prog .shared g args (.tup [.agg (eB q),I e])∧Ret Tryz.prog .shared 37 [.agg (eB p),.agg (eB q)] (.bool true)
theorem yX {b:BR} (h:ShB b):b.l.length≤1000∧∀s∈b.l,s.k.M.length≤1000∧s.k.S.length≤1000 :=
 ⟨by have:=h.l.1;omega,fun s hs=>by have:=h.l.2 s hs;exact⟨by have:=this.2.1;omega,by have:=this.1;omega⟩⟩
def kt:List Rat→Option Rat
 |[]=>none
 |x::l=>some (match kt l with
  |none=>x
  |some y=>if x<y then x else y)
theorem ku {l:List Rat}:kt l=none↔l=[]:=by cases l<;>simp[kt]
theorem dF:∀ {l:List Rat} {m:Rat},kt l=some m↔m∈l∧∀x∈l,m≤x
 |[],m=>by simp[kt]
 |x::l,m=>by
  rw[kt]
  cases h:kt l with
  |none =>
   have:=ku.1 h
   subst this
   simp only[Option.some.injEq,List.mem_singleton,forall_eq]
   constructor
   ·rintro rfl;exact⟨rfl,Rat.le_refl⟩
   ·rintro⟨rfl,_⟩;rfl
  |some y =>
   obtain⟨h1,h2⟩:=dF.1 h
   simp only[Option.some.injEq,List.mem_cons]
   constructor
   ·rintro rfl
    split
    ·rename_i hlt
     refine⟨.inl rfl,fun z hz=>?_⟩
     rcases hz with rfl|hz
     ·exact Rat.le_refl
     ·have:=h2 z hz;grind
    ·rename_i hlt
     refine⟨.inr h1,fun z hz=>?_⟩
     rcases hz with rfl|hz
     ·grind
     ·exact h2 z hz
   ·rintro⟨h3,h4⟩
    have h5:=h4 x (.inl rfl)
    have h6:=h4 y (.inr h1)
    split
    ·rcases h3 with rfl|h3
     ·rfl
     ·have:=h2 m h3;grind
    ·rcases h3 with rfl|h3
     ·grind
     ·have:=h2 m h3;grind
theorem x8 {l m:List Rat} (h:∀x,x∈l↔x∈m):kt l=kt m:=by
 cases hl:kt l with
 |none =>
  have e:=ku.1 hl
  subst e
  have:m=[]:=List.eq_nil_iff_forall_not_mem.2 fun x hx=>by have:=(h x).2 hx;cases this
  subst this;rfl
 |some x =>
  obtain⟨h1,h2⟩:=dF.1 hl
  exact(dF.2 ⟨(h x).1 h1,fun y hy=>h2 y ((h y).2 hy)⟩).symm
theorem vB {l:List Rat} {x:Rat}:kt (l++[x])=some (match kt l with
  |none=>x
  |some y=>if x<y then x else y):=by
 rw[x8 (m:=x::l) (fun z=>by simp[or_comm])]
 rfl
theorem Ar {A:List Int} {x:Int} {j:Nat} (hA:A.Pairwise (·<·)) (h1:∀y∈A.take j,y<x) (h2:∀y∈A.drop j,x<y):(A.take j++[x]++A.drop j).Pairwise (·<·):=by
 have h3:=hA.sublist (List.take_sublist j A)
 have h4:=hA.sublist (List.drop_sublist j A)
 rw[List.pairwise_append,List.pairwise_append]
 refine⟨⟨h3,List.pairwise_singleton _ _,fun a ha b hb=>?_⟩,h4,fun a ha b hb=>?_⟩
 ·rw[List.mem_singleton.1 hb];exact h1 a ha
 ·have hb2:=h2 b hb
  rcases List.mem_append.1 ha with ha|ha
  ·have:=h1 a ha;omega
  ·rw[List.mem_singleton.1 ha];exact hb2
theorem At {A:List Int} {x:Int} {j:Nat} (z:Int):z∈A.take j++[x]++A.drop j↔z∈A∨z=x:=by
 have h:z∈A↔z∈A.take j∨z∈A.drop j:=by rw[←List.mem_append,List.take_append_drop]
 rw[h];simp only[List.mem_append,List.mem_singleton]
 constructor
 ·rintro((q|q)|q)
  ·exact .inl (.inl q)
  ·exact .inr q
  ·exact .inl (.inr q)
 ·rintro((q|q)|q)
  ·exact .inl (.inl q)
  ·exact .inr q
  ·exact .inl (.inr q)
theorem As {A:List Int} {x:Int} {j:Nat}:(A.take j++[x]++A.drop j).length=A.length+1:=by simp;omega
def PlInv (l:List SR) (i:Nat) (A:List Int):Prop:=A.length≤i∧A.Pairwise (·<·)∧∀x,x∈A↔∃s∈l.take i,s.x=x
theorem CD {l:List SR} {i:Nat} {s:SR} (hs:l[i]? = some s) (x:Int):(∃q∈l.take (i+1),q.x=x)↔(∃q∈l.take i,q.x=x)∨x=s.x:=by
 rw[cu hs]
 constructor
 ·rintro⟨q,hq,rfl⟩
  rcases List.mem_append.1 hq with hq|hq
  ·exact .inl ⟨q,hq,rfl⟩
  ·rw[List.mem_singleton.1 hq];exact .inr rfl
 ·rintro(⟨q,hq,rfl⟩|rfl)
  ·exact⟨q,List.mem_append_left _ hq,rfl⟩
  ·exact⟨s,List.mem_append_right _ (List.mem_singleton_self _),rfl⟩
theorem PlInv.more {l:List SR} {i:Nat} {A:List Int} {s:SR} (h:PlInv l i A) (hs:l[i]? = some s) {j:Nat} (g1:∀y∈A.take j,y<s.x) (g2:∀y∈A.drop j,s.x<y):PlInv l (i+1) (A.take j++[s.x]++A.drop j):=by
 obtain⟨h1,h2,h3⟩:=h
 refine⟨by rw[As];omega,Ar h2 g1 g2,fun x=>?_⟩
 rw[At,CD hs,←h3]
noncomputable def kY (b:BR) (x:Int) (A B:Rat):Option Rat:=@ite _ (0<A+B*(x:Rat)∧cB b.l A B b.l.length) (Classical.propDecidable _) (some ((ag (yT b.l A B) b.l.length-(b.w:Rat)*(A+B*b.a.val))/(A+B*(x:Rat)))) none
theorem uc {b:BR} {x:Int} {A B:Rat} (h:¬(0<A+B*(x:Rat)∧cB b.l A B b.l.length)):kY b x A B=none:=by rw[kY,if_neg h]
theorem rh {b:BR} {x:Int} {A B:Rat} (h:0<A+B*(x:Rat)∧cB b.l A B b.l.length):kY b x A B=some ((ag (yT b.l A B) b.l.length-(b.w:Rat)*(A+B*b.a.val))/(A+B*(x:Rat))):=by rw[kY,if_pos h]
set_option maxRecDepth 20000 in
theorem rO {K:St→Prop} {s:St} {d g2 g3 g4:Nat} {R2 R3 R4:Cont} {x:Operand} {tys:Array TypeId} {ty:TypeId} {pos:String} {af:Array Edge} (l:List SR) (hl:gp l) (h12:l.length≤1000) (hck:bR l=0)
  (hx:s.ev x = .sl (l.map eS)) (ho:FitO s [(2,g2,R2),(1003,g3,R3),(1004,g4,R4)])
  (hK:∀(s1:St) (g:Nat),K (({ reg:=s.reg,own:=(s1.over [] [(2,g2,R2),(1003,g3,R3),(1004,g4,R4),(3,g,⟨38,8,(bj l).map eA,1⟩)]).own }:St).putR d (.als 3 g 0 ((bj l).map eA).length))) :
  Sm Tryz.prog lay.get s ⟨some d,.call ⟨.value (.func 56),#[x],tys⟩,ty,pos,af,none⟩ K:=by
 have hp:=ja l hl h12
 have hrg:∀x∈bm l,-1000000≤x∧x≤1000000:=fun x hx=>dQ hck hx
 have hpl:=dI l
 have w1:=aL 1 ⟨by decide,by decide⟩
 have w2:=aL (-1) ⟨by decide,by decide⟩
 rw[bj]at hK
 generalize bm l=Pl at *
 have hml:(Pl.map eN).length=Pl.length:=by simp
 have hrows:∀(k:Nat) x,Pl[k]? = some x→((Pl.take (k+1)).map ga).map eA=((Pl.take k).map ga).map eA++[eA (ga x)]:=fun k x hx=>by rw[b0 hx,List.map_append,List.map_append];rfl
 have hrows2:∀(k:Nat) x,Pl[k]? = some x→(Pl.map ga++(Pl.take (k+1)).map nh).map eA=(Pl.map ga++(Pl.take k).map nh).map eA++[eA (nh x)]:=fun k x hx=>by rw[b0 hx];simp[List.map_append]
 refine bE layOk rfl rfl Tryz.func56 rfl (by decide) rfl rfl ?_
 show PWP _ _ _ _ (aQ s (([x]:List Operand).map s.ev++[]))
 rw[show(([x]:List Operand).map s.ev++([]:List PV))=[.sl (l.map eS)] by simp[hx]]
 rw[show aQ s [.sl (l.map eS)]=aQ (s.over [] [(2,g2,R2),(1003,g3,R3),(1004,g4,R4)]) [.sl (l.map eS)] by rw[Fit.over (l:=[]) ho]]
 ((repeat (first|refine aW ?_ | refine bZ ?_ | refine bY ?_ | refine bU ?_));refine aZ ?_)
 refine gL rfl trivial ?_
 ((repeat (first|refine aW ?_ | refine bZ ?_ | refine bY ?_ | refine bU ?_));refine aZ ?_)
 (first|refine ax (eP 38 8 1 rfl rfl ?_)|refine ax (eO 38 8 1 rfl rfl ?_))
 repeat refine aa rfl ?_
 refine am rfl rfl rfl hp rfl rfl ?_
 repeat refine aa rfl ?_
 refine fp [(0,.sl (l.map eS)),(3,.als 3 ((s.own 3).1+1) 0 0),(9,.sl (Pl.map eN)),(10,I (Pl.map eN).length),(11,I ((0:Nat):Int))] [(2,g2,R2),(1003,g3,R3),(1004,g4,R4),(3,(s.own 3).1+1,⟨38,8,[],1⟩)] ⟨rfl,rfl,rfl,rfl,rfl,rfl,rfl,rfl,rfl,trivial⟩ ?_
 generalize (s.own 3).1+1=g
 rw[hml]
 intro s0
 refine aq (fun k=>k≤Pl.length) (fun k=>[(0,.sl (l.map eS)),(3,.als 3 (g+k) 0 (((Pl.take k).map ga).map eA).length),(9,.sl (Pl.map eN)),(10,I Pl.length),(11,I k)]) (fun k=>[(2,g2,R2),(1003,g3,R3),(1004,g4,R4),(3,g+k,⟨38,8,((Pl.take k).map ga).map eA,1⟩)]) (fun k=>Pl.length-k) 0 (Nat.zero_le _) ⟨rfl,rfl,rfl,rfl,rfl,rfl,rfl,rfl,rfl,trivial⟩ ?_
 intro k s1 hk
 repeat refine aa rfl ?_
 refine ab rfl ?_ ?_<;>intro h
 ·have hlt:k<Pl.length:=by have:=of_decide_eq_true h;omega
  clear h
  obtain⟨x,hx⟩:=aI hlt
  have hr:=hrg x (List.mem_of_getElem? hx)
  have hnx:=aL (-x) ⟨by omega,by omega⟩
  have hw:=iA k
  have hn:IntKind.i64.wrap (0-x) = -x:=by rw[wrap_i64 (by omega) (by omega)];omega
  repeat refine aa rfl ?_
  refine bT rfl rfl rfl rfl rfl rfl rfl hx rfl ?_
  repeat refine aa rfl ?_
  rw[hn]
  refine am rfl rfl rfl hnx rfl rfl ?_
  repeat refine aa rfl ?_
  refine am rfl rfl rfl w1 rfl rfl ?_
  repeat refine aa rfl ?_
  refine ax (bt 1 rfl rfl rfl rfl rfl rfl rfl rfl rfl rfl rfl (by repeat' constructor) rfl ?_)
  repeat refine aa rfl ?_
  refine ax (bQ 1 rfl rfl rfl rfl rfl rfl rfl rfl rfl rfl rfl (by repeat' constructor) (by intro row hr;first|(simp at hr;subst hr;rfl)|simp at hr) rfl rfl (by simp;omega) (by simp;omega) ?_)
  repeat refine aa rfl ?_
  refine⟨k+1,hlt,by omega,rfl,?_,rfl,rfl,congrArg I hw,rfl,rfl,rfl,?_,trivial⟩
  ·rw[hrows k x hx];rfl
  ·rw[hrows k x hx];rfl
 ·have hge:k=Pl.length:=by have:=of_decide_eq_false h;omega
  subst hge
  clear h
  rw[List.take_length]
  repeat refine aa rfl ?_
  refine am rfl rfl rfl hp rfl rfl ?_
  repeat refine aa rfl ?_
  refine aq (fun k=>k≤Pl.length) (fun k=>[(3,.als 3 (g+Pl.length+k) 0 ((Pl.map ga++(Pl.take k).map nh).map eA).length),(25,.sl (Pl.map eN)),(26,I Pl.length),(27,I k)]) (fun k=>[(2,g2,R2),(1003,g3,R3),(1004,g4,R4),(3,g+Pl.length+k,⟨38,8,(Pl.map ga++(Pl.take k).map nh).map eA,1⟩)]) (fun k=>Pl.length-k) 0 (Nat.zero_le _) ⟨by rw[List.take_zero,List.map_nil,List.append_nil];rfl,rfl,by rw[←hml];rfl,rfl,rfl,rfl,rfl,by rw[List.take_zero,List.map_nil,List.append_nil];rfl,trivial⟩ ?_
  intro k s2 hk
  repeat refine aa rfl ?_
  refine ab rfl ?_ ?_<;>intro h
  ·have hlt:k<Pl.length:=by have:=of_decide_eq_true h;omega
   clear h
   obtain⟨x,hx⟩:=aI hlt
   have hr:=hrg x (List.mem_of_getElem? hx)
   have hnx:=aL x ⟨by omega,by omega⟩
   have hw:=iA k
   repeat refine aa rfl ?_
   refine bT rfl rfl rfl rfl rfl rfl rfl hx rfl ?_
   repeat refine aa rfl ?_
   refine am rfl rfl rfl hnx rfl rfl ?_
   repeat refine aa rfl ?_
   refine am rfl rfl rfl w2 rfl rfl ?_
   repeat refine aa rfl ?_
   refine ax (bt 1 rfl rfl rfl rfl rfl rfl rfl rfl rfl rfl rfl (by repeat' constructor) rfl ?_)
   repeat refine aa rfl ?_
   refine ax (bQ 1 rfl rfl rfl rfl rfl rfl rfl rfl rfl rfl rfl (by repeat' constructor) (by intro row hr;first|(simp at hr;subst hr;rfl)|simp at hr) rfl rfl (by simp;omega) (by simp;omega) ?_)
   repeat refine aa rfl ?_
   refine⟨k+1,hlt,by omega,?_,rfl,rfl,congrArg I hw,rfl,rfl,rfl,?_,trivial⟩
   ·rw[hrows2 k x hx];rfl
   ·rw[hrows2 k x hx];rfl
  ·have hge:k=Pl.length:=by have:=of_decide_eq_false h;omega
   subst hge
   clear h
   rw[List.take_length]
   repeat refine aa rfl ?_
   exact ly rfl rfl (hK s2 (g+Pl.length+Pl.length))
noncomputable def rU (b:BR) (x:Int) (d:AR):Option Rat:=kY b x d.z.val d.t.val
noncomputable def b5 (b:BR) (x:Int) (L:List AR):Option Rat:=kt (L.filterMap (rU b x))
def mC:Option Rat→List PV
 |none=>zN
 |some y=>eR (ofQ y)
theorem yH {b:BR} (hb:b.Ok) {x:Int} (hx:i64 x) {d:AR} (hd:Va d d.z.val d.t.val 4 4) {v:Rat} (h:rU b x d=some v):HQ v 10000:=by
 have h12:=hb.few.1
 have zx:Zb x:=aN hx.1 hx.2
 have zw:Zb b.w:=aN hb.lim.w.1 hb.lim.w.2
 rw[rU,kY]at h
 split at h
 ·rename_i hc
  rw[←Option.some.inj h]
  have hs:=bh (m:=215) b.l.length fun k hk=>(uz hb.lim.l hb.few hd.z.hq hd.t.hq hk (hc.2 k hk)).mono (by decide)
  have hw:=@HQ.mul _ _ 4 _ (HQ.int (z:=b.w)) (@HQ.add _ _ (4+1) _ hd.z.hq (@HQ.mul _ _ (4+1) 13 hd.t.hq hb.lim.a.v.hq))
  have hp:=@HQ.add _ _ (4+1) _ hd.z.hq (@HQ.mul _ _ (4+1) 4 hd.t.hq (HQ.int (z:=x)))
  exact(@HQ.div _ _ _ _ (@HQ.sub _ _ _ _ hs hw) hp).mono (by omega)
 ·cases h
theorem uP (b:BR) (x:Int) (L:List AR) (d:AR):b5 b x (L++[d])=match rU b x d with
  |none=>b5 b x L
  |some v=>some (match b5 b x L with
   |none=>v
   |some y=>if v<y then v else y):=by
 cases h:rU b x d with
 |none=>rw[b5,List.filterMap_append,show List.filterMap (rU b x) [d]=[] by simp[h],List.append_nil];rfl
 |some v=>rw[b5,List.filterMap_append,show List.filterMap (rU b x) [d]=[v] by simp[h],vB];rfl
theorem tt {b:BR} (hb:b.Ok) {x:Int} (hx:i64 x) {L:List AR} (hL:∀d∈L,Va d d.z.val d.t.val 4 4) {y:Rat} (h:b5 b x L=some y):HQ y 10000:=by
 obtain⟨d,hd,e⟩:=List.mem_filterMap.1 (dF.1 h).1
 exact yH hb hx (hL d hd) e
def cC (l:List SR):List AR:=bj l++[bM]
theorem p_ {l:List SR} (hck:bR l=0) {r:AR} (h:r∈cC l):Va r r.z.val r.t.val 4 4:=by
 rw[cC,List.mem_append]at h
 rcases h with h|h
 ·exact pJ hck h
 ·rw[List.mem_singleton.1 h];exact o0
theorem AS (b:BR) (hb:b.Ok) (x:Int) (hx:x < -1000000∨1000000<x):Ret Tryz.prog .shared 19 [.agg (eB b),I x] (.tup [.agg zN,.bool false,I 2]):=by
 have h1:=aV b hb.lim
 rw[hb.chk]at h1
 have h2:=fg x
 rw[decide_eq_true hx]at h2
 refine Ret.of_pwp layOk mixed Go.Proofs.Tryz.func19 rfl (by decide) rfl rfl ?_
 repeat refine aa rfl ?_
 refine aS rfl rfl rfl h1 rfl rfl rfl ?_
 repeat refine aa rfl ?_
 refine aS rfl rfl rfl h2 rfl rfl rfl ?_
 repeat refine aa rfl ?_
 exact aG rfl rfl rfl
theorem t_ (b:BR) (hb:b.Ok) (x:Int) (hx:¬(x < -1000000∨1000000<x)) (r:AR) (e:Int) (he:e≠0) (h93:Ret Tryz.prog .shared 44 [.agg (eB b)] (.tup [.agg (eA r),I e])):Ret Tryz.prog .shared 19 [.agg (eB b),I x] (.tup [.agg zN,.bool false,I e]):=by
 have h1:=aV b hb.lim
 rw[hb.chk]at h1
 have h2:=fg x
 rw[decide_eq_false hx]at h2
 refine Ret.of_pwp layOk mixed Go.Proofs.Tryz.func19 rfl (by decide) rfl rfl ?_
 repeat refine aa rfl ?_
 refine aS rfl rfl rfl h1 rfl rfl rfl ?_
 repeat refine aa rfl ?_
 refine aS rfl rfl rfl h2 rfl rfl rfl ?_
 repeat refine aa rfl ?_
 refine am rfl rfl rfl h93 rfl rfl ?_
 repeat refine aa rfl ?_
 refine ab rfl ?_ ?_<;>intro h
 ·clear h
  repeat refine aa rfl ?_
  exact aG rfl rfl rfl
 ·exfalso
  simp at h
  exact he h
theorem AG {r1:List PV} {n:Nat} (h1:r1.length=n):∀row∈[r1],row.length=n:=by
 intro row hr
 rw[List.mem_singleton.1 hr];exact h1
set_option maxRecDepth 20000 in
theorem CG (b:BR) (hb:b.Ok) (x:Int) (hx:¬(x < -1000000∨1000000<x)) (h93:Ret Tryz.prog .shared 44 [.agg (eB b)] (.tup [.agg (zN++zN),I 0])):Ret Tryz.prog .shared 19 [.agg (eB b),I x] (.tup [.agg (mC (b5 b x (cC b.l))),.bool (b5 b x (cC b.l)).isSome,I 0]):=by
 have h1:=aV b hb.lim
 rw[hb.chk]at h1
 have h2:=fg x
 rw[decide_eq_false hx]at h2
 have hx64:i64 x:=⟨by omega,by omega⟩
 have hl:=hb.lim.l
 have hck:=hb.chkL
 have h12:=hb.few.1
 have hlen:(cC b.l).length≤1000:=by
  have:=dI b.l
  rw[cC,bj];simp;omega
 have w1:=aL 1 ⟨by decide,by decide⟩
 have w0:=aL 0 ⟨by decide,by decide⟩
 have wx:=aL x hx64
 have zx:Zb x:=aN hx64.1 hx64.2
 have zw:Zb b.w:=aN hb.lim.w.1 hb.lim.w.2
 have hT:(bj b.l).length≤1000:=by rw[cC]at hlen;simp at hlen;omega
 have hrow:(bj b.l).map eA++[eA bM]=(cC b.l).map eA:=by rw[cC,List.map_append];rfl
 have hrl:((cC b.l).map eA).length=(cC b.l).length:=by simp
 refine Ret.of_pwp layOk mixed Go.Proofs.Tryz.func19 rfl (by decide) rfl rfl ?_
 repeat refine aa rfl ?_
 refine aS rfl rfl rfl h1 rfl rfl rfl ?_
 repeat refine aa rfl ?_
 refine aS rfl rfl rfl h2 rfl rfl rfl ?_
 repeat refine aa rfl ?_
 refine am rfl rfl rfl h93 rfl rfl ?_
 (repeat ((fail_if_success (with_reducible refine aJ 11 ?_));refine cn rfl ?_))
 refine ay (Ghost.move (k:=4) (k':=1003) (t:=4) rfl rfl rfl rfl) ?_
 refine ay (Ghost.move (k:=11) (k':=1004) (t:=11) rfl rfl rfl rfl) ?_
 ((repeat ((fail_if_success (with_reducible refine aJ 11 ?_));refine cn rfl ?_));refine aB 2 ?_)
 iterate 2 refine aa rfl ?_
 refine aW ?_
 refine aK rfl (rO (g2:=1) b.l hl (by omega) hck rfl ⟨rfl,rfl,rfl,trivial⟩ fun s1 g=>?_)
 refine aD ?_
 repeat refine aa rfl ?_
 refine am rfl rfl rfl w1 rfl rfl ?_
 repeat refine aa rfl ?_
 refine am rfl rfl rfl w0 rfl rfl ?_
 repeat refine aa rfl ?_
 refine ax (bt 1 rfl rfl rfl rfl rfl rfl rfl rfl rfl rfl rfl (by repeat' constructor) rfl ?_)
 repeat refine aa rfl ?_
 refine ax (bQ 1 rfl rfl rfl rfl rfl rfl rfl rfl rfl rfl rfl (by repeat' constructor) (AG rfl) rfl rfl (by simp;omega) (by simp;omega) ?_)
 repeat refine aa rfl ?_
 generalize hD:cC b.l=D at *
 have hva:∀d∈D,Va d d.z.val d.t.val 4 4:=fun d hd=>p_ hck (by rw[hD];exact hd)
 refine aq (fun i:Nat=>i≤D.length) (fun i=>[(1,I x),(2,.ptr 2 1 0 0),(4,.ptr 1003 1 0 0),(10,.bool (b5 b x (D.take i)).isSome),(11,.ptr 1004 1 0 0),(43,.als 3 (g+1) 0 (D.map eA).length),(44,I D.length),(45,I (i:Nat))])
  (fun i=>[(2,1,⟨29,6,[eB b],2⟩),(1003,1,⟨26,4,[zN],2⟩),(1004,1,⟨26,4,[mC (b5 b x (D.take i))],2⟩),(3,g+1,⟨38,8,D.map eA,1⟩)]) (fun i=>D.length-i) 0 (Nat.zero_le _) ⟨rfl,rfl,rfl,rfl,rfl,by rw[←hrow];rfl,by rw[←hrl,←hrow];rfl,rfl,rfl,rfl,rfl,by rw[←hrow];rfl,trivial⟩ ?_
 intro i s hi
 repeat refine aa rfl ?_
 refine ab rfl ?_ ?_<;>intro h
 ·have hlt:i<D.length:=by have:=of_decide_eq_true h;omega
  clear h
  obtain⟨d,hd⟩:=aI hlt
  have hdm:=List.mem_of_getElem? hd
  have hdv:=hva d hdm
  have hgr:(D.map eA)[0+((i:Nat):Int).toNat]? = some (eA d):=by rw[Nat.zero_add,Int.toNat_natCast,List.getElem?_map,hd];rfl
  have hw:=iA i
  have hsn:=uP b x (D.take i) d
  rw[←cu hd]at hsn
  have hmq:∀y,b5 b x (D.take i)=some y→HQ y 10000:=fun y hy=>tt hb hx64 (fun q hq=>hva q (List.mem_of_mem_take hq)) hy
  have e1:=oE b.l hl hb.few hck d hdv (by decide) (by decide)
  have e2:=iO 1 ⟨by decide,by decide⟩ (ofQ (x:Rat)) d (p:=(x:Rat)) (Vq.ofQ (h:=HQ.int (z:=x))) hdv (by decide) (by decide) (by decide)
  rw[show(((1:Int)):Rat)*(d.z.val+d.t.val*(x:Rat))=d.z.val+d.t.val*(x:Rat) by rw[show(((1:Int)):Rat)=1 from rfl,Rat.one_mul]]at e2
  have qp:=@HQ.add _ _ (4+1) _ hdv.z.hq (@HQ.mul _ _ (4+1) 4 hdv.t.hq (HQ.int (z:=x)))
  have vp:Vq (ofQ (d.z.val+d.t.val*(x:Rat))) (d.z.val+d.t.val*(x:Rat)) _:=Vq.ofQ (h:=qp)
  have e3:=ld (ofQ (d.z.val+d.t.val*(x:Rat))) (hx:=vp) (by decide)
  have hst:=yV (d.z.val+d.t.val*(x:Rat))
  have e4:=iO b.w hb.lim.w b.a d hb.lim.a.v hdv (by decide) (by decide) (by decide)
  rw[zI]at e1
  by_cases hall:cB b.l d.z.val d.t.val b.l.length
  rotate_left
  ·rw[if_neg hall]at e1
   rw[show rU b x d=none from uc fun h=>hall h.2]at hsn
   have hsn:b5 b x (D.take (i+1))=b5 b x (D.take i):=hsn
   rw[←hsn]
   generalize ofQ (x:Rat)=X0 at *
   generalize sgn (d.z.val+d.t.val*(x:Rat))=sg at *
   generalize ofQ (d.z.val+d.t.val*(x:Rat))=P0 at *
   repeat refine aa rfl ?_
   refine br rfl rfl (bb rfl rfl rfl rfl rfl rfl rfl (by omega) (by rw[hrl];omega)) ?_
   repeat refine aa rfl ?_
   refine br rfl rfl (bJ rfl rfl rfl hgr rfl) ?_
   repeat refine aa rfl ?_
   refine am rfl rfl rfl e1 rfl rfl ?_
   repeat refine aa rfl ?_
   (repeat ((fail_if_success (with_reducible refine aJ 15 ?_));refine cn rfl ?_))
   refine ay (d5 16) ?_
   refine aM 4 1 [56,57,58,59,16] [] (by decide +kernel) rfl ?_
   repeat refine aa rfl ?_
   refine am rfl rfl rfl wx rfl rfl ?_
   repeat refine aa rfl ?_
   refine am rfl rfl rfl e2 rfl rfl ?_
   repeat refine aa rfl ?_
   repeat refine aa rfl ?_
   exact⟨i+1,hlt,by omega,rfl,rfl,rfl,rfl,rfl,rfl,rfl,congrArg I hw,rfl,rfl,rfl,rfl,trivial⟩
  rw[if_pos hall]at e1
  by_cases hper:0<d.z.val+d.t.val*(x:Rat)
  rotate_left
  ·rw[show rU b x d=none from uc fun h=>hper h.1]at hsn
   have hsn:b5 b x (D.take (i+1))=b5 b x (D.take i):=hsn
   have hle:=hst.2 (by grind)
   rw[←hsn]
   generalize ofQ (x:Rat)=X0 at *
   generalize sgn (d.z.val+d.t.val*(x:Rat))=sg at *
   generalize ofQ (d.z.val+d.t.val*(x:Rat))=P0 at *
   repeat refine aa rfl ?_
   refine br rfl rfl (bb rfl rfl rfl rfl rfl rfl rfl (by omega) (by rw[hrl];omega)) ?_
   repeat refine aa rfl ?_
   refine br rfl rfl (bJ rfl rfl rfl hgr rfl) ?_
   repeat refine aa rfl ?_
   refine am rfl rfl rfl e1 rfl rfl ?_
   repeat refine aa rfl ?_
   (repeat ((fail_if_success (with_reducible refine aJ 15 ?_));refine cn rfl ?_))
   refine ay (d5 16) ?_
   refine aM 4 1 [56,57,58,59,16] [] (by decide +kernel) rfl ?_
   repeat refine aa rfl ?_
   refine am rfl rfl rfl wx rfl rfl ?_
   repeat refine aa rfl ?_
   refine am rfl rfl rfl e2 rfl rfl ?_
   repeat refine aa rfl ?_
   refine aS rfl rfl rfl e3 rfl rfl rfl ?_
   repeat refine aa rfl ?_
   refine ab rfl ?_ ?_<;>intro h
   rotate_left
   ·exfalso
    have:=of_decide_eq_false h
    omega
   clear h
   repeat refine aa rfl ?_
   exact⟨i+1,hlt,by omega,rfl,rfl,rfl,rfl,rfl,rfl,rfl,congrArg I hw,rfl,rfl,rfl,rfl,trivial⟩
  have hnle:¬sgn (d.z.val+d.t.val*(x:Rat))≤0:=fun h=>by have:=hst.1 h;grind
  have hrm:rU b x d=some ((ag (yT b.l d.z.val d.t.val) b.l.length-(b.w:Rat)*(d.z.val+d.t.val*b.a.val))/(d.z.val+d.t.val*(x:Rat))):=rh ⟨hper,hall⟩
  have hvq:=yH hb hx64 hdv hrm
  have qs:=(bh (m:=215) b.l.length fun k hk=>(uz hl hb.few hdv.z.hq hdv.t.hq hk (hall k hk)).mono (by decide)).mono (show b.l.length*(215+1)+4≤3000 by omega)
  have qw:=@HQ.mul _ _ 4 _ (HQ.int (z:=b.w)) (@HQ.add _ _ (4+1) _ hdv.z.hq (@HQ.mul _ _ (4+1) 13 hdv.t.hq hb.lim.a.v.hq))
  have e5:=j3 (ofQ (ag (yT b.l d.z.val d.t.val) b.l.length)) (ofQ ((b.w:Rat)*(d.z.val+d.t.val*b.a.val))) (hx:=Vq.ofQ (h:=qs)) (hy:=Vq.ofQ (h:=qw)) (by decide) (by decide)
  have e6:=mB (ofQ (ag (yT b.l d.z.val d.t.val) b.l.length-(b.w:Rat)*(d.z.val+d.t.val*b.a.val))) (ofQ (d.z.val+d.t.val*(x:Rat))) (hx:=Vq.ofQ (h:=@HQ.sub _ _ _ _ qs qw)) (hy:=vp) (by decide) (by decide) (by grind)
  rw[hrm]at hsn
  generalize (ag (yT b.l d.z.val d.t.val) b.l.length-(b.w:Rat)*(d.z.val+d.t.val*b.a.val))/(d.z.val+d.t.val*(x:Rat))=v at *
  generalize ofQ (ag (yT b.l d.z.val d.t.val) b.l.length-(b.w:Rat)*(d.z.val+d.t.val*b.a.val))=E5 at *
  generalize ofQ (ag (yT b.l d.z.val d.t.val) b.l.length)=S0 at *
  generalize ofQ ((b.w:Rat)*(d.z.val+d.t.val*b.a.val))=W0 at *
  generalize ofQ (x:Rat)=X0 at *
  clear vp qp qs qw hper hall hrm
  generalize sgn (d.z.val+d.t.val*(x:Rat))=sg at *
  generalize ofQ (d.z.val+d.t.val*(x:Rat))=P0 at *
  cases hm:b5 b x (D.take i) with
  |none =>
   rw[hm]at hsn
   simp only at hsn
   generalize hv:ofQ v=V at *
   generalize hM1:b5 b x (D.take (i+1))=M1 at *
   subst hsn
   obtain⟨w,ba,l⟩:=b
   obtain⟨dz,dt⟩:=d
   simp only at *
   repeat refine aa rfl ?_
   refine br rfl rfl (bb rfl rfl rfl rfl rfl rfl rfl (by omega) (by rw[hrl];omega)) ?_
   repeat refine aa rfl ?_
   refine br rfl rfl (bJ rfl rfl rfl hgr rfl) ?_
   repeat refine aa rfl ?_
   refine am rfl rfl rfl e1 rfl rfl ?_
   repeat refine aa rfl ?_
   (repeat ((fail_if_success (with_reducible refine aJ 15 ?_));refine cn rfl ?_))
   refine ay (d5 16) ?_
   refine aM 4 1 [56,57,58,59,16] [] (by decide +kernel) rfl ?_
   repeat refine aa rfl ?_
   refine am rfl rfl rfl wx rfl rfl ?_
   repeat refine aa rfl ?_
   refine am rfl rfl rfl e2 rfl rfl ?_
   repeat refine aa rfl ?_
   refine aS rfl rfl rfl e3 rfl rfl rfl ?_
   repeat refine aa rfl ?_
   refine ab rfl ?_ ?_<;>intro h
   ·exact absurd (of_decide_eq_true h) hnle
   clear h
   repeat refine aa rfl ?_
   (repeat ((fail_if_success (with_reducible refine aJ 17 ?_));refine cn rfl ?_))
   refine ay (d5 17) ?_
   refine aM 10 1 [67,68,69,70,71,72,73,74,75,76,17] [] (by decide +kernel) rfl ?_
   repeat refine aa rfl ?_
   refine am rfl rfl rfl e4 rfl rfl ?_
   repeat refine aa rfl ?_
   refine am rfl rfl rfl e5 rfl rfl ?_
   repeat refine aa rfl ?_
   refine am rfl rfl rfl e6 rfl rfl ?_
   repeat refine aa rfl ?_
   refine bC [1004] [2] (by decide +kernel) ?_
   repeat refine aa rfl ?_
   refine⟨i+1,hlt,by omega,rfl,rfl,rfl,by rw[hM1];rfl,rfl,rfl,rfl,congrArg I hw,rfl,rfl,?_,rfl,trivial⟩
   show(_:Nat × Option Cont)=(1,some (Cont.mk 26 4 [mC (b5 ⟨w,ba,l⟩ x (D.take (i+1)))] 2))
   rw[hM1,show mC (some v)=eR V by rw[mC,hv]]
   rfl
  |some y =>
   rw[hm]at hsn
   simp only at hsn
   have hyq:=hmq y hm
   have e7:=ni (ofQ v) (ofQ y) (hx:=Vq.ofQ (h:=hvq)) (hy:=Vq.ofQ (h:=hyq)) (by decide) (by decide)
   have hsl:=ca (v-y)
   by_cases hvy:v<y
   ·rw[if_pos hvy]at hsn
    have hneg:=hsl.2 (by grind)
    generalize sgn (v-y)=sc at *
    generalize hv:ofQ v=V at *
    generalize hy:ofQ y=Y at *
    generalize hM1:b5 b x (D.take (i+1))=M1 at *
    subst hsn
    obtain⟨w,ba,l⟩:=b
    obtain⟨dz,dt⟩:=d
    simp only at *
    rw[mC,hy]
    repeat refine aa rfl ?_
    refine br rfl rfl (bb rfl rfl rfl rfl rfl rfl rfl (by omega) (by rw[hrl];omega)) ?_
    repeat refine aa rfl ?_
    refine br rfl rfl (bJ rfl rfl rfl hgr rfl) ?_
    repeat refine aa rfl ?_
    refine am rfl rfl rfl e1 rfl rfl ?_
    repeat refine aa rfl ?_
    (repeat ((fail_if_success (with_reducible refine aJ 15 ?_));refine cn rfl ?_))
    refine ay (d5 16) ?_
    refine aM 4 1 [56,57,58,59,16] [] (by decide +kernel) rfl ?_
    repeat refine aa rfl ?_
    refine am rfl rfl rfl wx rfl rfl ?_
    repeat refine aa rfl ?_
    refine am rfl rfl rfl e2 rfl rfl ?_
    repeat refine aa rfl ?_
    refine aS rfl rfl rfl e3 rfl rfl rfl ?_
    repeat refine aa rfl ?_
    refine ab rfl ?_ ?_<;>intro h
    ·exact absurd (of_decide_eq_true h) hnle
    clear h
    repeat refine aa rfl ?_
    (repeat ((fail_if_success (with_reducible refine aJ 17 ?_));refine cn rfl ?_))
    refine ay (d5 17) ?_
    refine aM 10 1 [67,68,69,70,71,72,73,74,75,76,17] [] (by decide +kernel) rfl ?_
    repeat refine aa rfl ?_
    refine am rfl rfl rfl e4 rfl rfl ?_
    repeat refine aa rfl ?_
    refine am rfl rfl rfl e5 rfl rfl ?_
    repeat refine aa rfl ?_
    refine am rfl rfl rfl e6 rfl rfl ?_
    repeat refine aa rfl ?_
    refine aS rfl rfl rfl e7 rfl rfl rfl ?_
    repeat refine aa rfl ?_
    refine ab rfl ?_ ?_<;>intro h
    rotate_left
    ·exfalso
     have:=of_decide_eq_false h
     omega
    clear h
    repeat refine aa rfl ?_
    refine bC [1004] [2] (by decide +kernel) ?_
    repeat refine aa rfl ?_
    refine⟨i+1,hlt,by omega,rfl,rfl,rfl,by rw[hM1];rfl,rfl,rfl,rfl,congrArg I hw,rfl,rfl,?_,rfl,trivial⟩
    show(_:Nat × Option Cont)=(1,some (Cont.mk 26 4 [mC (b5 ⟨w,ba,l⟩ x (D.take (i+1)))] 2))
    rw[hM1,show mC (some v)=eR V by rw[mC,hv]]
    rfl
   ·rw[if_neg hvy]at hsn
    have hneg:¬sgn (v-y)<0:=fun h=>hvy (by have:=hsl.1 h;grind)
    generalize sgn (v-y)=sc at *
    generalize hv:ofQ v=V at *
    generalize hy:ofQ y=Y at *
    generalize hM1:b5 b x (D.take (i+1))=M1 at *
    subst hsn
    obtain⟨w,ba,l⟩:=b
    obtain⟨dz,dt⟩:=d
    simp only at *
    rw[mC,hy]
    repeat refine aa rfl ?_
    refine br rfl rfl (bb rfl rfl rfl rfl rfl rfl rfl (by omega) (by rw[hrl];omega)) ?_
    repeat refine aa rfl ?_
    refine br rfl rfl (bJ rfl rfl rfl hgr rfl) ?_
    repeat refine aa rfl ?_
    refine am rfl rfl rfl e1 rfl rfl ?_
    repeat refine aa rfl ?_
    (repeat ((fail_if_success (with_reducible refine aJ 15 ?_));refine cn rfl ?_))
    refine ay (d5 16) ?_
    refine aM 4 1 [56,57,58,59,16] [] (by decide +kernel) rfl ?_
    repeat refine aa rfl ?_
    refine am rfl rfl rfl wx rfl rfl ?_
    repeat refine aa rfl ?_
    refine am rfl rfl rfl e2 rfl rfl ?_
    repeat refine aa rfl ?_
    refine aS rfl rfl rfl e3 rfl rfl rfl ?_
    repeat refine aa rfl ?_
    refine ab rfl ?_ ?_<;>intro h
    ·exact absurd (of_decide_eq_true h) hnle
    clear h
    repeat refine aa rfl ?_
    (repeat ((fail_if_success (with_reducible refine aJ 17 ?_));refine cn rfl ?_))
    refine ay (d5 17) ?_
    refine aM 10 1 [67,68,69,70,71,72,73,74,75,76,17] [] (by decide +kernel) rfl ?_
    repeat refine aa rfl ?_
    refine am rfl rfl rfl e4 rfl rfl ?_
    repeat refine aa rfl ?_
    refine am rfl rfl rfl e5 rfl rfl ?_
    repeat refine aa rfl ?_
    refine am rfl rfl rfl e6 rfl rfl ?_
    repeat refine aa rfl ?_
    refine aS rfl rfl rfl e7 rfl rfl rfl ?_
    repeat refine aa rfl ?_
    refine ab rfl ?_ ?_<;>intro h
    ·exfalso
     have:=of_decide_eq_true h
     omega
    clear h
    repeat refine aa rfl ?_
    refine⟨i+1,hlt,by omega,rfl,rfl,rfl,by rw[hM1];rfl,rfl,rfl,rfl,congrArg I hw,rfl,rfl,?_,rfl,trivial⟩
    show(_:Nat × Option Cont)=(1,some (Cont.mk 26 4 [mC (b5 ⟨w,ba,l⟩ x (D.take (i+1)))] 2))
    rw[hM1,show mC (some y)=eR Y by rw[mC,hy]]
    rfl
 ·have hie:i=D.length:=by have:=of_decide_eq_false h;omega
  clear h
  rw[hie,List.take_length]
  generalize b5 b x D=m at *
  cases m with
  |none =>
   repeat refine aa rfl ?_
   exact aG rfl rfl rfl
  |some y =>
   rw[mC]
   repeat refine aa rfl ?_
   exact aG rfl rfl rfl
theorem jw {l:List SR} {i:Nat} (hi:i<l.length):(l.map gv).getD i dS=gv (l.getD i dS):=qn hi
theorem Cl {l:List SR} {i:Nat} (hi:i<l.length):xI (l.map gv) i=xI l i:=by rw[xI,xI,jw hi];rfl
theorem Ad {l:List SR} (A B:Rat):cB (l.map gv) A B (l.map gv).length↔cB l A B l.length:=by
 have hlim:∀i,i<l.length→(sn (l.map gv) i↔sn l i):=fun i hi=>by
  rw[sn,sn,jw hi]
  show a_ (CR.mk _ (_:List RR)).m _=0↔_
  rw[Ae]
  exact Iff.rfl
 rw[List.length_map]
 exact⟨fun h i hi hp=>(hlim i hi).1 (h i hi (by rw[Cl hi];exact hp)),fun h i hi hp=>(hlim i hi).2 (h i hi (by rw[←Cl hi];exact hp))⟩
theorem Ck {l:List SR} (A B:Rat):ag (yT (l.map gv) A B) (l.map gv).length=ag (yT l A B) l.length:=by
 rw[List.length_map]
 refine bu fun i hi=>?_
 have hc:cI (l.map gv) i=cI l i:=by
  rw[cI,cI,jw hi]
  show lj _ _ (CR.mk _ (_:List RR)).m=_
  rw[Ae]
  rfl
 rw[yT,yT,Cl hi,hc]
theorem tB (l:List SR):bj (l.map gv)=bj l:=by
 rw[bj,bj,bm,bm,List.map_map]
 rfl
theorem BB {b:BR} {m x:Int} (h:b.w+m≠0) (A B:Rat):((b.w+m:Int):Rat)*(A+B*jq b m x)=(b.w:Rat)*(A+B*b.a.val)+(m:Rat)*(A+B*(x:Rat)):=by
 have hs:((b.w+m:Int):Rat)≠0:=by exact_mod_cast h
 rw[jq]
 push_cast at *
 generalize (b.w:Rat)=W at *
 generalize (m:Rat)=M at *
 generalize (x:Rat)=X at *
 grind
theorem t8 {b:BR} {m x:Int} (h:b.w+m≠0) (A B:Rat):jQ (cd b m x) A B=true↔cB b.l A B b.l.length∧ag (yT b.l A B) b.l.length<(b.w:Rat)*(A+B*b.a.val)+(m:Rat)*(A+B*(x:Rat)):=by
 rw[fM]
 show cB (b.l.map gv) A B (b.l.map gv).length∧ag (yT (b.l.map gv) A B) (b.l.map gv).length<((b.w+m:Int):Rat)*(A+B*(ofQ (jq b m x)).val)↔_
 rw[Ad,Ck,ofQ_val,BB h]
theorem xF {b:BR} {m x:Int} (h:b.w+m≠0) (hm:0≤m) {r:AR} (hr:ct b r=false) (hv:∀v,rU b x r=some v→(m:Rat)≤v):ct (cd b m x) r=false:=by
 cases hc:ct (cd b m x) r with
 |false=>rfl
 |true =>
  rw[ct]at hc hr
  obtain⟨h1,h2⟩:=(t8 h _ _).1 hc
  have h3:=jf hr
  have h4:¬ag (yT b.l r.z.val r.t.val) b.l.length<(b.w:Rat)*(r.z.val+r.t.val*b.a.val):=fun g=>h3 ⟨h1,g⟩
  have hm':(0:Rat)≤(m:Rat):=by exact_mod_cast hm
  by_cases hp:0<r.z.val+r.t.val*(x:Rat)
  ·have h5:=hv _ (rh ⟨hp,h1⟩)
   have h6:=Rat.mul_le_mul_of_nonneg_right h5 (Rat.le_of_lt hp)
   rw[Rat.div_mul_cancel (by grind)]at h6
   grind
  ·have:=Rat.mul_nonneg hm' (show 0 ≤ -(r.z.val+r.t.val*(x:Rat)) by grind)
   grind
theorem zC {b:BR} {m x:Int} (h:b.w+m≠0) {r:AR} {v:Rat} (hv:rU b x r=some v) (hlt:v<(m:Rat)):ct (cd b m x) r=true:=by
 rw[rU,kY]at hv
 split at hv
 ·rename_i hp
  cases hv
  rw[ct]
  refine(t8 h _ _).2 ⟨hp.2,?_⟩
  have h6:=Rat.mul_lt_mul_of_pos_right hlt hp.1
  rw[Rat.div_mul_cancel (by have:=hp.1;grind)]at h6
  grind
 ·cases hv
theorem AT {b:BR} {x:Int} {r:AR} {v:Rat} (hr:ct b r=false) (hv:rU b x r=some v):0≤v:=by
 rw[rU,kY]at hv
 split at hv
 ·rename_i hp
  cases hv
  rw[ct]at hr
  have h3:=jf hr
  have h4:¬ag (yT b.l r.z.val r.t.val) b.l.length<(b.w:Rat)*(r.z.val+r.t.val*b.a.val):=fun g=>h3 ⟨hp.2,g⟩
  rcases Rat.le_total (a:=0) (b:=(ag (yT b.l r.z.val r.t.val) b.l.length-(b.w:Rat)*(r.z.val+r.t.val*b.a.val))/(r.z.val+r.t.val*(x:Rat))) with g|g
  ·exact g
  ·have h6:=Rat.mul_le_mul_of_nonneg_right g (Rat.le_of_lt hp.1)
   rw[Rat.div_mul_cancel (by have:=hp.1;grind)]at h6
   have hz:ag (yT b.l r.z.val r.t.val) b.l.length-(b.w:Rat)*(r.z.val+r.t.val*b.a.val)=0:=by grind
   rw[hz]
   grind
 ·cases hv
theorem kw {b:BR} (h:dN b) {r:AR} (hr:r∈cC b.l):ct b r=false:=by
 rw[cC,List.mem_append]at hr
 rcases hr with hr|hr
 ·exact h.2 r hr
 ·simp at hr;subst hr;exact h.1
theorem pU {b:BR} (hn:dN b) {m x:Int} (h:b.w+m≠0) (hm:0≤m) (hv:∀v,b5 b x (cC b.l)=some v→(m:Rat)≤v):dN (cd b m x):=by
 have key:∀r∈cC b.l,ct (cd b m x) r=false:=fun r hr=>xF h hm (kw hn hr) fun v hrv=>by
  have hmem:v∈(cC b.l).filterMap (rU b x):=List.mem_filterMap.2 ⟨r,hr,hrv⟩
  cases hb:b5 b x (cC b.l) with
  |none=>rw[b5,ku]at hb;rw[hb]at hmem;cases hmem
  |some y =>
   have h1:=hv y hb
   have h2:=(dF.1 hb).2 v hmem
   exact Rat.le_trans h1 h2
 refine⟨key _ (by simp[cC]),fun r hr=>key r ?_⟩
 have hr:r∈bj (b.l.map gv):=hr
 rw[tB]at hr
 exact List.mem_append_left _ hr
theorem wP {b:BR} {m x:Int} (h:b.w+m≠0) {v:Rat} (hb:b5 b x (cC b.l)=some v) (hlt:v<(m:Rat)):¬dN (cd b m x):=by
 obtain⟨r,hr,hrv⟩:=List.mem_filterMap.1 (dF.1 hb).1
 have h1:=zC h hrv hlt
 intro hn
 have:r∈cC (cd b m x).l:=by
  show r∈bj (b.l.map gv)++[bM]
  rw[tB];exact hr
 rw[kw hn this]at h1
 cases h1
theorem zY {b:BR} (hn:dN b) {x:Int} {v:Rat} (hb:b5 b x (cC b.l)=some v):0≤v:=by
 obtain⟨r,hr,hrv⟩:=List.mem_filterMap.1 (dF.1 hb).1
 exact AT (kw hn hr) hrv
theorem pV {b:BR} (h:ShB b) (h0:aX b=0) (hs:(bd b).Sz) {m x:Int} (hm:0≤m∧m≤1000000000) (hx : -1000000≤x∧x≤1000000):(cd b m x).Good:=by
 have hw:=fH h0
 have hl:=(oJ h hw hm hx).1
 have hn:(cd b m x).l.length=b.l.length:=List.length_map _
 have hg:∀i,i<b.l.length→(cd b m x).l.getD i dS=gv (b.l.getD i dS):=fun i hi=>qn hi
 have hlen:(cd b m x).l.length≤10:=by rw[hn];exact h.l.1
 have h4:∀s∈(cd b m x).l,s.k.S.length≤4:=fun s hs=>by
  obtain⟨y,hy,rfl⟩:=List.mem_map.1 hs
  exact(h.l.2 y hy).1
 refine⟨hl,fun hc=>⟨⟨hl,hc,by omega,fun s hs=>Nat.le_trans (h4 s hs) (by decide)⟩,?_,nC hlen h4⟩⟩
 refine⟨hlen,fun i hi=>?_,fun i hi=>?_,fun i hi=>?_,fun i hi k hk=>?_,fun i hi k hk=>?_,?_,?_⟩
 ·exact Nat.le_trans (h4 _ (aH hi)) (by decide)
 ·have hi':i<b.l.length:=by rw[←hn];exact hi
  show hq (((cd b m x).l.getD i dS).x:Rat) 4
  rw[hg i hi']
  exact hs.X i hi'
 ·have hi':i<b.l.length:=by rw[←hn];exact hi
  show hq ((cd b m x).l.getD i dS).c.val 9
  rw[hg i hi']
  show hq (kq (b.l.getD i dS).c).val 9
  rw[pc]
  exact hs.C i hi'
 ·have hi':i<b.l.length:=by rw[←hn];exact hi
  have hk:k<((cd b m x).l.getD i dS).k.S.length:=hk
  rw[hg i hi']at hk
  show hq (((cd b m x).l.getD i dS).k.s k) 4
  rw[hg i hi']
  exact hs.S i hi' k hk
 ·have hi':i<b.l.length:=by rw[←hn];exact hi
  have hk:k<((cd b m x).l.getD i dS).k.S.length:=hk
  rw[hg i hi']at hk
  show hq (((cd b m x).l.getD i dS).k.m k) 4
  rw[hg i hi']
  show hq ((CR.mk (b.l.getD i dS).k.S ((b.l.getD i dS).k.M.map kq)).m k) 4
  rw[Ae]
  exact hs.M i hi' k hk
 ·exact o7 _ ⟨by show -9223372036854775808≤b.w+m;omega,by show b.w+m≤9223372036854775807;omega⟩
 ·show hq (ofQ (jq b m x)).val 8
  rw[ofQ_val]
  exact tn hw h.a hm hx
theorem mJ {c:BR} (h0:aX c=0) (h:dN c):(bV c).2=0:=by
 rw[bV,if_pos h0,if_neg (by rw[h.1];decide)]
 cases h2:(bj c.l).find? (ct c) with
 |none=>rfl
 |some r =>
  have:=h.2 r (List.mem_of_find?_eq_some h2)
  rw[List.find?_some h2]at this
  cases this
theorem sG {c:BR} (h0:aX c=0) (h:¬dN c):bV c=([],12)∨bV c=([],13):=by
 rw[bV,if_pos h0]
 by_cases h1:ct c bM=true
 ·rw[if_pos h1];exact .inl rfl
 ·rw[if_neg h1]
  cases h2:(bj c.l).find? (ct c) with
  |some r=>exact .inr rfl
  |none=>exact absurd (gZ h1 h2) h
theorem uF {b:BR} (hb:ArgB b) (hm:d6 b=true) (h0:aX b=0) (m x:Int):∃(c:BR) (f g:Int) (F:List RR),Ret Tryz.prog .shared 20 [.agg (eB b),I m,I x] (.tup [.agg (eB c),I f])∧Ret Tryz.prog .shared 10 [.agg (eB c)] (.tup [.sl (F.map eR),I g]) ∧
  (f=0→(0≤m∧m≤1000000000)∧(-1000000≤x∧x≤1000000)∧aX (cd b m x)=0∧g=(bV (cd b m x)).2):=by
 have h:=pd hb hm
 obtain⟨l1,l2⟩:=yX h
 have hsz:=((kr hb hm).2 h0).2.1
 have zg:gx.Good:=⟨zJ,fun hc=>absurd hc (by decide)⟩
 by_cases hf:(m<0∨1000000000<m)∨(x < -1000000∨1000000<x)
 ·exact⟨gx,2,_,_,to b (mR h) h0 m x hf,ie gx zg,fun hc=>absurd hc (by decide)⟩
 ·have hm':0≤m∧m≤1000000000:=by omega
  have hx' : -1000000≤x∧x≤1000000:=by omega
  have a1:=(oJ h (fH h0) hm' hx').1
  have p1:=wO b (mR h) l1 (fun s hs=>(l2 s hs).1) h0 m x hm' hx' a1
  by_cases hc:aX (cd b m x)=0
  ·rw[if_pos hc,hc]at p1
   exact⟨_,_,_,_,p1,ie _ (pV h h0 hsz hm' hx'),fun _=>⟨hm',hx',hc,rfl⟩⟩
  ·rw[if_neg hc]at p1
   exact⟨_,_,_,_,p1,ie gx zg,fun h=>absurd h hc⟩
theorem u5 {w:Rat}:((w.floor:Int):Rat)≤w∧w<((w.floor+1:Int):Rat):=⟨Rat.floor_le w,Rat.lt_floor_add_one w⟩
set_option maxRecDepth 20000 in
theorem reserved_law (b:BR) (hb:ArgB b) (x m:Int):Ret Tryz.prog .shared 4 [.agg (eB b),I x,I m] (.bool true):=by
 have aw:=ny
 have h1:=qI b hb.len
 have hmg:=kr hb
 have har:=fun(hm:d6 b=true) h0=>uF hb hm h0
 generalize d6 b=x1 at *
 refine Ret.of_pwp layOk mixed Go.Proofs.Tryz.func4 rfl (by decide) rfl rfl ?_
 repeat refine aa rfl ?_
 refine aS rfl rfl rfl aw rfl rfl rfl ?_
 repeat refine aa rfl ?_
 refine aS rfl rfl rfl h1 rfl rfl rfl ?_
 cases x1
 ·repeat refine aa rfl ?_
  exact aR rfl rfl rfl
 repeat refine aa rfl ?_
 have hg:=hmg rfl
 have rv:=ie b hg
 have h20:=aV b hg.1
 clear hmg h1 aw
 by_cases x7:aX b=0
 rotate_left
 ·clear rv har
  generalize aX b=e at *
  refine aS rfl rfl rfl h20 rfl rfl rfl ?_
  repeat refine aa rfl ?_
  refine ab rfl ?_ ?_<;>intro h
  ·clear h
   repeat refine aa rfl ?_
   exact aR rfl rfl rfl
  ·simp at h
   exact absurd h x7
 have har:=fun m=>har rfl x7 m x
 rw[x7]at h20
 refine aS rfl rfl rfl h20 rfl rfl rfl ?_
 repeat refine aa rfl ?_
 obtain⟨hok,hsz,-⟩:=hg.2 x7
 by_cases hx:x < -1000000∨1000000<x
 ·have p1:=AS b hok x hx
  clear hg har
  generalize bV b=q at *
  obtain⟨q1,q2⟩:=q
  simp only at *
  refine am rfl rfl rfl p1 rfl rfl ?_
  repeat refine aa rfl ?_
  refine am rfl rfl rfl rv rfl rfl ?_
  repeat refine aa rfl ?_
  refine dl rfl rfl rfl ?_ ?_<;>intro h
  ·clear h
   repeat refine aa rfl ?_
   exact aR rfl rfl rfl
  ·clear h
   repeat refine aa rfl ?_
   exact aR rfl rfl rfl
 have p:=dT b hok
 rw[dy]at p
 by_cases r1:ct b bM=true
 ·rw[if_pos r1]at p
  have e1:bV b=([],12):=by rw[bV,if_pos x7,if_pos r1]
  rw[e1]at rv
  have p1:=t_ b hok x hx _ 12 (by decide) p
  refine am rfl rfl rfl p1 rfl rfl ?_
  repeat refine aa rfl ?_
  refine am rfl rfl rfl rv rfl rfl ?_
  repeat refine aa rfl ?_
  exact aR rfl rfl rfl
 rw[if_neg r1]at p
 cases r2:(bj b.l).find? (ct b) with
 |some r =>
  rw[r2]at p
  have e1:bV b=([],13):=by rw[bV,if_pos x7,if_neg r1,r2]
  rw[e1]at rv
  have p1:=t_ b hok x hx _ 13 (by decide) p
  refine am rfl rfl rfl p1 rfl rfl ?_
  repeat refine aa rfl ?_
  refine am rfl rfl rfl rv rfl rfl ?_
  repeat refine aa rfl ?_
  exact aR rfl rfl rfl
 |none =>
  rw[r2]at p
  have hno:=gZ r1 r2
  have p1:=CG b hok x hx p
  have hne:∀ {m:Int},0≤m→b.w+m≠0:=fun hm=>by have:=fH x7;omega
  cases hbest:b5 b x (cC b.l) with
  |none =>
   rw[hbest,mC]at p1
   obtain⟨c,f,g,F,a1,a2,a3⟩:=har m
   have hr:f=0→g=0:=fun hf=>by
    obtain⟨c1,c2,c3,c4⟩:=a3 hf
    rw[c4]
    exact mJ c3 (pU hno (hne c1.1) c1.1 fun v hv=>by rw[hbest]at hv;cases hv)
   clear a3 har hno hne rv
   refine am rfl rfl rfl p1 rfl rfl ?_
   repeat refine aa rfl ?_
   refine am rfl rfl rfl a1 rfl rfl ?_
   repeat refine aa rfl ?_
   refine am rfl rfl rfl a2 rfl rfl ?_
   repeat refine aa rfl ?_
   refine dl rfl rfl rfl ?_ ?_<;>intro h
   ·clear h
    repeat refine aa rfl ?_
    exact aR rfl rfl rfl
   ·have hg:=hr (by simpa using h)
    clear h
    subst hg
    repeat refine aa rfl ?_
    exact aR rfl rfl rfl
  |some w =>
   rw[hbest,mC]at p1
   have hw0:=zY hno hbest
   have hwq:HQ w 10000:=tt hok ⟨by omega,by omega⟩ (fun d hd=>p_ hok.chkL hd) hbest
   have hfl:=u5 (w:=w)
   have hf0:0≤w.floor:=by
    have h3:(0:Rat)<((w.floor+1:Int):Rat):=by have:=hfl.2;grind
    have h3:((0:Int):Rat)<((w.floor+1:Int):Rat):=h3
    have:=Rat.intCast_lt_intCast.1 h3
    omega
   obtain⟨N,hN⟩:∃N:Nat,w.floor=N:=⟨w.floor.toNat,by omega⟩
   rw[hN]at hfl hf0
   have vw:Vq (ofQ w) w 10000:=Vq.ofQ (h:=hwq)
   have f1:=sI (ofQ w) (hx:=vw) (by decide)
   rw[hN]at f1
   have hlen:(aj N).length≤800000000:=by
    have h4:=(dE hwq.ok).1
    have h5:(aj N).length≤(ofQ w).n.l.length:=by
     refine cE ?_
     rw[←RI.val_abs,eQ]
     have h6:=hN
     rw[Rat.floor_def]at h6
     have hd:=w.den_pos
     have h7:w.num/(w.den:Int)*w.den≤w.num:=Int.ediv_mul_le _ (by omega)
     rw[h6]at h7
     have h8:(N:Int)*1≤N*w.den:=Int.mul_le_mul_of_nonneg_left (by omega) (by omega)
     omega
    omega
   have f2:=sN N hlen
   have f3:=mN (ofQ w) (hx:=vw) (by decide)
   have hs:0≤sgn w:=(sU w).2 hw0
   by_cases hbig:1000000000≤N
   ·by_cases h63:N<9223372036854775808
    ·rw[if_pos h63,decide_eq_true h63]at f2
     refine am rfl rfl rfl p1 rfl rfl ?_
     repeat refine aa rfl ?_
     refine am rfl rfl rfl f1 rfl rfl ?_
     repeat refine aa rfl ?_
     refine am rfl rfl rfl f2 rfl rfl ?_
     repeat refine aa rfl ?_
     refine ab rfl ?_ ?_<;>intro h
     ·clear h
      repeat refine aa rfl ?_
      refine aS rfl rfl rfl f3 rfl rfl rfl ?_
      repeat refine aa rfl ?_
      exact aR rfl rfl (by simpa using hs)
     ·exfalso
      have:=of_decide_eq_false h
      omega
    ·rw[if_neg h63,decide_eq_false h63]at f2
     refine am rfl rfl rfl p1 rfl rfl ?_
     repeat refine aa rfl ?_
     refine am rfl rfl rfl f1 rfl rfl ?_
     repeat refine aa rfl ?_
     refine am rfl rfl rfl f2 rfl rfl ?_
     repeat refine aa rfl ?_
     refine aS rfl rfl rfl f3 rfl rfl rfl ?_
     repeat refine aa rfl ?_
     exact aR rfl rfl (by simpa using hs)
   rw[if_pos (by omega),decide_eq_true (by omega)]at f2
   obtain⟨c,f,g,F,a1,a2,a3⟩:=har N
   obtain⟨c',f',g',F',b1,b2,b3⟩:=har (N+1)
   have hr:f=0→g=0:=fun hf=>by
    obtain⟨c1,c2,c3,c4⟩:=a3 hf
    rw[c4]
    exact mJ c3 (pU hno (hne c1.1) c1.1 fun v hv=>by rw[hbest]at hv;cases hv;exact hfl.1)
   have hr2:f'=0→g'=12∨g'=13:=fun hf=>by
    obtain⟨c1,c2,c3,c4⟩:=b3 hf
    rcases sG c3 (wP (hne c1.1) hbest hfl.2) with e|e<;>(rw[c4,e];simp)
   clear a3 b3 har hno hne rv hfl hw0
   have e8:IntKind.i64.wrap ((N:Int)+1)=(N:Int)+1:=wrap_i64 (by omega) (by omega)
   refine am rfl rfl rfl p1 rfl rfl ?_
   repeat refine aa rfl ?_
   refine am rfl rfl rfl f1 rfl rfl ?_
   repeat refine aa rfl ?_
   refine am rfl rfl rfl f2 rfl rfl ?_
   repeat refine aa rfl ?_
   refine ab rfl ?_ ?_<;>intro h
   ·exfalso
    have:=of_decide_eq_true h
    omega
   clear h
   repeat refine aa rfl ?_
   refine am rfl rfl rfl a1 rfl rfl ?_
   repeat refine aa rfl ?_
   refine am rfl rfl rfl a2 rfl rfl ?_
   repeat refine aa rfl ?_
   rw[e8]
   refine am rfl rfl rfl b1 rfl rfl ?_
   repeat refine aa rfl ?_
   refine am rfl rfl rfl b2 rfl rfl ?_
   repeat refine aa rfl ?_
   refine dl rfl rfl rfl ?_ ?_<;>intro h
   ·clear h
    repeat refine aa rfl ?_
    refine dl rfl rfl rfl ?_ ?_<;>intro h
    ·clear h
     repeat refine aa rfl ?_
     exact aR rfl rfl rfl
    ·have hg:=hr2 (by simpa using h)
     clear h
     rcases hg with rfl|rfl
     ·repeat refine aa rfl ?_
      exact aR rfl rfl rfl
     ·repeat refine aa rfl ?_
      exact aR rfl rfl rfl
   ·have hg:=hr (by simpa using h)
    clear h
    subst hg
    repeat refine aa rfl ?_
    refine dl rfl rfl rfl ?_ ?_<;>intro h
    ·clear h
     repeat refine aa rfl ?_
     exact aR rfl rfl rfl
    ·have hg:=hr2 (by simpa using h)
     clear h
     rcases hg with rfl|rfl
     ·repeat refine aa rfl ?_
      exact aR rfl rfl rfl
     ·repeat refine aa rfl ?_
      exact aR rfl rfl rfl
end Go.Pv
