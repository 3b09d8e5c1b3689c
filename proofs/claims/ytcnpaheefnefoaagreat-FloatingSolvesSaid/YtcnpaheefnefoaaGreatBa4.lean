/- Texts of one hand, gathered: FrG, FrH, FaE, FmA, FmB, FcA, PvRg, FcB, FcC, FmC, FmD, FmE, FmF, FmG, FmH, FmI, FcD, FcE, FcF, FcG, FcH, FcI, FcJ, FcK, FcL, FcM, FcN, FcO, FcP, LeC, Shelf, FcQ, FcR, FcS, FcT, FcU, FcV, FdV, FcW. -/
import Derived.Test.YtcnpaheefnefoaaGreatBa3
import Derived.Sort.Grow
import Derived.Shelf.GgSortFunc.RowK
import Derived.Shelf.Small.Bits
import Derived.Shelf.Small.Wraps
import Derived.Shelf.Strconv.Itoa0
import Derived.Shelf.Sort.Plain
import Derived.Ground.Names2Prog
import Derived.Shelf.Slices.Clone
import Derived.Shelf.Slices.CompactI
import Derived.Shelf.Slices.SearchI
import Derived.Shelf.Slices.Cells
import Derived.Shelf.Slices.In.SortNone
import Derived.Test.YtcnpaheefnefoaaGreatProg
import Derived.Lib.SlicesCompact
set_option linter.unusedSectionVars false
set_option linter.unusedSimpArgs false
set_option linter.unusedVariables false
set_option linter.unnecessarySimpa false
set_option maxHeartbeats 2000000
namespace Go.Pv
attribute [local irreducible] PWP POps PQuiet PSem ax ao aj ai
open Go.Proofs
theorem mS {n:Nat} {L:List UInt16} {u:Nat} (h:aq n=L++aq u) (hu:0<u):aq n=(L++[UInt16.ofNat u])++aq (u/65536):=by
 rw[h,cQ (by omega),List.append_assoc];rfl
theorem mR {n:Nat} (h:n<18446744073709551616):(aq n).length≤4:=by
 have e:(65536:Nat)^4=18446744073709551616:=by decide
 exact bU (by omega)
set_option maxRecDepth 20000 in
theorem BX (n:Int) (h0:0≤n) (h1:n≤9223372036854775807):Ret Tryz.prog .shared 137 [I n] (.agg (eI (bO n))):=by
 have hm:=dO false (aq n.toNat) (by have:=mR (n:=n.toNat) (by omega);omega) (bg _)
 rw[aD,show dB false n.toNat=n by rw[dB];simp;omega]at hm
 have hcv:IntKind.u64.wrap n=((n.toNat:Nat):Int):=by rw[wrap_u64 (by omega) (by omega)];omega
 have hnl:=mR (n:=n.toNat) (by omega)
 have hlt:decide (n<0)=false:=decide_eq_false (by omega)
 generalize bO n=Z at *
 refine Ret.of_pwp layOk mixed Go.Proofs.Tryz.func137 rfl (by decide) rfl rfl ?_
 (repeat ((fail_if_success (with_reducible refine aT 1 ?_));refine dh rfl ?_))
 ((repeat (first|refine aJ ?_ | refine b5 ?_ | refine bJ ?_ | refine bF ?_));refine aS ?_)
 (first|refine ar (fh 3 1 0 rfl rfl ?_)|refine ar (fg 3 1 0 rfl rfl ?_))
 repeat refine aa rfl ?_
 rw[hcv]
 repeat refine aa rfl ?_
 refine ab rfl ?_ ?_<;>intro h
 ·have:=of_decide_eq_true h;omega
 clear h
 repeat refine aa rfl ?_
 refine am (fun q:List UInt16 × Nat=>q.2<18446744073709551616∧aq n.toNat=q.1++aq q.2) (fun q=>[(0,I n),(2,.ptr 2 1 0 0),(3,.als 3 (q.1.length+1) 0 (q.1.map eD).length),(4,.int .u64 (q.2:Nat))])
  (fun q=>[(2,1,⟨24,2,[[.bool false,.nil]],2⟩),(3,q.1.length+1,⟨3,1,q.1.map eD,0⟩)]) (fun q=>q.2) ([],n.toNat) ⟨by simp only;omega,rfl⟩ ⟨rfl,rfl,rfl,rfl,rfl,rfl,trivial⟩ ?_
 rintro⟨L,u⟩ s ⟨hu,hL⟩
 simp only at hu hL
 dsimp only
 have hLl:L.length≤4:=by rw[hL]at hnl;simp at hnl;omega
 repeat refine aa rfl ?_
 refine ab rfl ?_ ?_<;>intro h
 ·have hu0:0<u:=by have:=of_decide_eq_true h;omega
  clear h
  have hst:=mS hL hu0
  have hr:IntKind.i64.wrap (Int.tmod ((u:Nat):Int) 65536)=((UInt16.ofNat u).toNat:Int):=by rw[l7,wrap_i64]<;>(have:=aR (UInt16.ofNat u);omega)
  have hq:IntKind.u64.wrap (Int.tdiv ((u:Nat):Int) 65536)=((u/65536:Nat):Int):=by rw[l6,wrap_u64]<;>omega
  repeat refine aa rfl ?_
  refine bH rfl rfl (QOp.v rfl (show ¬(65536:Int)=0 by decide)) ?_
  repeat refine aa rfl ?_
  rw[hr]
  refine ar (be 0 rfl rfl rfl rfl rfl rfl rfl rfl rfl rfl rfl (by repeat' constructor) rfl ?_)
  repeat refine aa rfl ?_
  refine ar (bE 0 rfl rfl rfl rfl rfl rfl rfl rfl rfl rfl rfl (by repeat' constructor) (by intro row hr;first|(simp at hr;subst hr;rfl)|simp at hr) rfl rfl (by simp;omega) (by simp;omega) ?_)
  repeat refine aa rfl ?_
  refine bH rfl rfl (QOp.v rfl (show ¬(65536:Int)=0 by decide)) ?_
  rw[hq]
  repeat refine aa rfl ?_
  refine⟨(L++[UInt16.ofNat u],u/65536),⟨by simp only;omega,hst⟩,by simp only;omega,rfl,rfl,?_,rfl,rfl,?_,trivial⟩
  ·exact iM 3 L (UInt16.ofNat u)
  ·exact fZ 3 1 0 L (UInt16.ofNat u)
 ·have hu0:u=0:=by have:=of_decide_eq_false h;omega
  clear h
  subst hu0
  rw[bj,List.append_nil]at hL
  rw[hL]at hm
  ((repeat ((fail_if_success (with_reducible refine aT 8 ?_));refine dh rfl ?_));refine aG 3 ?_)
  iterate 2 refine aa rfl ?_
  rw[hlt]
  refine aa rfl ?_
  refine aJ ?_
  refine a_ rfl (c9 (Ghost.takeF (enc:=eD) (t:=23) (L) rfl rfl (rfl) rfl (fun _=>rfl)) ?_)
  (refine j3 (dQ rfl (hm) rfl ?_ rfl) ?_;·repeat' constructor)
  refine aM ?_
  repeat refine aa rfl ?_
  exact aF rfl rfl rfl
theorem zZ (a:RI) (ha:a.l.length≤800000000):Ret Tryz.prog .shared 190 [.agg (eI a)] (.agg (eI (bO (-a.val)))):=by
 have hr:=ej a.l (by omega)
 have hm:=dO (!a.neg) (aH a.l) (by have:=bG a.l;omega) (d_ _)
 rw[cq,show dB (!a.neg) (nv a.l) = -a.val by rw[a.val_sgz];cases a.neg<;>simp[dB]]at hm
 generalize bO (-a.val)=Z at *
 generalize aH a.l=T at *
 obtain⟨an,al⟩:=a
 simp only at *
 refine Ret.of_pwp layOk mixed Go.Proofs.Tryz.func190 rfl (by decide) rfl rfl ?_
 repeat refine aa rfl ?_
 refine ah 7 [3,4,5,6,7,8,9] (by decide +kernel) ?_
 repeat refine aa rfl ?_
 refine ak rfl rfl rfl hr rfl rfl ?_
 repeat refine aa rfl ?_
 refine ak rfl rfl rfl hm rfl rfl ?_
 repeat refine aa rfl ?_
 exact aF rfl rfl rfl
theorem wZ (a:RI) (ha:a.l.length≤800000000):Ret Tryz.prog .shared 72 [.agg (eI a)] (I (kC a.val)):=by
 have ht:=ej a.l (by omega)
 have hm:((aH a.l).map eD).length=(aH a.l).length:=by simp
 have h0:=k8 (l:=a.l)
 have hz:=a.val_zero
 have hv:a.val=if a.neg then -(nv a.l:Int) else(nv a.l:Int):=rfl
 generalize aH a.l=T at *
 obtain⟨an,al⟩:=a
 simp only at *
 refine Ret.of_pwp layOk mixed Go.Proofs.Tryz.func72 rfl (by decide) rfl rfl ?_
 repeat refine aa rfl ?_
 refine ak rfl rfl rfl ht rfl rfl ?_
 repeat refine aa rfl ?_
 refine ab rfl ?_ ?_<;>intro h
 ·have h1:nv al=0:=h0.1 (by have:=of_decide_eq_true h;omega)
  rw[kC,if_pos (hz.2 h1)]
  repeat refine aa rfl ?_
  exact aO rfl rfl rfl
 ·have h1:nv al≠0:=by
   intro h1
   have h2:=of_decide_eq_false h
   have:=h0.2 h1
   omega
  rw[kC,if_neg (fun h=>h1 (hz.1 h))]
  clear h
  cases an
  ·rw[if_neg (by rw[hv];simp only[Bool.false_eq_true,if_false];omega)]
   repeat refine aa rfl ?_
   exact aO rfl rfl rfl
  ·rw[if_pos (by rw[hv];simp only[if_true];omega)]
   repeat refine aa rfl ?_
   exact aO rfl rfl rfl
set_option maxRecDepth 20000 in
theorem fu (a b:RI) (ha:a.l.length≤300000000) (hb:b.l.length≤300000000):Ret Tryz.prog .shared 192 [.agg (eI a),.agg (eI b)] (.agg (eI (bO (a.val*b.val)))):=by
 have e:a.val*b.val=dB (a.neg != b.neg) (nv a.l*nv b.l):=by
  rw[a.val_sgz,b.val_sgz]
  cases a.neg<;>cases b.neg<;>simp[dB,Int.neg_mul,Int.mul_neg]
 rw[e]
 have hta:=ej a.l (by omega)
 have htb:=ej b.l (by omega)
 have hla:=bG a.l
 have hlb:=bG b.l
 have ht:=jF (aH a.l) (aH b.l) (by omega) (by omega)
 rw[cq,cq]at ht
 have hs:=dO (a.neg != b.neg) (aq (nv a.l*nv b.l)) (by
  have:=bU (ez (bQ a.l) (bQ b.l));omega) (bg _)
 rw[aD]at hs
 obtain⟨an,al⟩:=a
 obtain⟨bn,bl⟩:=b
 simp only at *
 generalize aH al=A at *
 generalize aH bl=B at *
 generalize aq (nv al*nv bl)=C at *
 generalize bO (dB (an != bn) (nv al*nv bl))=X at *
 refine Ret.of_pwp layOk mixed Go.Proofs.Tryz.func192 rfl (by decide) rfl rfl ?_
 repeat refine aa rfl ?_
 refine ah 13 [5,6,7,8,9,10,11,12,13,14,15,16,17] (by decide +kernel) ?_
 repeat refine aa rfl ?_
 refine ak rfl rfl rfl hta rfl rfl ?_
 repeat refine aa rfl ?_
 refine ak rfl rfl rfl htb rfl rfl ?_
 repeat refine aa rfl ?_
 refine ak rfl rfl rfl ht rfl rfl ?_
 repeat refine aa rfl ?_
 refine ak rfl rfl rfl hs rfl rfl ?_
 repeat refine aa rfl ?_
 exact aF rfl rfl rfl
set_option maxRecDepth 20000 in
theorem zR (a b:RI) (ha:a.l.length≤300000000) (hb:b.l.length≤300000000):Ret Tryz.prog .shared 136 [.agg (eI a),.agg (eI b)] (.agg (eI (bO (a.val+b.val)))):=by
 have hta:=ej a.l (by omega)
 have htb:=ej b.l (by omega)
 have hla:=bG a.l
 have hlb:=bG b.l
 have hA:=d_ a.l
 have hB:=d_ b.l
 have hnA:=cq a.l
 have hnB:=cq b.l
 rw[a.val_sgz,b.val_sgz]
 obtain⟨an,al⟩:=a
 obtain⟨bn,bl⟩:=b
 simp only at *
 rw[←hnA,←hnB]
 generalize aH al=A at *
 generalize aH bl=B at *
 have hp:=wX A B (by omega) (by omega)
 have hcm:=j8 A B (by omega) (by omega)
 have hcs:=(eT hA hB).1
 have hlA:=cu A
 have hlB:=cu B
 have hlp:(aq (nv A+nv B)).length≤900000000:=by
  have:=qH (n:=400000000) (A:=A) (B:=B) (by omega) (by omega)
  omega
 by_cases hs:an=bn
 ·subst hs
  have hd:=dO an (aq (nv A+nv B)) hlp (bg _)
  rw[aD]at hd
  have e:dB an (nv A)+dB an (nv B)=dB an (nv A+nv B):=by cases an<;>simp only[dB,Bool.false_eq_true,if_false,if_true]<;>omega
  rw[e]
  generalize aq (nv A+nv B)=C at *
  generalize bO (dB an (nv A+nv B))=X at *
  refine Ret.of_pwp layOk mixed Go.Proofs.Tryz.func136 rfl (by decide) rfl rfl ?_
  repeat refine aa rfl ?_
  refine ah 8 [7,8,9,10,11,12,5,6] (by decide +kernel) ?_
  repeat refine aa rfl ?_
  refine ak rfl rfl rfl hta rfl rfl ?_
  repeat refine aa rfl ?_
  refine ak rfl rfl rfl htb rfl rfl ?_
  repeat refine aa rfl ?_
  refine ab rfl ?_ ?_<;>intro h
  ·clear h
   repeat refine aa rfl ?_
   refine ah 6 [18,19,20,21,22,23] (by decide +kernel) ?_
   repeat refine aa rfl ?_
   refine ak rfl rfl rfl hp rfl rfl ?_
   repeat refine aa rfl ?_
   refine ak rfl rfl rfl hd rfl rfl ?_
   repeat refine aa rfl ?_
   exact aF rfl rfl rfl
  ·exfalso
   simp at h
 ·have hmA:nv B≤nv A→Ret Tryz.prog .shared 188 [.sl (A.map eD),.sl (B.map eD)] (.sl ((aq (nv A-nv B)).map eD)):=jE A B (by omega) (by omega)
  have hmB:nv A≤nv B→Ret Tryz.prog .shared 188 [.sl (B.map eD),.sl (A.map eD)] (.sl ((aq (nv B-nv A)).map eD)):=jE B A (by omega) (by omega)
  have hlm:(aq (nv A-nv B)).length≤900000000:=by have:=db (Nat.sub_le (nv A) (nv B));omega
  have hlm2:(aq (nv B-nv A)).length≤900000000:=by have:=db (Nat.sub_le (nv B) (nv A));omega
  have hdA:=dO an (aq (nv A-nv B)) hlm (bg _)
  have hdB:=dO bn (aq (nv B-nv A)) hlm2 (bg _)
  rw[aD]at hdA hdB
  have eA:nv B≤nv A→dB an (nv A)+dB bn (nv B)=dB an (nv A-nv B):=by intro h;cases an<;>cases bn<;>simp_all only [dB,Bool.false_eq_true,if_false,if_true,not_true_eq_false,reduceCtorEq,not_false_eq_true]<;>omega
  have eB:nv A≤nv B→dB an (nv A)+dB bn (nv B)=dB bn (nv B-nv A):=by intro h;cases an<;>cases bn<;>simp_all only [dB,Bool.false_eq_true,if_false,if_true,not_true_eq_false,reduceCtorEq,not_false_eq_true]<;>omega
  generalize dB an (nv A)+dB bn (nv B)=Z at *
  generalize aq (nv A-nv B)=C at *
  generalize aq (nv B-nv A)=D at *
  generalize hX:bO (dB an (nv A-nv B))=X at *
  generalize hY:bO (dB bn (nv B-nv A))=Y at *
  refine Ret.of_pwp layOk mixed Go.Proofs.Tryz.func136 rfl (by decide) rfl rfl ?_
  repeat refine aa rfl ?_
  refine ah 8 [7,8,9,10,11,12,5,6] (by decide +kernel) ?_
  repeat refine aa rfl ?_
  refine ak rfl rfl rfl hta rfl rfl ?_
  repeat refine aa rfl ?_
  refine ak rfl rfl rfl htb rfl rfl ?_
  repeat refine aa rfl ?_
  refine ab rfl ?_ ?_<;>intro h
  ·exfalso
   simp at h
   exact hs h
  ·clear h
   repeat refine aa rfl ?_
   refine aP rfl rfl rfl hcm rfl rfl rfl ?_
   repeat refine aa rfl ?_
   refine ab rfl ?_ ?_<;>intro h
   ·have hge:nv B≤nv A:=by
     have h1:=of_decide_eq_true h
     omega
    clear h
    repeat refine aa rfl ?_
    refine ah 6 [28,29,30,31,32,33] (by decide +kernel) ?_
    repeat refine aa rfl ?_
    refine ak rfl rfl rfl (hmA hge) rfl rfl ?_
    repeat refine aa rfl ?_
    refine ak rfl rfl rfl hdA rfl rfl ?_
    repeat refine aa rfl ?_
    exact sZ rfl (by repeat' constructor) rfl (by repeat' constructor) (by rw[eA hge,hX];rfl)
   ·have hge:nv A≤nv B:=by
     have h1:=of_decide_eq_false h
     omega
    clear h
    repeat refine aa rfl ?_
    refine ah 6 [34,35,36,37,38,39] (by decide +kernel) ?_
    repeat refine aa rfl ?_
    refine ak rfl rfl rfl (hmB hge) rfl rfl ?_
    repeat refine aa rfl ?_
    refine ak rfl rfl rfl hdB rfl rfl ?_
    repeat refine aa rfl ?_
    exact sZ rfl (by repeat' constructor) rfl (by repeat' constructor) (by rw[eB hge,hY];rfl)
theorem rE (z:Int):ofQ ((z:Rat))=⟨bO z,bO 1⟩:=by
 rw[ofQ,Rat.num_intCast,Rat.den_intCast];rfl
theorem l0 (q:Rat):ofQ q=⟨bO q.num,bO (q.den:Int)⟩:=by
 rw[ofQ,bO,bO]
 congr 2
set_option maxRecDepth 20000 in
theorem gO (a b:RI) (ha:a.l.length≤90000000) (hb:b.l.length≤90000000):Ret Tryz.prog .shared 133 [.agg (eI a),.agg (eI b)] (.agg (eR (ofQ ((a.val:Rat)/(b.den:Rat))))):=by
 have hta:=ej a.l (by omega)
 have htb:=ej b.l (by omega)
 have hla:=bG a.l
 have hlb:=bG b.l
 have hb0:=k8 (l:=b.l)
 have hAn:=cq a.l
 have hBn:=cq b.l
 have hAt:=d_ a.l
 have hBt:=d_ b.l
 have h1:=BX 1 (by decide) (by decide)
 by_cases h0:nv b.l=0
 ·have e:ofQ ((a.val:Rat)/(b.den:Rat))=⟨bO a.val,bO 1⟩:=by
   rw[RI.den,if_pos h0,←rE]
   congr 1
   rw[show((1:Int):Rat)=1 from rfl];grind
  rw[e]
  have hm:=dO a.neg (aH a.l) (by omega) hAt
  rw[hAn,←a.val_sgz]at hm
  have hz:aH b.l=[]:=by rw[aH,h0,bj]
  rw[hz]at htb
  generalize bO a.val=X at *
  generalize bO 1=Y at *
  generalize aH a.l=A at *
  obtain⟨an,al⟩:=a
  obtain⟨bn,bl⟩:=b
  simp only at *
  refine Ret.of_pwp layOk mixed Go.Proofs.Tryz.func133 rfl (by decide) rfl rfl ?_
  repeat refine aa rfl ?_
  refine ah 8 [12,13,14,15,16,17,5,6] (by decide +kernel) ?_
  repeat refine aa rfl ?_
  refine ak rfl rfl rfl hta rfl rfl ?_
  repeat refine aa rfl ?_
  refine ak rfl rfl rfl htb rfl rfl ?_
  repeat refine aa rfl ?_
  refine ak rfl rfl rfl hm rfl rfl ?_
  repeat refine aa rfl ?_
  refine ak rfl rfl rfl h1 rfl rfl ?_
  repeat refine aa rfl ?_
  exact aF rfl rfl rfl
 ·have hbp:0<nv b.l:=Nat.pos_of_ne_zero h0
  rw[RI.den,if_neg h0,rF a b h0]
  have hg:=zX (aH a.l) (aH b.l) (by omega) (by omega) hAt hBt
  rw[hAn,hBn]at hg
  have hgp:0<Nat.gcd (nv a.l) (nv b.l):=Nat.gcd_pos_of_pos_right _ hbp
  have hgl:Nat.gcd (nv a.l) (nv b.l)≤nv b.l:=Nat.gcd_le_right _ hbp
  have hgs:(aq (Nat.gcd (nv a.l) (nv b.l))).length≤90000000:=by
   have:=gK (L:=b.l) hgl;omega
  generalize Nat.gcd (nv a.l) (nv b.l)=g at *
  have d1:=kW (aH a.l) (aq g) (by omega) (by omega) (by rw[aD];omega)
  have d2:=kW (aH b.l) (aq g) (by omega) (by omega) (by rw[aD];omega)
  rw[DZ,aD,hAn]at d1
  rw[DZ,aD,hBn]at d2
  have m1:=dO (a.neg != b.neg) (aq (nv a.l/g)) (by have:=gK (L:=a.l) (Nat.div_le_self (nv a.l) g);omega) (bg _)
  have m2:=dO false (aq (nv b.l/g)) (by have:=gK (L:=b.l) (Nat.div_le_self (nv b.l) g);omega) (bg _)
  rw[aD]at m1 m2
  have hbl:¬((aH b.l).length=0):=fun h=>h0 (hb0.1 h)
  have hbm:((aH b.l).map eD).length=(aH b.l).length:=by simp
  generalize bO (dB (a.neg != b.neg) (nv a.l/g))=X at *
  generalize bO (dB false (nv b.l/g))=Y at *
  generalize aq (nv a.l/g)=A2 at *
  generalize aq (nv b.l/g)=B2 at *
  generalize aq (nv a.l%g)=A3 at *
  generalize aq (nv b.l%g)=B3 at *
  generalize aq g=G at *
  generalize aH a.l=A at *
  generalize aH b.l=B at *
  obtain⟨an,al⟩:=a
  obtain⟨bn,bl⟩:=b
  simp only at *
  refine Ret.of_pwp layOk mixed Go.Proofs.Tryz.func133 rfl (by decide) rfl rfl ?_
  repeat refine aa rfl ?_
  refine ah 8 [12,13,14,15,16,17,5,6] (by decide +kernel) ?_
  repeat refine aa rfl ?_
  refine ak rfl rfl rfl hta rfl rfl ?_
  repeat refine aa rfl ?_
  refine ak rfl rfl rfl htb rfl rfl ?_
  repeat refine aa rfl ?_
  refine ab rfl ?_ ?_<;>intro h
  ·exact absurd (by have:=of_decide_eq_true h;omega) hbl
  clear h
  repeat refine aa rfl ?_
  refine ak rfl rfl rfl hg rfl rfl ?_
  repeat refine aa rfl ?_
  refine ak rfl rfl rfl d1 rfl rfl ?_
  repeat refine aa rfl ?_
  refine ak rfl rfl rfl d2 rfl rfl ?_
  repeat refine aa rfl ?_
  refine ak rfl rfl rfl m1 rfl rfl ?_
  repeat refine aa rfl ?_
  refine ak rfl rfl rfl m2 rfl rfl ?_
  repeat refine aa rfl ?_
  exact aF rfl rfl rfl
theorem dA (x:RR) (hn:x.n.l.length≤90000000) (hd:x.d.l.length≤90000000):Ret Tryz.prog .shared 70 [.agg (eR x)] (.agg (eR (ofQ x.val))):=by
 have h:=gO x.n x.d hn hd
 rw[show(x.n.val:Rat)/(x.d.den:Rat)=x.val from rfl]at h
 generalize ofQ x.val=X at *
 refine Ret.of_pwp layOk mixed Go.Proofs.Tryz.func70 rfl (by decide) rfl rfl ?_
 repeat refine aa rfl ?_
 refine ak rfl rfl rfl h rfl rfl ?_
 repeat refine aa rfl ?_
 exact aF rfl rfl rfl
theorem dY (q:Rat):(ofQ q).n.val=q.num:=bM _
theorem cH (q:Rat):(ofQ q).d.val=(q.den:Int):=by rw[l0];exact bM _
theorem wU (x:RR) {p:Rat} {n:Nat} [hx:Vq x p n] (hn:n≤50000000):Ret Tryz.prog .shared 145 [.agg (eR x)] (.agg (eR (ofQ (-p)))):=by
 have h1:=hx.sz
 have hh:=hx.hq
 have hl:=dp hh.ok
 have hnm:=dA x (by omega) (by omega)
 rw[hx.val]at hnm
 have hng:=zZ (ofQ p).n (by omega)
 rw[dY]at hng
 have e:ofQ (-p)=⟨bO (-p.num),(ofQ p).d⟩:=by rw[l0,l0];simp
 rw[e]
 generalize bO (-p.num)=Z at *
 generalize ofQ p=P at *
 refine Ret.of_pwp layOk mixed Go.Proofs.Tryz.func145 rfl (by decide) rfl rfl ?_
 repeat refine aa rfl ?_
 refine ak rfl rfl rfl hnm rfl rfl ?_
 repeat refine aa rfl ?_
 refine ah 6 [6,7,8,9,10,11] (by decide +kernel) ?_
 repeat refine aa rfl ?_
 refine ak rfl rfl rfl hng rfl rfl ?_
 repeat refine aa rfl ?_
 exact aF rfl rfl rfl
theorem BU (q:Rat):nv (ofQ q).d.l≠0:=by
 have:=cH q
 have h2:=(ofQ q).d.val_abs
 rw[this]at h2
 have:=q.den_pos
 omega
theorem kM {a:RI} (h:nv a.l≠0):a.den=a.val:=by rw[RI.den,if_neg h]
set_option maxRecDepth 20000 in
theorem wT (x y:RR) {p q:Rat} {n m:Nat} [hx:Vq x p n] [hy:Vq y q m] (hn:n≤20000000) (hm:m≤20000000):Ret Tryz.prog .shared 143 [.agg (eR x),.agg (eR y)] (.agg (eR (ofQ (p*q)))):=by
 have h1:=hx.sz
 have h2:=hy.sz
 have l1:=dp hx.hq.ok
 have l2:=dp hy.hq.ok
 have n1:=dA x (by omega) (by omega)
 have n2:=dA y (by omega) (by omega)
 rw[hx.val]at n1
 rw[hy.val]at n2
 have m1:=fu (ofQ p).n (ofQ q).n (by omega) (by omega)
 have m2:=fu (ofQ p).d (ofQ q).d (by omega) (by omega)
 have k1:=bZ (ofQ p).n (ofQ q).n
 have k2:=bZ (ofQ p).d (ofQ q).d
 have m3:=gO (bO ((ofQ p).n.val*(ofQ q).n.val)) (bO ((ofQ p).d.val*(ofQ q).d.val)) (by omega) (by omega)
 have hne:nv (bO ((ofQ p).d.val*(ofQ q).d.val)).l≠0:=by
  rw[lz,aD,cH,cH,Int.natAbs_mul]
  have:=Nat.mul_pos p.den_pos q.den_pos
  simp only[Int.natAbs_natCast];omega
 rw[kM hne,bM,bM,dY,dY,cH,cH,←p_,←dZ,←dZ]at m3
 rw[dY,dY]at m1
 rw[cH,cH]at m2
 generalize bO (p.num*q.num)=Z1 at *
 generalize bO ((p.den:Int)*(q.den:Int))=Z2 at *
 generalize ofQ (p*q)=R at *
 generalize ofQ p=P at *
 generalize ofQ q=Q at *
 refine Ret.of_pwp layOk mixed Go.Proofs.Tryz.func143 rfl (by decide) rfl rfl ?_
 repeat refine aa rfl ?_
 refine aU 4 2 [7,8,9,10,5,6] [] (by decide +kernel) rfl ?_
 repeat refine aa rfl ?_
 refine ak rfl rfl rfl n1 rfl rfl ?_
 repeat refine aa rfl ?_
 refine ak rfl rfl rfl n2 rfl rfl ?_
 repeat refine aa rfl ?_
 refine ah 11 [11,12,13,14,15,16,17,18,19,20,21] (by decide +kernel) ?_
 repeat refine aa rfl ?_
 refine ak rfl rfl rfl m1 rfl rfl ?_
 repeat refine aa rfl ?_
 refine ak rfl rfl rfl m2 rfl rfl ?_
 repeat refine aa rfl ?_
 refine ak rfl rfl rfl m3 rfl rfl ?_
 repeat refine aa rfl ?_
 exact aF rfl rfl rfl
set_option maxRecDepth 20000 in
theorem wY (x y:RR) {p q:Rat} {n m:Nat} [hx:Vq x p n] [hy:Vq y q m] (hn:n≤20000000) (hm:m≤20000000) (h0:q≠0):Ret Tryz.prog .shared 156 [.agg (eR x),.agg (eR y)] (.agg (eR (ofQ (p/q)))):=by
 have h1:=hx.sz
 have h2:=hy.sz
 have l1:=dp hx.hq.ok
 have l2:=dp hy.hq.ok
 have n1:=dA x (by omega) (by omega)
 have n2:=dA y (by omega) (by omega)
 rw[hx.val]at n1
 rw[hy.val]at n2
 have m1:=fu (ofQ p).n (ofQ q).d (by omega) (by omega)
 have m2:=fu (ofQ p).d (ofQ q).n (by omega) (by omega)
 have k1:=bZ (ofQ p).n (ofQ q).d
 have k2:=bZ (ofQ p).d (ofQ q).n
 have m3:=gO (bO ((ofQ p).n.val*(ofQ q).d.val)) (bO ((ofQ p).d.val*(ofQ q).n.val)) (by omega) (by omega)
 have hne:nv (bO ((ofQ p).d.val*(ofQ q).n.val)).l≠0:=by
  rw[lz,aD,cH,dY,Int.natAbs_mul]
  have hq:q.num≠0:=fun h=>h0 (Rat.num_eq_zero.1 h)
  have:=Nat.mul_pos p.den_pos (show 0<q.num.natAbs by omega)
  simp only[Int.natAbs_natCast];omega
 rw[kM hne,bM,bM,dY,dY,cH,cH,←p9,←dZ,←dZ]at m3
 rw[dY,cH]at m1
 rw[cH,dY]at m2
 generalize bO (p.num*(q.den:Int))=Z1 at *
 generalize bO ((p.den:Int)*q.num)=Z2 at *
 generalize ofQ (p/q)=R at *
 generalize ofQ p=P at *
 generalize ofQ q=Q at *
 refine Ret.of_pwp layOk mixed Go.Proofs.Tryz.func156 rfl (by decide) rfl rfl ?_
 repeat refine aa rfl ?_
 refine aU 4 2 [7,8,9,10,5,6] [] (by decide +kernel) rfl ?_
 repeat refine aa rfl ?_
 refine ak rfl rfl rfl n1 rfl rfl ?_
 repeat refine aa rfl ?_
 refine ak rfl rfl rfl n2 rfl rfl ?_
 repeat refine aa rfl ?_
 refine ah 11 [11,12,13,14,15,16,17,18,19,20,21] (by decide +kernel) ?_
 repeat refine aa rfl ?_
 refine ak rfl rfl rfl m1 rfl rfl ?_
 repeat refine aa rfl ?_
 refine ak rfl rfl rfl m2 rfl rfl ?_
 repeat refine aa rfl ?_
 refine ak rfl rfl rfl m3 rfl rfl ?_
 repeat refine aa rfl ?_
 exact aF rfl rfl rfl
set_option maxRecDepth 20000 in
theorem oO (x y:RR) {p q:Rat} {n m:Nat} [hx:Vq x p n] [hy:Vq y q m] (hn:n≤20000000) (hm:m≤20000000):Ret Tryz.prog .shared 142 [.agg (eR x),.agg (eR y)] (.agg (eR (ofQ (p+q)))):=by
 have h1:=hx.sz
 have h2:=hy.sz
 have l1:=dp hx.hq.ok
 have l2:=dp hy.hq.ok
 have n1:=dA x (by omega) (by omega)
 have n2:=dA y (by omega) (by omega)
 rw[hx.val]at n1
 rw[hy.val]at n2
 have m1:=fu (ofQ p).n (ofQ q).d (by omega) (by omega)
 have m2:=fu (ofQ q).n (ofQ p).d (by omega) (by omega)
 have m4:=fu (ofQ p).d (ofQ q).d (by omega) (by omega)
 have k1:=bZ (ofQ p).n (ofQ q).d
 have k2:=bZ (ofQ q).n (ofQ p).d
 have k4:=bZ (ofQ p).d (ofQ q).d
 have m5:=zR (bO ((ofQ p).n.val*(ofQ q).d.val)) (bO ((ofQ q).n.val*(ofQ p).d.val)) (by omega) (by omega)
 have k5:=rH (bO ((ofQ p).n.val*(ofQ q).d.val)) (bO ((ofQ q).n.val*(ofQ p).d.val)) (n:=50000000) (by omega) (by omega)
 rw[bM,bM]at m5 k5
 have m3:=gO (bO ((ofQ p).n.val*(ofQ q).d.val+(ofQ q).n.val*(ofQ p).d.val)) (bO ((ofQ p).d.val*(ofQ q).d.val)) (by omega) (by omega)
 have hne:nv (bO ((ofQ p).d.val*(ofQ q).d.val)).l≠0:=by
  rw[lz,aD,cH,cH,Int.natAbs_mul]
  have:=Nat.mul_pos p.den_pos q.den_pos
  simp only[Int.natAbs_natCast];omega
 rw[kM hne,bM,bM,dY,dY,cH,cH,←p8 _ _ _ _ (b_ p) (b_ q),←dZ,←dZ]at m3
 rw[dY,cH]at m1
 rw[dY,cH]at m2
 rw[cH,cH]at m4
 rw[dY,dY,cH,cH]at m5
 generalize bO (p.num*(q.den:Int)+q.num*(p.den:Int))=Z5 at *
 generalize bO (p.num*(q.den:Int))=Z1 at *
 generalize bO (q.num*(p.den:Int))=Z2 at *
 generalize bO ((p.den:Int)*(q.den:Int))=Z4 at *
 generalize ofQ (p+q)=R at *
 generalize ofQ p=P at *
 generalize ofQ q=Q at *
 refine Ret.of_pwp layOk mixed Go.Proofs.Tryz.func142 rfl (by decide) rfl rfl ?_
 repeat refine aa rfl ?_
 refine aU 4 2 [7,8,9,10,5,6] [] (by decide +kernel) rfl ?_
 repeat refine aa rfl ?_
 refine ak rfl rfl rfl n1 rfl rfl ?_
 repeat refine aa rfl ?_
 refine ak rfl rfl rfl n2 rfl rfl ?_
 repeat refine aa rfl ?_
 refine ah 17 [11,12,13,14,15,16,17,18,19,20,21,22,23,24,25,26,27] (by decide +kernel) ?_
 repeat refine aa rfl ?_
 refine ak rfl rfl rfl m1 rfl rfl ?_
 repeat refine aa rfl ?_
 refine ak rfl rfl rfl m2 rfl rfl ?_
 repeat refine aa rfl ?_
 refine ak rfl rfl rfl m5 rfl rfl ?_
 repeat refine aa rfl ?_
 refine ak rfl rfl rfl m4 rfl rfl ?_
 repeat refine aa rfl ?_
 refine ak rfl rfl rfl m3 rfl rfl ?_
 repeat refine aa rfl ?_
 exact aF rfl rfl rfl
theorem oX (x y:RR) {p q:Rat} {n m:Nat} [hx:Vq x p n] [hy:Vq y q m] (hn:n≤10000000) (hm:m≤10000000):Ret Tryz.prog .shared 80 [.agg (eR x),.agg (eR y)] (.agg (eR (ofQ (p-q)))):=by
 have h1:=wU y (by omega)
 have vn:Vq (ofQ (-q)) (-q) (m+1):=Vq.ofQ (h:=@HQ.neg _ _ hy.hq)
 have h2:=oO x (ofQ (-q)) (hy:=vn) (by omega) (by omega)
 rw[←Rat.sub_eq_add_neg]at h2
 generalize ofQ (-q)=Y at *
 generalize ofQ (p-q)=X at *
 refine Ret.of_pwp layOk mixed Go.Proofs.Tryz.func80 rfl (by decide) rfl rfl ?_
 repeat refine aa rfl ?_
 refine ah 4 [5,6,7,8] (by decide +kernel) ?_
 repeat refine aa rfl ?_
 refine ak rfl rfl rfl h1 rfl rfl ?_
 repeat refine aa rfl ?_
 refine ak rfl rfl rfl h2 rfl rfl ?_
 repeat refine aa rfl ?_
 exact aF rfl rfl rfl
theorem B6 (p:Rat):kC p.num=sgn p:=by
 have h1:(ofQ p).val=p:=ofQ_val p
 have h2:=uW (ofQ p)
 rw[h1,dY]at h2
 have h3:(dn (ofQ p)).val=(p.den:Int):=by rw[dn,if_neg (BU p),cH]
 rw[h3]at h2
 rw[h2]
 have:=p.den_pos
 have h4:kC (p.den:Int)=1:=by unfold kC;split<;>(try split)<;>omega
 rw[h4];omega
theorem nu (x:RR) {p:Rat} {n:Nat} [hx:Vq x p n] (hn:n≤50000000):Ret Tryz.prog .shared 23 [.agg (eR x)] (I (sgn p)):=by
 have h1:=hx.sz
 have hl:=dp hx.hq.ok
 have hnm:=dA x (by omega) (by omega)
 rw[hx.val]at hnm
 have hs:=wZ (ofQ p).n (by omega)
 rw[dY,B6]at hs
 generalize sgn p=g at *
 generalize ofQ p=P at *
 obtain⟨Pn,Pd⟩:=P
 simp only at *
 refine Ret.of_pwp layOk mixed Go.Proofs.Tryz.func23 rfl (by decide) rfl rfl ?_
 repeat refine aa rfl ?_
 refine ak rfl rfl rfl hnm rfl rfl ?_
 repeat refine aa rfl ?_
 refine aP rfl rfl rfl hs rfl rfl rfl ?_
 repeat refine aa rfl ?_
 exact aO rfl rfl rfl
theorem cS (x y:RR) {p q:Rat} {n m:Nat} [hx:Vq x p n] [hy:Vq y q m] (hn:n≤10000000) (hm:m≤10000000):Ret Tryz.prog .shared 28 [.agg (eR x),.agg (eR y)] (I (sgn (p-q))):=by
 have h1:=oX x y hn hm
 have vs:Vq (ofQ (p-q)) (p-q) (n+1+(m+1)+1):=Vq.ofQ (h:=@HQ.sub _ _ _ _ hx.hq hy.hq)
 have h2:=nu (ofQ (p-q)) (hx:=vs) (by omega)
 generalize ofQ (p-q)=X at *
 generalize sgn (p-q)=g at *
 refine Ret.of_pwp layOk mixed Go.Proofs.Tryz.func28 rfl (by decide) rfl rfl ?_
 repeat refine aa rfl ?_
 refine ak rfl rfl rfl h1 rfl rfl ?_
 repeat refine aa rfl ?_
 refine aP rfl rfl rfl h2 rfl rfl rfl ?_
 repeat refine aa rfl ?_
 exact aO rfl rfl rfl
def cJ (x:Rat):Rat:=if 0<x then x else 0
def fe (x y:Rat):Rat:=if y<x then y else x
def aI (M:Nat→Rat):Nat→Rat
 |0=>0
 |k+1=>M k
def cX (S M:Nat→Rat) (y:Rat) (k:Nat):Rat:=if y-S k<0 then 0 else(M k-aI M k)*(y-S k)
def dU (S:Nat→Rat) (n:Nat) (y:Rat) (k:Nat):Rat:=if k+1<n then fe y (S (k+1)) else y
def bR (S M:Nat→Rat) (n:Nat) (y:Rat) (k:Nat):Rat:=M k*cJ (dU S n y k-S k)
theorem kU {S M:Nat→Rat} {y:Rat} (k:Nat):cX S M y k=(M k-aI M k)*cJ (y-S k):=by
 rw[cX,cJ];grind
theorem oP (S M:Nat→Rat) (y:Rat):∀(k n:Nat),(∀i,i<k→S i<S (i+1))→k<n→ac (cX S M y) (k+1)=ac (bR S M n y) k+M k*cJ (y-S k)
 |0,n,_,_=>by
  rw[ac,ac,ac,kU,aI];grind
 |k+1,n,h,hk=>by
  have ih:=oP S M y k n (fun i hi=>h i (by omega)) (by omega)
  have hs:=h k (by omega)
  rw[ac,ih,kU,aI,ac,bR,dU,if_pos hk]
  have key:cJ (y-S k)=cJ (fe y (S (k+1))-S k)+cJ (y-S (k+1)):=by
   simp only[cJ,fe];grind
  rw[key];grind
theorem d9 {S M:Nat→Rat} {y:Rat} {n:Nat} (h:∀i,i+1<n→S i<S (i+1)):ac (cX S M y) n=ac (bR S M n y) n:=by
 cases n with
 |zero=>rfl
 |succ k =>
  rw[oP S M y k (k+1) (fun i hi=>h i (by omega)) (by omega)]
  rw[ac,bR,dU,if_neg (by omega)]
theorem l8 {f g:Nat→Rat}:∀ {n:Nat},(∀k,k<n→f k≤g k)→ac f n≤ac g n
 |0,_=>Rat.le_refl
 |n+1,h=>by
  have h1:=l8 (n:=n) fun k hk=>h k (by omega)
  have h2:=h n (by omega)
  rw[ac,ac];grind
theorem nI {f g:Nat→Rat}:∀ {n:Nat},ac (fun k=>f k+g k) n=ac f n+ac g n
 |0=>by rw[ac,ac,ac];grind
 |n+1=>by rw[ac,ac,ac,nI];grind
theorem iH {f:Nat→Rat} {c:Rat}:∀ {n:Nat},ac (fun k=>f k*c) n=ac f n*c
 |0=>by rw[ac,ac];grind
 |n+1=>by rw[ac,ac,iH];grind
theorem gx {f:Nat→Rat}:∀ {n:Nat},(∀k,k<n→f k=0)→ac f n=0
 |0,_=>rfl
 |n+1,h=>by rw[ac,gx fun k hk=>h k (by omega),h n (by omega)];grind
theorem fy {f:Nat→Rat}:∀ {n i:Nat},(∀k,k<n→0≤f k)→i<n→f i≤ac f n
 |0,_,_,hi=>by omega
 |n+1,i,h,hi=>by
  have h0:=dE (f:=f) (n:=n) fun k hk=>h k (by omega)
  rw[ac]
  by_cases he:i=n
  ·subst he;grind
  ·have:=fy (f:=f) (n:=n) (i:=i) (fun k hk=>h k (by omega)) (by omega)
   have:=h n (by omega)
   grind
theorem AB {f:Nat→Rat} {n:Nat} (h:0<ac f n) (h0:∀k,k<n→0≤f k):∃k,k<n∧0<f k:=by
 by_cases hx:∃k,k<n∧0<f k
 ·exact hx
 ·have:ac f n=0:=gx fun k hk=>by
   have h1:=h0 k hk
   have h2:¬0<f k:=fun h=>hx ⟨k,hk,h⟩
   grind
  rw[this]at h
  exact absurd h (by grind)
structure Crv (n:Nat) (S M:Nat→Rat):Prop where
 asc:∀k,k+1<n→S k<S (k+1)
 nn:∀k,k<n→0≤M k
def b7 (n:Nat) (S M:Nat→Rat) (y:Rat):Rat:=ac (cX S M y) n
def gc (S M:Nat→Rat) (p:Nat):Rat:=ac (fun k=>(M k-aI M k)*S k) p
def InL (n:Nat) (S:Nat→Rat) (p:Nat) (y:Rat):Prop:=p≤n∧(∀k,p=k+1→S k<y)∧(p<n→y≤S p)
def xU (n:Nat) (S:Nat→Rat) (p:Nat) (y:Rat):Prop:=p≤n∧(∀k,p=k+1→S k≤y)∧(p<n→y≤S p)
section
variable {n:Nat} {S M:Nat→Rat} {y:Rat} {p:Nat}
theorem InL.c (h:InL n S p y):xU n S p y:=⟨h.1,fun k hk=>by have:=h.2.1 k hk;grind,h.2.2⟩
theorem Crv.mono_st (h:Crv n S M):∀ {j i:Nat},i≤j→j<n→S i≤S j
 |0,i,h1,_=>by
  have:i=0:=by omega
  subst this;exact Rat.le_refl
 |j+1,i,h1,h2=>by
  by_cases he:i=j+1
  ·subst he;exact Rat.le_refl
  ·have:=h.mono_st (j:=j) (i:=i) (by omega) (by omega)
   have:=h.asc j (by omega)
   grind
theorem InL.some (h:Crv n S M) (y:Rat):∀(m:Nat),m≤n→∃p,p≤m∧(∀k,p=k+1→S k<y)∧(p<m→y≤S p)
 |0,_=>⟨0,Nat.le_refl _,fun k hk=>by omega,fun hk=>by omega⟩
 |m+1,hm=>by
  by_cases hy:S m<y
  ·exact⟨m+1,Nat.le_refl _,fun k hk=>by have:k=m:=by omega
                                        subst this;exact hy,fun hk=>by omega⟩
  ·obtain⟨p,h1,h2,h3⟩:=InL.some h y m (by omega)
   refine⟨p,by omega,h2,fun _=>?_⟩
   by_cases hp:p<m
   ·exact h3 hp
   ·have:p=m:=by omega
    subst this;grind
theorem InL.get (h:Crv n S M) (y:Rat):∃p,InL n S p y:=InL.some h y n (Nat.le_refl _)
theorem oE:∀(p:Nat),ac (fun k=>(M k-aI M k)*(y-S k)) p=aI M p*y-gc S M p
 |0=>by rw[ac,gc,ac,aI];grind
 |p+1=>by rw[ac,oE p,gc,gc,ac,aI];grind
theorem dF (h:Crv n S M) (hp:xU n S p y):b7 n S M y=aI M p*y-gc S M p:=by
 obtain⟨h1,h2,h3⟩:=hp
 rw[←oE,b7]
 have key:∀m,p+m≤n→ac (cX S M y) (p+m)=ac (fun k=>(M k-aI M k)*(y-S k)) p:=by
  intro m
  induction m with
  |zero =>
   intro _
   refine aY fun k hk=>?_
   have:S k≤y:=by
    cases p with
    |zero=>omega
    |succ p =>
     have:=h2 p rfl
     have:=h.mono_st (i:=k) (j:=p) (by omega) (by omega)
     grind
   rw[cX,if_neg (by grind)]
  |succ m ih =>
   intro hm
   rw[Nat.add_succ,ac,ih (by omega),cX]
   have h4:=h3 (by omega)
   have h5:=h.mono_st (i:=p) (j:=p+m) (by omega) (by omega)
   split
   ·grind
   ·have:y-S (p+m)=0:=by grind
    rw[this];grind
 have:=key (n-p) (by omega)
 rwa [show p+(n-p)=n by omega]at this
theorem pq (h:Crv n S M) (hp:p≤n):0≤aI M p:=by
 cases p with
 |zero=>rw[aI];exact Rat.le_refl
 |succ p=>exact h.nn p (by omega)
theorem BK (x:Rat):0≤cJ x:=by rw[cJ];grind
theorem wG {x z:Rat} (h:x≤z):cJ x≤cJ z:=by simp only[cJ];grind
theorem Du (h:Crv n S M):0≤b7 n S M y:=by
 rw[b7,d9 h.asc]
 refine dE fun k hk=>?_
 rw[bR]
 exact Rat.mul_nonneg (h.nn k hk) (BK _)
theorem gy (h:Crv n S M) {x z:Rat} (hx:x≤z):b7 n S M x≤b7 n S M z:=by
 rw[b7,b7,d9 h.asc,d9 h.asc]
 refine l8 fun k hk=>?_
 rw[bR,bR]
 refine Rat.mul_le_mul_of_nonneg_left (wG ?_) (h.nn k hk)
 have:dU S n x k≤dU S n z k:=by
  simp only[dU,fe];grind
 grind
def kI (n:Nat) (S M:Nat→Rat):Rat:=gc S M n*(-1)
theorem ky (h:Crv n S M) (hl:xU n S n y) (h0:aI M n=0):b7 n S M y=kI n S M:=by
 rw[dF h hl,h0,kI];grind
theorem xE (h:Crv n S M) (hl:xU n S 0 y):b7 n S M y=0:=by
 rw[dF h hl,aI,gc,ac];grind
end
structure Bd where
 N:Nat
 X:Nat→Rat
 C:Nat→Rat
 n:Nat→Nat
 S:Nat→Nat→Rat
 M:Nat→Nat→Rat
 w:Rat
 A:Rat
structure Bd.Ok (b:Bd):Prop where
 crv:∀i,i<b.N→Crv (b.n i) (b.S i) (b.M i)
 pos:0<b.w
namespace Bd
variable {b:Bd}
def y (b:Bd) (z t:Rat) (i:Nat):Rat:=b.C i+(z+t*b.X i)
def f (b:Bd) (z t:Rat) (i:Nat):Rat:=b7 (b.n i) (b.S i) (b.M i) (b.y z t i)
def F (b:Bd) (z t:Rat):Rat:=ac (b.f z t) b.N
def G (b:Bd) (z t:Rat):Rat:=ac (fun i=>b.f z t i*b.X i) b.N
def e (b:Bd) (z t:Rat):Rat:=b.G z t-b.w*b.A
def Least (b:Bd) (z t:Rat):Prop:=b.F z t=b.w∧∀z',z'<z→b.F z' t<b.w
def Bal (b:Bd) (z t:Rat):Prop:=b.F z t=b.w∧b.G z t=b.w*b.A
theorem Dc (h:b.Ok) {z z' t:Rat} (hz:z≤z') {i:Nat} (hi:i<b.N):b.f z t i≤b.f z' t i:=gy (h.crv i hi) (by rw[y,y];grind)
theorem CO (h:b.Ok) {z z' t:Rat} (hz:z≤z'):b.F z t≤b.F z' t:=l8 fun _ hi=>Dc h hz hi
theorem Dd (h:b.Ok) {z t:Rat} {i:Nat} (hi:i<b.N):0≤b.f z t i:=Du (h.crv i hi)
theorem AK (h:b.Ok) (z t z' t':Rat) {i:Nat} (hi:i<b.N):0≤(b.f z t i-b.f z' t' i)*(b.y z t i-b.y z' t' i):=by
 have hc:=h.crv i hi
 by_cases hy:b.y z t i≤b.y z' t' i
 ·have h1:=gy hc hy
  have:(b.f z t i-b.f z' t' i)*(b.y z t i-b.y z' t' i)=(b.f z' t' i-b.f z t i)*(b.y z' t' i-b.y z t i):=by grind
  rw[this]
  exact Rat.mul_nonneg (by rw[f,f];grind) (by grind)
 ·have h1:=gy hc (x:=b.y z' t' i) (z:=b.y z t i) (by grind)
  exact Rat.mul_nonneg (by rw[f,f];grind) (by grind)
theorem Ce (b:Bd) (z t z' t':Rat):ac (fun i=>(b.f z t i-b.f z' t' i)*(b.y z t i-b.y z' t' i)) b.N=(b.F z t-b.F z' t')*(z-z')+(b.G z t-b.G z' t')*(t-t'):=by
 have key:∀n,ac (fun i=>(b.f z t i-b.f z' t' i)*(b.y z t i-b.y z' t' i)) n=(ac (b.f z t) n-ac (b.f z' t') n)*(z-z')+(ac (fun i=>b.f z t i*b.X i) n-ac (fun i=>b.f z' t' i*b.X i) n)*(t-t'):=by
  intro n
  induction n with
  |zero=>simp only[ac];grind
  |succ n ih =>
   simp only[ac]
   rw[ih,y,y];grind
 exact key b.N
theorem lJ (h:b.Ok) {z t z' t':Rat} (hF:b.F z t=b.F z' t') (hG:b.G z t=b.G z' t'∨t=t') {i:Nat} (hi:i<b.N):b.f z t i=b.f z' t' i:=by
 have h0:ac (fun i=>(b.f z t i-b.f z' t' i)*(b.y z t i-b.y z' t' i)) b.N=0:=by
  rw[Ce,hF]
  rcases hG with hG|ht
  ·rw[hG];grind
  ·rw[ht];grind
 have h1:=fy (f:=fun i=>(b.f z t i-b.f z' t' i)*(b.y z t i-b.y z' t' i)) (n:=b.N) (i:=i) (fun k hk=>AK h z t z' t' hk) hi
 rw[h0]at h1
 have h2:=AK h z t z' t' hi
 have h3:(b.f z t i-b.f z' t' i)*(b.y z t i-b.y z' t' i)=0:=by grind
 rcases Rat.mul_eq_zero.1 h3 with h4|h4
 ·grind
 ·rw[f,f,show b.y z t i=b.y z' t' i by grind]
theorem Ac (h:b.Ok) {z t z':Rat} (hF:b.F z t=b.F z' t):b.G z t=b.G z' t:=aY fun i hi=>by rw[lJ h hF (.inr rfl) hi]
def Inl (b:Bd) (p:Nat→Nat) (z t:Rat):Prop:=∀i,i<b.N→InL (b.n i) (b.S i) (p i) (b.y z t i)
def Inc (b:Bd) (p:Nat→Nat) (z t:Rat):Prop:=∀i,i<b.N→xU (b.n i) (b.S i) (p i) (b.y z t i)
def k (b:Bd) (p:Nat→Nat) (i:Nat):Rat:=aI (b.M i) (p i)
def o (b:Bd) (p:Nat→Nat) (i:Nat):Rat:=gc (b.S i) (b.M i) (p i)
def Kh (b:Bd) (p:Nat→Nat):Rat:=ac (b.k p) b.N
def Kc (b:Bd) (p:Nat→Nat):Rat:=ac (fun i=>b.k p i*b.X i) b.N
def Kp (b:Bd) (p:Nat→Nat):Rat:=ac (fun i=>b.k p i*b.X i*b.X i) b.N
def Fo (b:Bd) (p:Nat→Nat):Rat:=ac (fun i=>b.k p i*b.C i-b.o p i) b.N
def Go (b:Bd) (p:Nat→Nat):Rat:=ac (fun i=>(b.k p i*b.C i-b.o p i)*b.X i) b.N
theorem Inl.c {p:Nat→Nat} {z t:Rat} (h:b.Inl p z t):b.Inc p z t:=fun i hi=>(h i hi).c
theorem pO (h:b.Ok) (z t:Rat):∃p,b.Inl p z t:=by
 have:=fun i=>Classical.em (i<b.N)
 refine⟨fun i=>if hi:i<b.N then Classical.choose (InL.get (h.crv i hi) (b.y z t i)) else 0,fun i hi=>?_⟩
 simp only[dif_pos hi]
 exact Classical.choose_spec (InL.get (h.crv i hi) (b.y z t i))
theorem Bk (h:b.Ok) {p:Nat→Nat} {z t:Rat} (hp:b.Inc p z t) {i:Nat} (hi:i<b.N):b.f z t i=b.k p i*b.y z t i-b.o p i:=dF (h.crv i hi) (hp i hi)
theorem F_at (h:b.Ok) {p:Nat→Nat} {z t:Rat} (hp:b.Inc p z t):b.F z t=b.Kh p*z+b.Kc p*t+b.Fo p:=by
 rw[F,aY (g:=fun i=>b.k p i*b.y z t i-b.o p i) fun i hi=>Bk h hp hi]
 have key:∀n,ac (fun i=>b.k p i*b.y z t i-b.o p i) n=ac (b.k p) n*z+ac (fun i=>b.k p i*b.X i) n*t+ac (fun i=>b.k p i*b.C i-b.o p i) n:=by
  intro n
  induction n with
  |zero=>simp only[ac];grind
  |succ n ih=>simp only[ac];rw[ih,y];grind
 exact key b.N
theorem G_at (h:b.Ok) {p:Nat→Nat} {z t:Rat} (hp:b.Inc p z t):b.G z t=b.Kc p*z+b.Kp p*t+b.Go p:=by
 rw[G,aY (g:=fun i=>(b.k p i*b.y z t i-b.o p i)*b.X i) fun i hi=>by rw[Bk h hp hi]]
 have key:∀n,ac (fun i=>(b.k p i*b.y z t i-b.o p i)*b.X i) n=ac (fun i=>b.k p i*b.X i) n*z+ac (fun i=>b.k p i*b.X i*b.X i) n*t+ac (fun i=>(b.k p i*b.C i-b.o p i)*b.X i) n:=by
  intro n
  induction n with
  |zero=>simp only[ac];grind
  |succ n ih=>simp only[ac];rw[ih,y];grind
 exact key b.N
theorem y2 (h:b.Ok) {p:Nat→Nat} {z t:Rat} (hp:b.Inc p z t) {i:Nat} (hi:i<b.N):0≤b.k p i:=pq (h.crv i hi) (hp i hi).1
theorem v8 {p:Nat→Nat} {z t:Rat} (hp:b.Inl p z t):∃d,0<d∧∀d',0≤d'→d'≤d→b.Inl p (z-d') t:=by
 have key:∀m,m≤b.N→∃d:Rat,0<d∧∀d',0≤d'→d'≤d→∀i,i<m→InL (b.n i) (b.S i) (p i) (b.y (z-d') t i):=by
  intro m
  induction m with
  |zero=>exact fun _=>⟨1,by decide,fun _ _ _ i hi=>by omega⟩
  |succ m ih =>
   intro hm
   obtain⟨d,h1,h2⟩:=ih (by omega)
   obtain⟨g1,g2,g3⟩:=hp m (by omega)
   obtain⟨d2,h3,h4⟩:∃d2:Rat,0<d2∧∀k,p m=k+1→b.S m k<b.y z t m-d2:=by
    cases hpm:p m with
    |zero=>exact⟨1,by decide,fun k hk=>by omega⟩
    |succ k =>
     have:=g2 k hpm
     refine⟨(b.y z t m-b.S m k)/2,by grind,fun k' hk'=>?_⟩
     obtain rfl:k=k':=by omega
     grind
   refine⟨fe d d2,by rw[fe];grind,fun d' h5 h6 i hi=>?_⟩
   have h7:d'≤d∧d'≤d2:=by rw[fe]at h6;grind
   by_cases he:i<m
   ·exact h2 d' h5 h7.1 i he
   ·obtain rfl:i=m:=by omega
    have hy:b.y (z-d') t i=b.y z t i-d':=by rw[y,y];grind
    refine⟨g1,fun k hk=>?_,fun hk=>?_⟩
    ·have:=h4 k hk;rw[hy];grind
    ·have:=g3 hk;rw[hy];grind
 obtain⟨d,h1,h2⟩:=key b.N (Nat.le_refl _)
 exact⟨d,h1,fun d' h3 h4 i hi=>h2 d' h3 h4 i hi⟩
theorem Least.K (h:b.Ok) {p:Nat→Nat} {z t:Rat} (hl:b.Least z t) (hp:b.Inl p z t):0<b.Kh p:=by
 obtain⟨d,h1,h2⟩:=v8 hp
 have h3:=F_at h hp.c
 have h4:=F_at h (h2 d (by grind) Rat.le_refl).c
 have h5:=hl.2 (z-d) (by grind)
 rw[h4]at h5
 rw[hl.1]at h3
 have h6:0<b.Kh p*d:=by grind
 have h7:0≤b.Kh p:=dE fun i hi=>y2 h hp.c hi
 by_cases h8:b.Kh p=0
 ·rw[h8]at h6;grind
 ·grind
theorem Least.uniq {z z' t:Rat} (h1:b.Least z t) (h2:b.Least z' t):z=z':=by
 rcases Classical.em (z<z') with hc|hc
 ·have:=h2.2 z hc;rw[h1.1]at this;grind
 ·rcases Classical.em (z'<z) with hd|hd
  ·have:=h1.2 z' hd;rw[h2.1]at this;grind
  ·grind
def ln (b:Bd) (p:Nat→Nat) (t:Rat):Rat:=(b.w-b.Fo p-b.Kc p*t)/b.Kh p
theorem ln_at (h:b.Ok) {p:Nat→Nat} {z t:Rat} (hF:b.F z t=b.w) (hp:b.Inc p z t) (hK:0<b.Kh p):z=b.ln p t:=by
 have h1:=F_at h hp
 rw[hF]at h1
 have hne:b.Kh p≠0:=by grind
 rw[ln];grind
theorem AW (h:b.Ok) {p:Nat→Nat} {t:Rat} (hp:b.Inc p (b.ln p t) t) (hK:0<b.Kh p):b.F (b.ln p t) t=b.w:=by
 have hne:b.Kh p≠0:=by grind
 rw[F_at h hp,ln];grind
def eln (b:Bd) (p:Nat→Nat) (t:Rat):Rat:=b.Kc p*b.ln p t+b.Kp p*t+b.Go p-b.w*b.A
theorem yE (h:b.Ok) {p:Nat→Nat} {t:Rat} (hp:b.Inc p (b.ln p t) t):b.e (b.ln p t) t=b.eln p t:=by rw[e,G_at h hp,eln]
end Bd
structure CR where
 S:List Int
 M:List RR
structure SR where
 x:Int
 c:RR
 k:CR
structure BR where
 w:Int
 a:RR
 l:List SR
def eN (z:Int):List PV:=[I z]
def eC (c:CR):List PV:=[.sl (c.S.map eN),.sl (c.M.map eR)]
def eS (s:SR):List PV:=I s.x::(eR s.c++eC s.k)
def eB (b:BR):List PV:=I b.w::(eR b.a++[.sl (b.l.map eS)])
def RR.sz (x:RR) (n:Nat):Prop:=x.n.l.length≤n∧x.d.l.length≤n
theorem RR.sz.v {x:RR} {n:Nat} (h:x.sz n):Vq x x.val n:=Vq.raw h.1 h.2
def i64 (z:Int):Prop := -9223372036854775808≤z∧z≤9223372036854775807
structure CR.Lim (c:CR):Prop where
 s:∀z∈c.S,i64 z
 m:∀x∈c.M,x.sz 12
 ls:c.S.length≤1000000000
 lm:c.M.length≤1000000000
theorem eE (p:Rat):sgn p<0↔p<0:=by unfold sgn;split<;>(try split)<;>simp_all<;>omega
theorem fV (p:Rat):sgn p=0↔p=0:=by
 unfold sgn
 split
 ·rename_i h;constructor
  ·intro h1;omega
  ·intro h1;subst h1;grind
 ·split<;>simp_all
theorem fw (p:Rat):0<sgn p↔0<p:=by
 unfold sgn
 split
 ·rename_i h;constructor
  ·intro h1;omega
  ·intro h1;grind
 ·rename_i h;split
  ·rename_i h1;subst h1;simp
  ·constructor
   ·intro _;grind
   ·intro _;omega
theorem tO (p:Rat):0≤sgn p↔0≤p:=by
 have h1:=eE p
 constructor
 ·intro h;have:¬p<0:=fun h2=>by have:=h1.2 h2;omega
  grind
 ·intro h;have:¬sgn p<0:=fun h2=>by have:=h1.1 h2;grind
  omega
theorem tP (p:Rat):sgn p≤0↔p≤0:=by
 have h1:=fw p
 constructor
 ·intro h;have:¬0<p:=fun h2=>by have:=h1.2 h2;omega
  grind
 ·intro h;have:¬0<sgn p:=fun h2=>by have:=h1.1 h2;grind
  omega
def dD (c:CR) (i:Nat):Int :=
 if c.S.getD i 0 < -10000000∨10000000<c.S.getD i 0∨(c.M.getD i RR.zero).val<0 then 2
 else if 0<i∧c.S.getD i 0≤c.S.getD (i-1) 0 then 10 else 0
def cE (c:CR):Nat→Nat→Int
 |_,0=>0
 |i,k+1=>if dD c i=0 then cE c (i+1) k else dD c i
def br (c:CR):Int:=if 40<c.S.length then 8 else if c.M.length≠c.S.length then 11 else cE c 0 c.S.length
theorem aC {α:Type} {l:List α} {i:Nat} {d:α} (h:i<l.length):l[i]? = some (l.getD i d):=by
 rw[List.getD_eq_getElem?_getD,List.getElem?_eq_getElem h];rfl
set_option maxRecDepth 20000 in
theorem dL (c:CR) (hc:c.Lim):Ret Tryz.prog .shared 116 [.agg (eC c)] (I (br c)):=by
 obtain⟨S,M⟩:=c
 obtain⟨hs,hm,hls,hlm⟩:=hc
 simp only at hs hm hls hlm
 have hSl:(S.map eN).length=S.length:=by simp
 have hMl:(M.map eR).length=M.length:=by simp
 generalize hE:br ⟨S,M⟩=E
 simp only[br]at hE
 show Ret Tryz.prog .shared 116 [.agg [.sl (S.map eN),.sl (M.map eR)]] (I E)
 refine Ret.of_pwp layOk mixed Go.Proofs.Tryz.func116 rfl (by decide) rfl rfl ?_
 repeat refine aa rfl ?_
 refine ab rfl ?_ ?_<;>intro h
 ·have h1:=of_decide_eq_true h
  rw[if_pos (by omega)]at hE
  subst hE
  repeat refine aa rfl ?_
  exact aO rfl rfl rfl
 have h40:¬40<S.length:=by have h1:=of_decide_eq_false h;omega
 rw[if_neg h40]at hE
 clear h
 repeat refine aa rfl ?_
 refine ab rfl ?_ ?_<;>intro h
 ·have h1:M.length≠S.length:=by simp at h;omega
  rw[if_pos h1]at hE
  subst hE
  repeat refine aa rfl ?_
  exact aO rfl rfl rfl
 have hSM:M.length=S.length:=by simp at h;omega
 rw[if_neg (by omega)]at hE
 clear h
 repeat refine aa rfl ?_
 refine am (fun i:Nat=>i≤S.length∧cE ⟨S,M⟩ i (S.length-i)=E) (fun i=>[(17,.sl (S.map eN)),(18,I S.length),(19,I (i:Nat)),(1,.ptr 1 1 0 0)]) (fun _=>[(1,1,⟨69,2,[[.sl (S.map eN),.sl (M.map eR)]],2⟩)]) (fun i=>S.length-i) 0 ⟨Nat.zero_le _,hE⟩ ⟨rfl,by rw[←hSl];rfl,rfl,rfl,rfl,trivial⟩ ?_
 intro i s ⟨hi,hF⟩
 repeat refine aa rfl ?_
 refine ab rfl ?_ ?_<;>intro h
 ·have hlt:i<S.length:=by have:=of_decide_eq_true h;omega
  clear h
  obtain⟨k,hk⟩:∃k,S.length-i=k+1:=⟨S.length-i-1,by omega⟩
  rw[hk,cE]at hF
  have hx:=aC (d:=0) hlt
  have hmx:=aC (l:=M) (i:=i) (d:=RR.zero) (by omega)
  have hse:dD ⟨S,M⟩ i=dD ⟨S,M⟩ i:=rfl
  conv at hse=>rhs;rw[dD]
  simp only at hse
  generalize dD ⟨S,M⟩ i=se at *
  have hxb:=hs _ (List.mem_of_getElem? hx)
  have hmv:=(hm _ (List.mem_of_getElem? hmx)).v
  have hsg:=CF (M.getD i RR.zero) (hx:=hmv) (by decide)
  have hsl:=eE (M.getD i RR.zero).val
  generalize hx0:S.getD i 0=x at *
  generalize M.getD i RR.zero=m at *
  generalize sgn m.val=sg at *
  repeat refine aa rfl ?_
  refine aZ rfl rfl rfl rfl rfl rfl rfl hx rfl ?_
  repeat refine aa rfl ?_
  refine dr rfl rfl rfl ?_ ?_<;>intro h
  ·have h1:=of_decide_eq_true h
   clear h
   have hS2:se=2:=by rw[hse,if_pos (.inl h1)]
   rw[hS2,if_neg (by decide)]at hF
   subst hF
   repeat refine aa rfl ?_
   exact aO rfl rfl rfl
  ·have h1:=of_decide_eq_false h
   clear h
   repeat refine aa rfl ?_
   refine dr rfl rfl rfl ?_ ?_<;>intro h
   ·have h2:=of_decide_eq_true h
    clear h
    have hS2:se=2:=by rw[hse,if_pos (.inr (.inl h2))]
    rw[hS2,if_neg (by decide)]at hF
    subst hF
    repeat refine aa rfl ?_
    exact aO rfl rfl rfl
   ·have h2:=of_decide_eq_false h
    clear h
    repeat refine aa rfl ?_
    refine aZ rfl rfl rfl rfl rfl rfl rfl hmx rfl ?_
    repeat refine aa rfl ?_
    refine aP rfl rfl rfl hsg rfl rfl rfl ?_
    repeat refine aa rfl ?_
    refine ab rfl ?_ ?_<;>intro h
    ·have h3:=of_decide_eq_true h
     clear h
     have hS2:se=2:=by rw[hse,if_pos (.inr (.inr (hsl.1 h3)))]
     rw[hS2,if_neg (by decide)]at hF
     subst hF
     repeat refine aa rfl ?_
     exact aO rfl rfl rfl
    ·have h3:=of_decide_eq_false h
     clear h
     rw[if_neg (by rw[←hsl];omega)]at hse
     repeat refine aa rfl ?_
     refine dr rfl rfl rfl ?_ ?_<;>intro h
     ·have h4:=of_decide_eq_true h
      clear h
      obtain⟨j,rfl⟩:∃j,i=j+1:=⟨i-1,by omega⟩
      have hw1:IntKind.i64.wrap (((j+1:Nat):Int)-1)=((j:Nat):Int):=by rw[wrap_i64 (by omega) (by omega)];omega
      have hy:=aC (l:=S) (i:=j) (d:=0) (by omega)
      rw[show j+1-1=j by omega]at hse
      generalize S.getD j 0=y at *
      repeat refine aa rfl ?_
      rw[hw1]
      refine aZ rfl rfl rfl rfl rfl rfl rfl hy rfl ?_
      repeat refine aa rfl ?_
      refine ab rfl ?_ ?_<;>intro h
      ·have h5:=of_decide_eq_true h
       clear h
       have hS2:se=10:=by rw[hse,if_pos ⟨by omega,h5⟩]
       rw[hS2,if_neg (by decide)]at hF
       subst hF
       repeat refine aa rfl ?_
       exact aO rfl rfl rfl
      ·have h5:=of_decide_eq_false h
       clear h
       have hS2:se=0:=by rw[hse,if_neg (fun h=>h5 h.2)]
       rw[if_pos hS2]at hF
       have hw:IntKind.i64.wrap (((j+1:Nat):Int)+1)=((j+1+1:Nat):Int):=by rw[wrap_i64 (by omega) (by omega)];omega
       repeat refine aa rfl ?_
       exact⟨j+1+1,⟨by omega,by rw[show S.length-(j+1+1)=k by omega];exact hF⟩,by omega,rfl,rfl,congrArg I hw,rfl,rfl,trivial⟩
     ·have h4:=of_decide_eq_false h
      clear h
      have hS2:se=0:=by rw[hse,if_neg (fun h=>h4 (by omega))]
      rw[if_pos hS2]at hF
      have hw:=gz i
      repeat refine aa rfl ?_
      exact⟨i+1,⟨by omega,by rw[show S.length-(i+1)=k by omega];exact hF⟩,by omega,rfl,rfl,congrArg I hw,rfl,rfl,trivial⟩
 ·have hie:i=S.length:=by have:=of_decide_eq_false h;omega
  rw[hie,Nat.sub_self,cE]at hF
  subst hF
  repeat refine aa rfl ?_
  exact aO rfl rfl rfl
end Go.Pv
namespace Go.Pv
open Go.RowKit
variable [Globs]
def n6:List (Tmp × PV)→(Nat→PV)→Nat→PV
 |[],f=>f
 |(p,v)::l,f=>n6 l fun r=>bif Nat.beq r p then v else f r
theorem n7 {E:Env}:∀(ps:List Tmp) (cs:List PV) (vs:List Value) (f:Nat→PV) (tmps:Array Value),ps.length=cs.length→cs.length=vs.length→(∀p∈ps,p<tmps.size)→(∀t,Rep E (f t) (tmps.getD t undef)) →
  (∀(i:Nat) (c:PV) (v:Value),cs[i]? = some c→vs[i]? = some v→Rep E c v) →
  ((ps.zip vs).foldl (fun t q=>t.setIfInBounds q.1 q.2) tmps).size=tmps.size∧∀t,Rep E (n6 (ps.zip cs) f t) (((ps.zip vs).foldl (fun t q=>t.setIfInBounds q.1 q.2) tmps).getD t undef)
 |[],[],[],f,tmps,_,_,_,hf,_=>⟨rfl,hf⟩
 |p::ps,c::cs,v::vs,f,tmps,h1,h2,hp,hf,hd=>by
  have hp0:p<tmps.size:=hp p (.head _)
  have ih:=n7 ps cs vs (fun r=>bif Nat.beq r p then c else f r) (tmps.setIfInBounds p v) (by simpa using h1) (by simpa using h2) (fun q hq=>by simpa using hp q (.tail _ hq)) (fun t=>by
   by_cases ht:t=p
   ·subst ht
    have e1:(tmps.setIfInBounds t v).getD t undef=v:=by simp[hp0]
    rw[e1]
    simpa using hd 0 c v rfl rfl
   ·have e1:(tmps.setIfInBounds p v).getD t undef=tmps.getD t undef:=by simp[Array.getElem?_setIfInBounds_ne (Ne.symm ht)]
    rw[e1,aV ht]
    exact hf t) (fun i c' v' e1 e2=>hd (i+1) c' v' (by simpa using e1) (by simpa using e2))
  refine⟨?_,fun t=>?_⟩
  ·rw[List.zip_cons_cons,List.foldl_cons,ih.1];simp
  ·rw[List.zip_cons_cons,List.zip_cons_cons,List.foldl_cons]
   exact ih.2 t
 |[],_::_,_,_,_,h,_,_,_,_=>by simp at h
 |[],[],_::_,_,_,_,h,_,_,_=>by simp at h
 |_::_,[],_,_,_,h,_,_,_,_=>by simp at h
 |_::_,_::_,[],_,_,_,h,_,_,_=>by simp at h
def bT (ps:Array Tmp) (asg body:Code) (st:LoopState) (pend:Option Code) (regs:Nat→PV):Cont:=⟨0,0,[[.lbl ps asg body st pend regs]],4⟩
def vj (s:St) (kL g:Nat) (ps:Array Tmp) (asg body:Code) (regs:Nat→PV) (d:Nat) (K:St→Prop):Exit→St→Prop
 |.normal,s'=>s'.own kL=(g,some (bT ps asg body .busy none regs))∧K (({ reg:=s.reg,own:=(s'.setOwn kL g (some (bT ps asg body .ready none regs))).own }:St).putR d (.bool true))
 |.exit id,s'=>s'.own kL=(g,some (bT ps asg body .busy none regs))∧K (({ reg:=s.reg,own:=(s'.setOwn kL g (some (bT ps asg body .done (some (.exit id)) regs))).own }:St).putR d (.bool false))
 |.ret,s'=>s'.own kL=(g,some (bT ps asg body .busy none regs))∧K (({ reg:=s.reg,own:=(s'.setOwn kL g (some (bT ps asg body .done (some .ret) regs))).own }:St).putR d (.bool false))
 |_,_=>False
def kG (s:St) (kL g:Nat) (ps:Array Tmp) (asg body:Code) (Q:Exit→St→Prop):Exit→St→Prop
 |.normal,s' | .ret,s'=>(s'.own kL=(g,some (bT ps asg body .ready none s.reg))∧Q .normal { reg:=s.reg,own:=(s'.setOwn kL (g+1) none).own }) ∨
   (∃id,s'.own kL=(g,some (bT ps asg body .done (some (.exit id)) s.reg))∧Q (.exit id) { reg:=s.reg,own:=(s'.setOwn kL (g+1) none).own }) ∨
   (s'.own kL=(g,some (bT ps asg body .done (some .ret) s.reg))∧Q .ret { reg:=s.reg,own:=(s'.setOwn kL (g+1) none).own })
 |_,_=>False
section
variable {P:Program} {L:Lay} {C:Ctx} {γ:Nat→Option Nat} {s:St} {a:Act} {w:World}
theorem Sim.yl_at (_h:Sim C γ s a w) {k g:Nat} {c:Cont} {v:Value} (hr:Rep (ag C γ s w) (.yl k g) v) (ho:s.own k=(g,some c)):∃b,γ k=some b∧v = .func (.yield b) #[] #[]:=by
 cases hr with
 |d h=>cases h
 |yl hg hl=>exact(hl (by simp[ag,ho]) ⟨γ k,c.ty,c.sz,c.rows.length⟩ (by simp[ag,ho])).2
theorem Sim.turnLoop {s':St} {a':Act} {w3:World} {C2:Ctx} {γ':Nat→Option Nat} (hs':Sim C2 γ' s' a' w3) {kL g b:Nat} {ps:Array Tmp} {asg body:Code} {regs:Nat→PV} {st:LoopState} {pend:Option Code} (ho:s'.own kL=(g,some (bT ps asg body st pend regs))) (hb:γ' kL=some b) :
  ∃rec:Loop,w3.heap[b]? = some (.loop rec)∧rec.state=st∧rec.pending=pend∧∀(st2:LoopState) (pend2:Option Code),Sim C2 γ' (s'.setOwn kL g (some (bT ps asg body st2 pend2 regs))) a' (w3.putObj b (.loop { rec with state:=st2,pending:=pend2 })):=by
 have hit:=(hs'.sites kL _ (by rw[ho])).it b hb rfl (show(3:Nat)≤4 by decide)
 obtain⟨rec,regs',h1,h2,h3',h3,h4,h5⟩:mg (ag C2 γ' s' w3) b (bT ps asg body st pend regs).rows:=hit
 have h1:w3.heap[b]? = some (.loop rec):=h1
 simp only[bT,List.cons.injEq,PV.lbl.injEq,and_true]at h2
 obtain⟨e1,e2,e3,e4,e5,e6⟩:=h2
 subst e6
 refine⟨rec,h1,e4.symm,e5.symm,fun st2 pend2=>?_⟩
 obtain⟨hp,hnew⟩:=fH (o' := .loop { rec with state:=st2,pending:=pend2 }) h1
 have hnc:∀cur T f,w3.heap[b]? ≠ some (.cells cur T f):=fun cur T f e=>by rw[h1]at e;cases e
 have hle:=iC (c':=bT ps asg body st2 pend2 regs) hs' ho hb hnc hp rfl rfl (Nat.le_refl _)
 refine fJ hs' ho hb hnc hp rfl rfl (Nat.le_refl _) ⟨(fun e=>by cases e),(fun b' _ _ hk=>by simp[bT]at hk),fun b' hb' _ _=>?_,(fun b' _ hz=>by simp[bT]at hz)⟩
 cases hb'
 show mg _ _ _
 exact⟨{ rec with state:=st2,pending:=pend2 },regs,hnew,by simp[bT,←e1,←e2,←e3],h3',h3,h4,fun t=>(h5 t).mono hle⟩
theorem An {o:Oper} {args:Array Operand} {tys:Array TypeId} {tf d kL g:Nat} {ps:Array Tmp} {asg body:Code} {regs:Nat→PV} {K:St→Prop} (ho:o.op = .call ⟨.value (.tmp tf),args,tys⟩) (hd:o.dst=some d) (hy:s.reg tf = .yl kL g)
  (hown:s.own kL=(g,some (bT ps asg body .ready none regs))) (hps:args.size=ps.size)
  (h:PWP P L asg (ax (fun s2=>s2.own kL=(g,some (bT ps asg body .ready none regs))∧PWP P L body (vj s kL g ps asg body regs d K) { reg:=s2.reg,own:=(s2.setOwn kL g (some (bT ps asg body .busy none regs))).own }) (fun _ _=>False)) { reg:=n6 (ps.toList.zip (args.toList.map s.ev)) regs,own:=s.own }):Ev P L s o K:=by
 intro ro n C a w Q hG ⟨γ,hs⟩ hN hQ
 have hyr:=hs.ev (.tmp tf)
 rw[show s.ev (.tmp tf) = .yl kL g from hy]at hyr
 obtain⟨b,hb,hv⟩:=hs.yl_at hyr hown
 have hit:=(hs.sites kL _ (by rw[hown])).it b hb rfl (show(3:Nat)≤4 by decide)
 obtain⟨rec,regs',h1,h2,h3',h3,h4,h5⟩:mg (ag C γ s w) b (bT ps asg body .ready none regs).rows:=hit
 have h1:w.heap[b]? = some (.loop rec):=h1
 simp only[bT,List.cons.injEq,PV.lbl.injEq,and_true]at h2
 obtain⟨e1,e2,e3,e4,e5,e6⟩:=h2
 subst e6
 refine⟨fun _ _=>trivial,?_⟩
 have hexec:(o.semAt (Fr ro).round a.eval).run P w = .ok (.round b rec.fn ((rec.params.zip (args.map a.eval)).foldl (fun tmps (t,a)=>tmps.setIfInBounds t a) rec.tmps) rec.assign rec.body) w:=by
  rw[Oper.semAt_eq _ _ _ (fun c e=>by rw[ho]at e;cases e)]
  simp only[execOp,ho,resolve,hv,Deferred.ofValue,Sem.run_bind,Sem.run_pure,Result.andThen_ok,invoke]
  rw[show(#[]++args.map a.eval:Array Value)=args.map a.eval by simp]
  exact run_yield h1 (by rw[←e1];simpa using hps)
 rw[hexec,Oper.uponIn_round]
 refine⟨fun e=>by simp[Fr,Fence.wide]at e,?_⟩
 refine roundIn_of_wpIn trivial ?_
 rw[←e2,←e3]
 rw[←e2]at h3'
 rw[←e3]at h3
 let C2:Ctx:=⟨C.B,C.X,C.w0,rec.tmps.size,fun c v=>C.keep c v∨∃t,c=s.reg t∧v=a.tmps.getD t undef,[]⟩
 have hG2:Good P L C2:=⟨hG.lay,hG.x,hG.mixed,hG.glob⟩
 have hfold:(rec.params.zip (args.map a.eval)).foldl (fun tmps (t,a)=>tmps.setIfInBounds t a) rec.tmps=(ps.toList.zip (args.toList.map a.eval)).foldl (fun t q=>t.setIfInBounds q.1 q.2) rec.tmps:=by
  rw[←e1,←Array.foldl_toList,Array.toList_zip,Array.toList_map]
 obtain⟨b1,b2⟩:=n7 (E:=ag C γ s w) ps.toList (args.toList.map s.ev) (args.toList.map a.eval) regs rec.tmps (by simpa using hps.symm) (by simp)
  (fun p hp=>by rw[e1]at hp;simpa using List.all_eq_true.1 h4 p hp) (fun t=>h5 t) (fun i c v q1 q2=>by
   rw[List.getElem?_map]at q1 q2
   cases hx:args.toList[i]? with
   |none=>rw[hx]at q1;simp at q1
   |some x=>rw[hx]at q1 q2;simp at q1 q2;subst q1;subst q2;exact hs.ev x)
 rw[hfold]
 have hsim2:SimE C2 { reg:=n6 (ps.toList.zip (args.toList.map s.ev)) regs,own:=s.own } { tmps:=(ps.toList.zip (args.toList.map a.eval)).foldl (fun t q=>t.setIfInBounds q.1 q.2) rec.tmps,defers:=[] } w:=by
  refine⟨γ,rfl,b1,b2,hs.sites,hs.inj,hs.base,hs.below,hs.top,?_⟩
  rintro c v (hk|⟨t,rfl,rfl⟩)
  ·exact hs.kept c v hk
  ·exact hs.regs t
 rw[yM]
 refine wpIn_mono (PWP.soundX (X:=fun A B=>A=B) (fun _=>rfl) (fun h k=>h.trans k) (fun h=>by subst h;exact .refl _) (r:=false) (fun h=>by cases h) asg _ C2 _ _ _ hG2 h3' (fun _ hq=>hq) hsim2 h) ?_
 rintro e aA wA ⟨C',sA,rfl,⟨γA,hsA⟩,hq⟩
 have he:e = .normal:=by
  cases e
  case normal=>rfl
  all_goals exact absurd hq id
 subst he
 obtain⟨hownA,hbodyA⟩:=hq
 show ∃w₂,_
 have hkyA:=hsA.kept (.yl kL g) (.func (.yield b) #[] #[]) (.inr ⟨tf,hy.symm,hv.symm⟩)
 obtain⟨bA,hbA,hvA⟩:=hsA.yl_at hkyA hownA
 have hbb:b=bA:=by injection hvA with q;injection q with q
 subst hbb
 obtain⟨rec2,r1,r2,r3,r4⟩:=hsA.turnLoop hownA hbA
 have hs1:=r4 .busy none
 have hw2:wA.putObj b (.loop { rec2 with state := .busy,pending:=none })=wA.putObj b (.loop { rec2 with state := .busy }):=by
  have:({ rec2 with state := .busy,pending:=none }:Loop)={ rec2 with state := .busy }:=by rw[←r3]
  rw[this]
 rw[hw2]at hs1
 refine⟨_,run_beginRound r1 r2,?_⟩
 have hsimB:SimE C2 { reg:=sA.reg,own:=(sA.setOwn kL g (some (bT ps asg body .busy none regs))).own } aA (wA.putObj b (.loop { rec2 with state := .busy })):=⟨γA,hs1⟩
 refine wpIn_mono (PWP.soundX (X:=fun A B=>A=B) (fun _=>rfl) (fun h k=>h.trans k) (fun h=>by subst h;exact .refl _) (r:=false) (fun h=>by cases h) body _ C2 _ _ _ hG2 h3 (fun _ hq=>hq) hsimB hbodyA) ?_
 have fin:∀ {s':St} {a':Act} {w3:World} (jump:Option Code) (st:LoopState),st=(if jump.isNone then .ready else .done)→SimE C2 s' a' w3→s'.own kL=(g,some (bT ps asg body .busy none regs)) →
   K (({ reg:=s.reg,own:=(s'.setOwn kL g (some (bT ps asg body st jump regs))).own }:St).putR d (.bool jump.isNone)) →
   ∃v w4,(Instr.endRound b jump).run P w3 = .ok v w4∧∃s'',SimE C s'' (a.put o.dst v) w4∧K s'':=by
  rintro s' a' w3 jump st rfl ⟨γ',hs'⟩ hown' hk
  have hky:=hs'.kept (.yl kL g) (.func (.yield b) #[] #[]) (.inr ⟨tf,hy.symm,hv.symm⟩)
  obtain⟨b',hb',hvb⟩:=hs'.yl_at hky hown'
  have hbb:b'=b:=by injection hvb with q;injection q with q;exact q.symm
  subst hbb
  obtain⟨rec3,q1,q2,q3,q4⟩:=hs'.turnLoop hown' hb'
  have hs4:=q4 (if jump.isNone then .ready else .done) jump
  refine⟨_,_,run_endRound jump q1,_,⟨γ',?_⟩,hk⟩
  have hback:Sim C γ' { reg:=s.reg,own:=(s'.setOwn kL g (some (bT ps asg body (if jump.isNone then .ready else .done) jump regs))).own } a (w3.putObj b' (.loop { rec3 with state:=if jump.isNone then .ready else .done,pending:=jump })) :=
   ⟨hs.defers,hs.size,fun r=>hs4.kept _ _ (.inr ⟨r,rfl,rfl⟩),hs4.sites,hs4.inj,hs4.base,hs4.below,hs4.top,fun c v hk=>hs4.kept c v (.inl hk)⟩
  rw[hd]
  rw[hd]at hN
  exact hback.put (d:=some d) hN (.d (.bool _))
 rintro e a' w3 ⟨C',s',rfl,h',hq⟩
 cases e
 case normal=>exact fin none .ready rfl h' hq.1 hq.2
 case ret=>exact fin (some .ret) .done rfl h' hq.1 hq.2
 case exit id=>exact fin (some (.exit id)) .done rfl h' hq.1 hq.2
 all_goals exact hq.elim
theorem rT {Q:Exit→St→Prop} {g:Operand} {ps:Array Tmp} {assign body:Code} (h:sH P L g ps assign body Q s):PWP P L (.rangeFunc g ps assign body) Q s:=Gh.of h
theorem oS {Q:Exit→St→Prop} {g:Operand} {gf:FuncId} {caps:List PV} {fn:Func} {bodyI:Code} {ps:Array Tmp} {asg body:Code} (kL:Nat) {gn:Nat} {oc:Option Cont} (hg:s.ev g = .clo gf caps) (hf:P.funcs[gf]? = some fn) (hb:fn.body=some bodyI)
  (hn : (fn.name == "runtime.NumGoroutine") = false) (hlen : Nat.ble (1 + caps.length) fn.ntmps = true) (hc : ji fn.ntmps bodyI = true) (hres : fn.results = #[]) (hown : s.own kL = (gn, oc))
  (h:PWP P L bodyI (kG s kL (gn+1) ps asg body Q) { reg:=fun t=>((.yl kL (gn+1))::caps).getD t (.raw undef),own:=(s.setOwn kL (gn+1) (some (bT ps asg body .ready none s.reg))).own }):sH P L g ps asg body Q s:=by
 intro n C a w hG ⟨γ,hs⟩ hcode hQ
 simp only[eH,Bool.true_and,Bool.and_eq_true]at hcode
 obtain⟨⟨hpsN,hasg⟩,hbody⟩:=hcode
 refine wpIn_rangeFunc fun fnid _=>?_
 have hge:=hs.ev g
 rw[hg]at hge
 obtain⟨vs,hv,hl,hd⟩:=hge.clo_inv
 have hcal:ef P gf:=⟨fn,hf,hn,by simp[hb]⟩
 obtain⟨rec,hrec⟩:∃rec:Loop,rec={ state := .ready,pending:=none,fn:=fnid,tmps:=a.tmps,params:=ps,assign:=asg,body:=body,defers:=w.heap.size }:=⟨_,rfl⟩
 refine⟨w.heap.size+1,[ti w.heap.size],(w.alloc (.deferred (some []))).alloc (.loop rec),{ target := .fn (.func gf) vs.toArray,args:=#[.func (.yield (w.heap.size+1)) #[] #[]] },(w.alloc (.deferred (some []))).alloc (.loop rec),gf,
  #[Value.func (.yield (w.heap.size+1)) #[] #[]]++vs.toArray,(w.alloc (.deferred (some []))).alloc (.loop rec),by rw[hrec];exact run_enterLoop_outer _ _ _ _ _,?_,fun _ _=>trivial,?_,fun e=>by simp[Fr,Fence.wide]at e,?_⟩
 ·simp only[resolve,hv]
  simp[go_sem]
 ·simp only[invoke]
  exact kg hcal _
 refine callsIn_of_wp hf hb trivial ?_
 have hbel:Below w.heap.size w (w.alloc (.deferred (some []))):=(Below.refl _ w).alloc (Nat.le_refl _) _
 have hD:=hs.ext hbel
 have hsz:(w.alloc (.deferred (some []))).heap.size=w.heap.size+1:=by simp
 have hT:Turn C γ s (w.alloc (.deferred (some []))) ((w.alloc (.deferred (some []))).alloc (.loop rec)) kL (some (w.alloc (.deferred (some []))).heap.size):=Turn.alloc _ kL
 have hle:=hT.le hD (bT ps asg body .ready none s.reg)
 have hfin:s.fin kL (bT ps asg body .ready none s.reg)=s.setOwn kL (gn+1) (some (bT ps asg body .ready none s.reg)):=by rw[St.fin,hown]
 have hs1:=hT.sim (c:=bT ps asg body .ready none s.reg) hD ⟨(fun e=>by cases e),(fun b' _ _ hk=>by simp[bT]at hk),fun b' hb' _ _=>by
  cases hb'
  show mg _ _ _
  refine⟨rec,s.reg,bb _ _,by rw[hrec];rfl,by rw[hrec];simpa [hs.size] using hasg,by rw[hrec];simpa [hs.size] using hbody,by rw[hrec];simpa [hs.size] using hpsN,fun t=>?_⟩
  rw[show rec.tmps=a.tmps by rw[hrec]];exact(hD.regs t).mono hle,(fun b' _ hz=>by simp[bT]at hz)⟩
 rw[hfin,hsz]at hs1
 rw[hfin,hsz]at hle
 have hDobj:((w.alloc (.deferred (some []))).alloc (.loop rec)).heap[w.heap.size]? = some (.deferred (some [])):=by
  rw[Below.heap_alloc _ _ _ (by simp)]
  exact bb w _
 have hDok:dG C (gC γ kL (some (w.heap.size+1))) (s.setOwn kL (gn+1) (some (bT ps asg body .ready none s.reg))) ((w.alloc (.deferred (some []))).alloc (.loop rec)) w.heap.size:=by
  refine⟨by simp;omega,fun hx=>?_,fun k c hk hb'=>?_⟩
  ·have:=hG.x _ hx;have:=hs.top;omega
  ·by_cases hkk:k=kL
   ·subst hkk
    rw[bB]at hb'
    injection hb' with q;omega
   ·rw[au hkk]at hk
    rw[eF hkk]at hb'
    have:=(hs.base k c _ hk hb').2;omega
 let C1:Ctx:=⟨C.B,C.X,C.w0,fn.ntmps,fun c v=>C.keep c v∨(∃t,c=s.reg t∧v=a.tmps.getD t undef)∨(c = .dfd∧v = .pointer (some ⟨w.heap.size,0,none⟩))∨(c = .yl kL (gn+1)∧v = .func (.yield (w.heap.size+1)) #[] #[]),[]⟩
 have hG1:Good P L C1:=⟨hG.lay,hG.x,hG.mixed,hG.glob⟩
 have hyl:Rep (ag C (gC γ kL (some (w.heap.size+1))) (s.setOwn kL (gn+1) (some (bT ps asg body .ready none s.reg))) ((w.alloc (.deferred (some []))).alloc (.loop rec))) (.yl kL (gn+1)) (.func (.yield (w.heap.size+1)) #[] #[]):=by
  refine .yl (by simp[ag,ae]) fun _ l hl=>?_
  simp only[ag,ae,bB,Option.map_some,Option.some.injEq]at hl
  subst hl
  exact⟨rfl,_,rfl,rfl⟩
 have hlen':1+vs.length≤fn.ntmps:=by rw[←hl];simpa using hlen
 have hargs:∀t,Rep (ag C (gC γ kL (some (w.heap.size+1))) (s.setOwn kL (gn+1) (some (bT ps asg body .ready none s.reg))) ((w.alloc (.deferred (some []))).alloc (.loop rec))) (((.yl kL (gn+1))::caps).getD t (.raw undef))
   ((#[Value.func (.yield (w.heap.size+1)) #[] #[]]++vs.toArray++Array.replicate (fn.ntmps-(#[Value.func (.yield (w.heap.size+1)) #[] #[]]++vs.toArray).size) undef).getD t undef):=by
  intro t
  cases t with
  |zero =>
   have e2:(#[Value.func (.yield (w.heap.size+1)) #[] #[]]++vs.toArray++Array.replicate (fn.ntmps-(#[Value.func (.yield (w.heap.size+1)) #[] #[]]++vs.toArray).size) undef).getD 0 undef=Value.func (.yield (w.heap.size+1)) #[] #[]:=by
    simp[Array.getElem?_append]
   rw[e2];exact hyl
  |succ t =>
   rcases Nat.lt_or_ge t vs.length with hlt|hge
   ·have hlt':t<caps.length:=by omega
    have e1:((PV.yl kL (gn+1))::caps).getD (t+1) (.raw undef)=caps[t]:=by simp[hlt']
    have e2:(#[Value.func (.yield (w.heap.size+1)) #[] #[]]++vs.toArray++Array.replicate (fn.ntmps-(#[Value.func (.yield (w.heap.size+1)) #[] #[]]++vs.toArray).size) undef).getD (t+1) undef=vs[t]:=by
     rw[Array.getD_eq_getD_getElem?,Array.getElem?_append_left (by simp;omega),Array.getElem?_append_right (by simp)]
     simp[hlt]
    rw[e1,e2]
    exact(hd t caps[t] vs[t] (List.getElem?_eq_getElem hlt') (List.getElem?_eq_getElem hlt)).mono ((f8 hbel hs.base).trans' hle)
   ·have e1:((PV.yl kL (gn+1))::caps).getD (t+1) (.raw undef) = .raw undef:=by simp[List.getElem?_eq_none (by omega:caps.length≤t)]
    have e2:(#[Value.func (.yield (w.heap.size+1)) #[] #[]]++vs.toArray++Array.replicate (fn.ntmps-(#[Value.func (.yield (w.heap.size+1)) #[] #[]]++vs.toArray).size) undef).getD (t+1) undef=undef:=by
     rw[Array.getD_eq_getD_getElem?,Array.getElem?_append_right (by simp;omega)]
     rcases Nat.lt_or_ge (t+1-(#[Value.func (.yield (w.heap.size+1)) #[] #[]]++vs.toArray).size) (fn.ntmps-(#[Value.func (.yield (w.heap.size+1)) #[] #[]]++vs.toArray).size) with h1|h1
     ·rw[Array.getElem?_replicate,if_pos h1];rfl
     ·rw[Array.getElem?_eq_none (by simpa using h1)];rfl
    rw[e1,e2]
    exact .d (.raw _)
 have hsim:SimE C1 { reg:=fun t=>((.yl kL (gn+1))::caps).getD t (.raw undef),own:=(s.setOwn kL (gn+1) (some (bT ps asg body .ready none s.reg))).own }
   { tmps:=#[Value.func (.yield (w.heap.size+1)) #[] #[]]++vs.toArray++Array.replicate (fn.ntmps-(#[Value.func (.yield (w.heap.size+1)) #[] #[]]++vs.toArray).size) undef,defers:=[] } ((w.alloc (.deferred (some []))).alloc (.loop rec)):=by
  refine⟨gC γ kL (some (w.heap.size+1)),rfl,by simp[C1];omega,hargs,hs1.sites,hs1.inj,hs1.base,hs1.below,hs1.top,?_⟩
  rintro c v (hk|⟨t,rfl,rfl⟩|⟨rfl,rfl⟩|⟨rfl,rfl⟩)
  ·exact hs1.kept c v hk
  ·exact hs1.regs t
  ·exact .dfd hDok hDobj
  ·exact hyl
 refine wpIn_mono (PWP.soundX (X:=fun A B=>A=B) (fun _=>rfl) (fun h k=>h.trans k) (fun h=>by subst h;exact .refl _) (r:=false) (fun h=>by cases h) bodyI _ C1 _ _ _ hG1 hc (fun _ hq=>hq) hsim h) ?_
 have fin:∀ {s':St} {a':Act} {w3:World} (pend:Option Code) (st:LoopState),st ≠ .busy→SimE C1 s' a' w3→s'.own kL=(gn+1,some (bT ps asg body st pend s.reg)) →
   ∃w4,(Instr.endLoop (w.heap.size+1)).run P w3 = .ok pend w4∧∃C4,Ext C C4∧SimE C4 { reg:=s.reg,own:=(s'.setOwn kL (gn+1+1) none).own } { a with defers:=[ti w.heap.size]++a.defers } w4:=by
  rintro s' a' w3 pend st hst ⟨γ',hs'⟩ hown'
  have hky:=hs'.kept (.yl kL (gn+1)) (.func (.yield (w.heap.size+1)) #[] #[]) (.inr (.inr (.inr ⟨rfl,rfl⟩)))
  obtain⟨b',hb',hvb⟩:=hs'.yl_at hky hown'
  have hbb:b'=w.heap.size+1:=by injection hvb with q;injection q with q;exact q.symm
  subst hbb
  obtain⟨rec3,q1,q2,q3,q4⟩:=hs'.turnLoop hown' hb'
  have hs4:=q4 .exhausted pend
  have hw4:w3.putObj (w.heap.size+1) (.loop { rec3 with state := .exhausted,pending:=pend })=w3.putObj (w.heap.size+1) (.loop { rec3 with state := .exhausted }):=by
   have:({ rec3 with state := .exhausted,pending:=pend }:Loop)={ rec3 with state := .exhausted }:=by rw[←q3]
   rw[this]
  rw[hw4]at hs4
  refine⟨_,by rw[←q3];exact run_endLoop q1 (by rw[q2];exact hst),?_⟩
  obtain⟨hs5,_,_⟩:=hs4.drop hG1.x (ae s' kL (gn+1) _)
  have hoo:((s'.setOwn kL (gn+1) (some (bT ps asg body .exhausted pend s.reg))).setOwn kL (gn+1+1) none).own=(s'.setOwn kL (gn+1+1) none).own:=by
   funext r
   by_cases hr:r=kL
   ·subst hr;rw[ae,ae]
   ·rw[au hr,au hr,au hr]
  have key:∀ow,ow=(s'.setOwn kL (gn+1+1) none).own→Sim C1 γ' { reg:=s'.reg,own:=ow } a' (w3.putObj (w.heap.size+1) (.loop { rec3 with state := .exhausted })) →
    ∃C4,Ext C C4∧SimE C4 { reg:=s.reg,own:=(s'.setOwn kL (gn+1+1) none).own } { a with defers:=[ti w.heap.size]++a.defers } (w3.putObj (w.heap.size+1) (.loop { rec3 with state := .exhausted })):=by
   rintro ow rfl hs6
   refine⟨⟨C.B,C.X,C.w0,C.N,fun c v=>C.keep c v∨(c = .dfd∧v = .pointer (some ⟨w.heap.size,0,none⟩)),w.heap.size::C.dfs⟩,⟨rfl,rfl,rfl,rfl,fun c v hk => .inl hk,fun hdk=>⟨?_,?_⟩⟩,γ',?_,hs.size,fun r=>hs6.kept _ _ (.inr (.inl ⟨r,rfl,rfl⟩)),hs6.sites,hs6.inj,hs6.base,hs6.below,hs6.top,?_⟩
   ·rw[List.nodup_cons]
    refine⟨fun hm=>?_,hdk.1⟩
    have:=hs.kept _ _ (hdk.2 _ hm).2
    cases this with
    |d hd=>cases hd
    |dfd h1 _=>exact absurd h1.1 (Nat.lt_irrefl _)
   ·intro D hDm
    rcases List.mem_cons.1 hDm with rfl|hDm
    ·exact⟨hs.top,.inr ⟨rfl,rfl⟩⟩
    ·exact⟨(hdk.2 D hDm).1,.inl (hdk.2 D hDm).2⟩
   ·show [ti w.heap.size]++a.defers=_
    rw[hs.defers];rfl
   ·rintro c v (hk|⟨rfl,rfl⟩)
    ·exact hs6.kept c v (.inl hk)
    ·exact hs6.kept _ _ (.inr (.inr (.inl ⟨rfl,rfl⟩)))
  exact key _ hoo hs5
 have ends:∀ {s':St} {a':Act} {w3:World},SimE C1 s' a' w3→kG s kL (gn+1) ps asg body Q .ret s'→a'.defers=[]∧∃v,(results fn a'.tmps).run P w3 = .ok v w3 ∧
   rangePost (Fr none) n P (w.heap.size+1) (xK Ext C Q) { a with defers:=[ti w.heap.size]++a.defers } (.returned v) w3:=by
  intro s' a' w3 h' hq
  refine⟨by obtain⟨_,h'⟩:=h';exact h'.defers,.tuple #[],by simp[results,hres],?_⟩
  rcases hq with⟨ho,hq⟩|⟨id,ho,hq⟩|⟨ho,hq⟩
  ·obtain⟨w4,e1,C4,e2,e3⟩:=fin none .ready (by simp) h' ho
   exact⟨none,w4,e1,C4,_,e2,e3,hq⟩
  ·obtain⟨w4,e1,C4,e2,e3⟩:=fin (some (.exit id)) .done (by simp) h' ho
   exact⟨some (.exit id),w4,e1,wpIn_exit ⟨C4,_,e2,e3,hq⟩⟩
  ·obtain⟨w4,e1,C4,e2,e3⟩:=fin (some .ret) .done (by simp) h' ho
   exact⟨some .ret,w4,e1,wpIn_ret ⟨C4,_,e2,e3,hq⟩⟩
 rintro e a' w3 ⟨C',s',rfl,h',hq⟩
 cases e
 case normal=>exact ends h' hq
 case ret=>exact ends h' hq
 all_goals exact hq.elim
end
end Go.Pv
set_option maxHeartbeats 2000000
namespace Go.Pv
attribute [local irreducible] PWP POps PQuiet PSem ax ao aj ai
open Go.Proofs
def CR.s (c:CR) (k:Nat):Rat:=(c.S.getD k 0:Int)
def CR.m (c:CR) (k:Nat):Rat:=(c.M.getD k RR.zero).val
def A5 (c:CR):Nat→RR
 |0=>ofQ ((0:Int):Rat)
 |k+1=>c.M.getD k RR.zero
theorem pQ (c:CR) (hc:c.Lim) (k:Nat):Vq (c.M.getD k RR.zero) (c.m k) 12:=by
 refine⟨rfl,?_⟩
 rw[List.getD_eq_getElem?_getD]
 cases h:c.M[k]? with
 |none=>exact⟨Nat.zero_le _,Nat.zero_le _⟩
 |some x=>exact hc.m x (List.mem_of_getElem? h)
theorem lp (c:CR) (hc:c.Lim) (k:Nat):Vq (A5 c k) (aI c.m k) 12:=by
 cases k with
 |zero =>
  refine⟨ofQ_val _,?_⟩
  have:=(i_ (HQ.int (z:=0) (h:=⟨by decide⟩)).ok).ok
  show(ofQ ((0:Int):Rat)).n.l.length≤12∧(ofQ ((0:Int):Rat)).d.l.length≤12
  exact⟨by have:=this.1;omega,by have:=this.2;omega⟩
 |succ k=>exact pQ c hc k
theorem km {c:CR} (hc:c.Lim) (k:Nat):i64 (c.S.getD k 0):=by
 rw[List.getD_eq_getElem?_getD]
 cases h:c.S[k]? with
 |none=>exact⟨by decide,by decide⟩
 |some x=>exact hc.s x (List.mem_of_getElem? h)
def CA (q0 q2 q3 g4 g7 b4:Nat) (rec x2 x3 x1004:Cont) (before sum:RR):List (Nat × Nat × Cont) :=
 [(2000,q0,rec),(2002,q2,x2),(2003,q3,x3),(4,b4,⟨26,4,[eR before],2⟩),(1004,g4,x1004),(1007,g7,⟨26,4,[eR sum],2⟩)]
theorem fE {s:St} (k:Nat):Ghost s (s.setOwn k ((s.own k).1+2) none):=Ghost.drop rfl
theorem lW {L:Lay} {fn:Func} {K:St→PV→Prop} {s:St} {t:Nat} {v:PV} (h:fn.results.toList=[.tmp t]) (h1:s.reg t=v) (hk:K s v):ai L fn K .ret s:=by
 unfold ai
 refine⟨[s.reg t],True∧True,by rw[h];rfl,⟨trivial,trivial⟩,?_⟩
 rw[h1];exact hk
theorem cg {P:Program} {L:Lay} {x:Code} {Q:Exit→St→Prop} {s:St} (R:List (Nat × PV)) (O:List (Nat × Nat × Cont)) (hf:Fit s R O) (h:∀s1:St,PWP P L x Q (s1.over R O)):PWP P L x Q s:=by
 have:=h s
 rwa [Fit.over hf]at this
set_option maxRecDepth 20000 in
theorem np {Q:Exit→St→Prop} {a b:Nat} {asg body:Code} {sc:St} (c:CR) (hc:c.Lim) (y:RR) {q:Rat} {n:Nat} (hy:Vq y q n) (hn:n≤9000000) (hSM:c.M.length=c.S.length) (V:Nat→RR) {q0 q2 q3 g4 g7:Nat} {x1004:Cont} (s0:St)
  (hown:Fit s0 [] [(2000,q0,bT #[a,b] asg body .ready none sc.reg),(2002,q2,⟨69,2,[eC c],2⟩),(2003,q3,⟨26,4,[eR y],2⟩),(1004,g4,x1004),(1007,g7,⟨26,4,[eR (V 0)],2⟩)])
  (hround:∀i,i<c.S.length→¬q-c.s i<0→∀(b4:Nat) (bf:RR) (own:Nat→Nat × Option Cont),Fit { reg:=fun _ => .raw undef,own:=own } [] (CA q0 q2 q3 g4 g7 b4 (bT #[a,b] asg body .ready none sc.reg) ⟨69,2,[eC c],2⟩ ⟨26,4,[eR y],2⟩ x1004 bf (V i)) →
   ∀mj:Exit→St→Prop,(∀s2,Fit s2 [] (CA q0 q2 q3 g4 g7 b4 (bT #[a,b] asg body .busy none sc.reg) ⟨69,2,[eC c],2⟩ ⟨26,4,[eR y],2⟩ x1004 bf (V (i+1)))→mj .normal s2) →
   PWP Tryz.prog lay.get asg (ax (fun s2=>s2.own 2000=(q0,some (bT #[a,b] asg body .ready none sc.reg))∧PWP Tryz.prog lay.get body mj { reg:=s2.reg,own:=(s2.setOwn 2000 q0 (some (bT #[a,b] asg body .busy none sc.reg))).own }) (fun _ _=>False))
    { reg:=n6 [(a,.agg (eR (ofQ (c.m i-aI c.m i)))),(b,.agg (eR (ofQ (q-c.s i))))] sc.reg,own:=own })
  (hend:∀i,i≤c.S.length→(i=c.S.length∨(i<c.S.length∧q-c.s i<0))→∀(b4:Nat) (bf:RR) (s2:St),Fit s2 [] (CA q0 q2 q3 g4 g7 b4 (bT #[a,b] asg body .ready none sc.reg) ⟨69,2,[eC c],2⟩ ⟨26,4,[eR y],2⟩ x1004 bf (V i)) →
   Q .normal { reg:=sc.reg,own:=(s2.setOwn 2000 (q0+1) none).own }) :
  PWP Tryz.prog lay.get ((Tryz.f215.body).getD .skip) (kG sc 2000 q0 #[a,b] asg body Q) { reg:=fun t=>[PV.yl 2000 q0,.ptr 2002 q2 0 0,.ptr 2003 q3 0 0].getD t (.raw undef),own:=s0.own }:=by
 have hz:=d5 0 (by decide) (by decide)
 have hSl:(c.S.map eN).length=c.S.length:=by simp
 rw[←Fit.over (l:=[]) hown]
 generalize hrd:bT #[a,b] asg body .ready none sc.reg=rd at *
 repeat refine aa rfl ?_
 refine ak rfl rfl rfl hz rfl rfl ?_
 repeat refine aa rfl ?_
 refine am (fun k:Nat × Nat × RR=>k.1≤c.S.length∧k.2.2=A5 c k.1) (fun k=>[(0,.yl 2000 q0),(1,.ptr 2002 q2 0 0),(2,.ptr 2003 q3 0 0),(4,.ptr 4 k.2.1 0 0),(10,.sl (c.S.map eN)),(11,I c.S.length),(12,I (k.1:Nat))])
  (fun k=>CA q0 q2 q3 g4 g7 k.2.1 rd ⟨69,2,[eC c],2⟩ ⟨26,4,[eR y],2⟩ x1004 k.2.2 (V k.1)) (fun k=>c.S.length-k.1) (0,_,A5 c 0) ⟨Nat.zero_le _,rfl⟩ ⟨rfl,rfl,rfl,rfl,rfl,by rw[←hSl];rfl,rfl,rfl,rfl,rfl,rfl,rfl,rfl,trivial⟩ ?_
 rintro⟨i,b4,bf⟩ st ⟨hi,hbf⟩
 simp only at hi hbf
 subst hbf
 dsimp only
 repeat refine aa rfl ?_
 refine ab rfl ?_ ?_<;>intro h
 ·have hlt:i<c.S.length:=by have:=of_decide_eq_true h;omega
  clear h
  have hx:=aC (d:=0) hlt
  have hxb:=km hc i
  have hnum:=d5 (c.S.getD i 0) hxb.1 hxb.2
  have hzb:Zb (c.S.getD i 0):=aE hxb.1 hxb.2
  have hsub:=k7 y (ofQ ((c.S.getD i 0:Int):Rat)) (hx:=hy) (by omega) (by decide)
  have hfar:Vq (ofQ (q-((c.S.getD i 0:Int):Rat))) (q-c.s i) (n+1+4+1):=Vq.ofQ (h:=@HQ.sub _ _ (n+1) 4 hy.hq HQ.int)
  have hsg:=CF (ofQ (q-((c.S.getD i 0:Int):Rat))) (hx:=hfar) (by omega)
  have hsl:=eE (q-c.s i)
  have hw:IntKind.i64.wrap (((i:Nat):Int)+1)=((i+1:Nat):Int):=by
   have:=c.S.length
   rw[wrap_i64 (by omega) (by have:=hc.ls;omega)];omega
  repeat refine aa rfl ?_
  refine aZ rfl rfl rfl rfl rfl rfl rfl hx rfl ?_
  (repeat ((fail_if_success (with_reducible refine aT 4 ?_));refine dh rfl ?_))
  refine ay (fE 7) ?_
  refine aU 4 1 [17,18,19,20,7] [] (by decide +kernel) rfl ?_
  repeat refine aa rfl ?_
  refine ak rfl rfl rfl hnum rfl rfl ?_
  repeat refine aa rfl ?_
  refine ak rfl rfl rfl hsub rfl rfl ?_
  repeat refine aa rfl ?_
  refine zJ 13 [21,22,23,24,25,26,27,28,29,30,31,32,33] (by decide +kernel) ?_
  repeat refine aa rfl ?_
  refine aP rfl rfl rfl hsg rfl rfl rfl ?_
  repeat refine aa rfl ?_
  refine dr rfl rfl rfl ?_ ?_<;>intro h
  ·have hneg:q-c.s i<0:=hsl.1 (of_decide_eq_true h)
   clear h
   repeat refine aa rfl ?_
   refine oN ?_
   repeat refine aa rfl ?_
   refine .inl ⟨by rw[←hrd];rfl,?_⟩
   exact hend i (by omega) (.inr ⟨hlt,hneg⟩) b4 _ _ ⟨rfl,rfl,rfl,rfl,rfl,rfl,trivial⟩
  ·have hpos:¬q-c.s i<0:=fun h2=>(of_decide_eq_false h) (hsl.2 h2)
   clear h
   have hmx:=aC (l:=c.M) (i:=i) (d:=RR.zero) (by omega)
   have hmv:=pQ c hc i
   have hbv:=lp c hc i
   have hsub2:=k7 (c.M.getD i RR.zero) (A5 c i) (hx:=hmv) (hy:=hbv) (by decide) (by decide)
   repeat refine aa rfl ?_
   refine aZ rfl rfl rfl rfl rfl rfl rfl hmx rfl ?_
   repeat refine aa rfl ?_
   refine ak rfl rfl rfl hsub2 rfl rfl ?_
   repeat refine aa rfl ?_
   refine wH rfl rfl rfl (An (ps:=#[a,b]) (asg:=asg) (body:=body) (regs:=sc.reg) rfl rfl rfl (by rw[hrd];rfl) rfl ?_)
   rw[hrd]
   refine hround i hlt hpos b4 (A5 c i) _ (by exact⟨rfl,rfl,rfl,rfl,rfl,rfl,trivial⟩) _ (fun s2 hf=>?_)
   rw[←Fit.over (l:=[]) hf]
   refine⟨rfl,?_⟩
   refine oN ?_
   repeat refine aa rfl ?_
   refine aZ rfl rfl rfl rfl rfl rfl rfl hmx rfl ?_
   repeat refine aa rfl ?_
   exact⟨(i+1,b4,A5 c (i+1)),⟨by simp only;omega,rfl⟩,by simp only;omega,rfl,rfl,rfl,rfl,rfl,rfl,congrArg I hw,by rw[←hrd];rfl,rfl,rfl,rfl,rfl,rfl,trivial⟩
 ·have hie:i=c.S.length:=by have:=of_decide_eq_false h;omega
  clear h
  repeat refine aa rfl ?_
  refine .inl ⟨by rw[←hrd];rfl,?_⟩
  exact hend i (by omega) (.inl hie) b4 _ _ ⟨rfl,rfl,rfl,rfl,rfl,rfl,trivial⟩
def lu:Code→Option (Array Tmp × Code × Code)
 |.rangeFunc _ ps a b=>some (ps,a,b)
 |.seq x y=>match lu x with|some r=>some r|none=>lu y
 |.block _ c=>lu c
 |.loop c=>lu c
 |.cond _ x y=>match lu x with|some r=>some r|none=>lu y
 |_=>none
theorem mX {c:CR} (hc:c.Lim) (k:Nat):HQ (c.m k-aI c.m k) 27:=@HQ.sub _ _ 13 13 (pQ c hc k).hq (lp c hc k).hq
theorem zM {c:CR} (hc:c.Lim) {q:Rat} {n:Nat} (h:HQ q n) (k:Nat):HQ (q-c.s k) (n+5):=by
 have hb:=km hc k
 have hzb:Zb (c.S.getD k 0):=aE hb.1 hb.2
 exact @HQ.sub _ _ n 4 h HQ.int
theorem qc {c:CR} (hc:c.Lim) {q:Rat} {n:Nat} (h:HQ q n) (k:Nat):HQ (cX c.s c.m q k) (n+32):=by
 rw[cX]
 split
 ·exact HQ.zero.mono (by omega)
 ·exact(@HQ.mul _ _ 27 (n+5) (mX hc k) (zM hc h k)).mono (by omega)
theorem oQ {c:CR} (ha:∀k,k+1<c.S.length→c.s k<c.s (k+1)) {f:Nat→Rat} {q:Rat} (hf:∀k,q-c.s k<0→f k=0) {i:Nat} (hi:i≤c.S.length) (h:i=c.S.length∨(i<c.S.length∧q-c.s i<0)):ac f i=ac f c.S.length:=by
 rcases h with h|⟨h1,h2⟩
 ·rw[h]
 ·have key:∀m,i+m≤c.S.length→ac f (i+m)=ac f i∧(i+m<c.S.length→q-c.s (i+m)<0):=by
   intro m
   induction m with
   |zero=>intro _;exact⟨rfl,fun _=>h2⟩
   |succ m ih =>
    intro hm
    obtain⟨e1,e2⟩:=ih (by omega)
    have h3:=e2 (by omega)
    refine⟨by rw[Nat.add_succ,ac,e1,hf _ h3];grind,fun hl=>?_⟩
    have h4:=ha (i+m) (by omega)
    rw[show i+(m+1)=i+m+1 by omega]
    grind
  have:=(key (c.S.length-i) (by omega)).1
  rw[show i+(c.S.length-i)=c.S.length by omega]at this
  exact this.symm
theorem od {c:CR}:∀(k i:Nat),cE c i k=0→∀j,i≤j→j<i+k→dD c j=0
 |0,i,_,j,h1,h2=>by omega
 |k+1,i,h,j,h1,h2=>by
  rw[cE]at h
  by_cases hs:dD c i=0
  ·rw[if_pos hs]at h
   by_cases hj:j=i
   ·subst hj;exact hs
   ·exact od k (i+1) h j (by omega) (by omega)
  ·rw[if_neg hs]at h;exact absurd h hs
theorem bP {c:CR} (h:br c=0):c.S.length≤40∧c.M.length=c.S.length∧(∀k,k<c.S.length → -10000000≤c.S.getD k 0∧c.S.getD k 0≤10000000∧0≤c.m k)∧∀k,k+1<c.S.length→c.s k<c.s (k+1):=by
 rw[br]at h
 split at h
 ·omega
 ·rename_i h1
  split at h
  ·omega
  ·rename_i h2
   have hs:=od _ _ h
   refine⟨by omega,by omega,fun k hk=>?_,fun k hk=>?_⟩
   ·have:=hs k (by omega) (by omega)
    rw[dD]at this
    split at this
    ·omega
    ·rename_i h3
     refine⟨by omega,by omega,?_⟩
     rw[CR.m]
     have:¬(c.M.getD k RR.zero).val<0:=fun h=>h3 (.inr (.inr h))
     grind
   ·have:=hs (k+1) (by omega) (by omega)
    rw[dD]at this
    split at this
    ·omega
    ·split at this
     ·omega
     ·rename_i h4
      have h5:c.S.getD k 0<c.S.getD (k+1) 0:=by
       rw[show k+1-1=k by omega]at h4
       omega
      rw[CR.s,CR.s]
      exact_mod_cast h5
theorem oe {c:CR} (h:br c=0):Crv c.S.length c.s c.m:=⟨(bP h).2.2.2,fun k hk=>((bP h).2.2.1 k hk).2.2⟩
noncomputable def DC:Array Tmp × Code × Code:=(lu ((Tryz.f146.body).getD .skip)).getD (#[],.skip,.skip)
def uT (P:Program) (sc:St) (q0 q2 q3 g4 g7 b4:Nat) (pa pb:Nat) (asg body:Code) (x2 x3 x1004:Cont) (bf V0 V1 CH FA:RR):Prop :=
 ∀own:Nat→Nat × Option Cont,Fit { reg:=fun _ => .raw undef,own:=own } [] (CA q0 q2 q3 g4 g7 b4 (bT #[pa,pb] asg body .ready none sc.reg) x2 x3 x1004 bf V0) →
  ∀mj:Exit→St→Prop,(∀s2,Fit s2 [] (CA q0 q2 q3 g4 g7 b4 (bT #[pa,pb] asg body .busy none sc.reg) x2 x3 x1004 bf V1)→mj .normal s2) →
  PWP P lay.get asg (ax (fun s2=>s2.own 2000=(q0,some (bT #[pa,pb] asg body .ready none sc.reg))∧PWP P lay.get body mj { reg:=s2.reg,own:=(s2.setOwn 2000 q0 (some (bT #[pa,pb] asg body .busy none sc.reg))).own }) (fun _ _=>False))
   { reg:=n6 [(pa,.agg (eR CH)),(pb,.agg (eR FA))] sc.reg,own:=own }
set_option maxRecDepth 20000 in
theorem sB {s0:St} {q0 q2 q3 g4 g7 b4:Nat} {x2 x3 x1004:Cont} {bf V0 V1 CH FA PR:RR} (hmul:Ret Tryz.prog .shared 67 [.agg (eR CH),.agg (eR FA)] (.agg (eR PR))) (hadd:Ret Tryz.prog .shared 66 [.agg (eR V0),.agg (eR PR)] (.agg (eR V1))) :
  uT Tryz.prog (s0.over [(7,.ptr 1007 g7 0 0)] []) q0 q2 q3 g4 g7 b4 20 21 DC.2.1 DC.2.2 x2 x3 x1004 bf V0 V1 CH FA:=by
 intro own hf mj hPost
 have ho:own=(St.over { reg:=fun _ => .raw undef,own:=own } [] (CA q0 q2 q3 g4 g7 b4 (bT #[20,21] DC.2.1 DC.2.2 .ready none (s0.over [(7,.ptr 1007 g7 0 0)] []).reg) x2 x3 x1004 bf V0)).own:=congrArg St.own (Fit.over hf).symm
 rw[ho]
 clear ho hf
 generalize (St.mk (fun _ => .raw undef) own)=s1
 repeat refine aa rfl ?_
 refine⟨rfl,?_⟩
 repeat refine aa rfl ?_
 refine ah 5 [22,23,24,25,26] (by decide +kernel) ?_
 repeat refine aa rfl ?_
 refine ak rfl rfl rfl hmul rfl rfl ?_
 repeat refine aa rfl ?_
 refine ak rfl rfl rfl hadd rfl rfl ?_
 repeat refine aa rfl ?_
 exact hPost _ ⟨rfl,rfl,rfl,rfl,rfl,rfl,trivial⟩
set_option maxRecDepth 20000 in
theorem xF (c:CR) (hc:c.Lim) (h0:br c=0) (y:RR) {q:Rat} {n:Nat} [hy:Vq y q n] (hn:n≤100000):Ret Tryz.prog .shared 146 [.agg (eC c),.agg (eR y)] (.tup [.agg (eR (ofQ (b7 c.S.length c.s c.m q))),I 0]):=by
 have hcc:=dL c hc
 rw[h0]at hcc
 obtain⟨h40,hSM,-,hasc⟩:=bP h0
 have hz:=d5 0 (by decide) (by decide)
 rw[show(((0:Int):Rat))=0 from rfl]at hz
 have hsum:∀i,i≤40→Vq (ofQ (ac (cX c.s c.m q) i)) (ac (cX c.s c.m q) i) (i*(n+1+32+1)+4):=fun i _=>Vq.ofQ (h:=aK i fun k _=>qc hc hy.hq k)
 refine Ret.of_pwpR layOk mixed Go.Proofs.Tryz.func146 rfl (by decide) rfl rfl rfl ?_
 repeat refine aa rfl ?_
 refine aP rfl rfl rfl hcc rfl rfl rfl ?_
 repeat refine aa rfl ?_
 refine ak rfl rfl rfl hz rfl rfl ?_
 (repeat ((fail_if_success (with_reducible refine aT 5 ?_));refine dh rfl ?_))
 refine ay (Ghost.move (k:=2) (k':=1002) (t:=2) rfl rfl rfl rfl) ?_
 refine ay (Ghost.move (k:=3) (k':=1003) (t:=3) rfl rfl rfl rfl) ?_
 refine ay (Ghost.move (k:=4) (k':=1004) (t:=4) rfl rfl rfl rfl) ?_
 refine ay (Ghost.move (k:=7) (k':=1007) (t:=7) rfl rfl rfl rfl) ?_
 ((repeat ((fail_if_success (with_reducible refine aT 5 ?_));refine dh rfl ?_));refine aG 2 ?_)
 iterate 2 refine aa rfl ?_
 refine aJ ?_
 refine a_ rfl (cp layOk rfl rfl Go.Proofs.Tryz.func191 rfl (by decide) rfl rfl ?_)
 (repeat ((fail_if_success (with_reducible refine aT 1 ?_));refine dh rfl ?_))
 refine ay (Ghost.move (k:=2) (k':=2002) (t:=2) rfl rfl rfl rfl) ?_
 refine ay (Ghost.move (k:=3) (k':=2003) (t:=3) rfl rfl rfl rfl) ?_
 repeat refine aa rfl ?_
 refine lW rfl rfl ?_
 refine aM ?_
 repeat refine aa rfl ?_
 refine cg [(7,.ptr 1007 1 0 0),(4,.ptr 1004 1 0 0),(19,.clo 215 [.ptr 2002 1 0 0,.ptr 2003 1 0 0])] [(2002,1,⟨69,2,[eC c],2⟩),(2003,1,⟨26,4,[eR y],2⟩),(1004,1,⟨26,4,[[.bool false,.nil,.bool false,.nil]],2⟩),(1007,1,⟨26,4,[eR (ofQ 0)],2⟩)] ⟨rfl,rfl,rfl,rfl,rfl,rfl,rfl,trivial⟩ ?_
 intro s3
 refine rT (oS (ps:=#[20,21]) (asg:=DC.2.1) (body:=DC.2.2) 2000 rfl Go.Proofs.Tryz.func215 rfl rfl rfl rfl rfl rfl ?_)
 generalize hq0:(s3.own 2000).1+1=q0
 refine np (q:=q) (n:=n) (q0:=q0) (q2:=1) (q3:=1) (g4:=1) (g7:=1) c hc y hy (by omega) hSM (fun i=>ofQ (ac (cX c.s c.m q) i)) _ ⟨by rw[←hq0];rfl,rfl,rfl,rfl,rfl,trivial⟩ ?_ ?_
 ·intro i hi hpos b4 bf
  have hmul:=fR (ofQ (c.m i-aI c.m i)) (ofQ (q-c.s i)) (hx:=Vq.ofQ (h:=mX hc i)) (hy:=Vq.ofQ (h:=zM hc hy.hq i)) (by decide) (by omega)
  have hadd:=et (ofQ (ac (cX c.s c.m q) i)) (ofQ ((c.m i-aI c.m i)*(q-c.s i))) (hx:=hsum i (by omega)) (hy:=Vq.ofQ (h:=@HQ.mul _ _ 27 (n+1+5) (mX hc i) (zM hc hy.hq i))) (by have:=Nat.mul_le_mul (show i≤40 by omega) (show n+1+32+1≤100034 by omega);omega) (by omega)
  rw[show ac (cX c.s c.m q) i+(c.m i-aI c.m i)*(q-c.s i)=ac (cX c.s c.m q) (i+1) by rw[ac,cX,if_neg hpos]]at hadd
  exact sB (s0:=s3.over [(4,.ptr 1004 1 0 0),(19,.clo 215 [.ptr 2002 1 0 0,.ptr 2003 1 0 0])] []) hmul hadd
 ·intro i hi hor b4 bf s2 hf
  have hres:ac (cX c.s c.m q) i=b7 c.S.length c.s c.m q:=oQ hasc (fun k hk=>by rw[cX,if_pos hk]) hi hor
  dsimp only at hf
  rw[hres]at hf
  rw[←Fit.over (l:=[]) hf]
  repeat refine aa rfl ?_
  exact aF rfl rfl rfl
namespace Bd
variable {b:Bd}
def gr (b:Bd) (p:Nat→Nat) (i:Nat):Rat:=b.X i-b.Kc p/b.Kh p
theorem Ck {p:Nat→Nat} (hK:b.Kh p≠0) (t t':Rat) (i:Nat):b.y (b.ln p t') t' i=b.y (b.ln p t) t i+b.gr p i*(t'-t):=by
 rw[y,y,ln,ln,gr];grind
def Cross (b:Bd) (p:Nat→Nat) (t:Rat):Prop:=∃i,i<b.N∧∃k,k<b.n i∧b.y (b.ln p t) t i=b.S i k∧b.gr p i≠0
def det (b:Bd) (p:Nat→Nat):Rat:=b.Kh p*b.Kp p-b.Kc p*b.Kc p
def Tm (b:Bd) (t:Rat):Prop:=∃p:Nat→Nat,(∀i,i<b.N→p i≤b.n i)∧b.Kh p≠0∧(b.Cross p t∨(b.eln p t=0∧b.det p≠0))
theorem BF {n:Nat} {S:Nat→Rat} {p:Nat} {y0 y1:Rat} (h:xU n S p y0):∃s:Rat,0≤s∧s≤1∧(∀s',0≤s'→s'≤s→xU n S p (y0+s'*(y1-y0)))∧(s=1∨∃k,k<n∧y0+s*(y1-y0)=S k∧y1≠y0):=by
 obtain⟨h1,h2,h3⟩:=h
 by_cases hu:p<n∧S p<y1
 ·have h4:=h3 hu.1
  have hd:0<y1-y0:=by grind
  have hne:y1-y0≠0:=by grind
  have hs:(S p-y0)/(y1-y0)*(y1-y0)=S p-y0:=Rat.div_mul_cancel hne
  refine⟨(S p-y0)/(y1-y0),?_,?_,fun s' g1 g2=>⟨h1,fun k hk=>?_,fun _=>?_⟩,.inr ⟨p,hu.1,by grind,by grind⟩⟩
  ·rw[Rat.div_def];exact Rat.mul_nonneg (by grind) (Rat.le_of_lt (Rat.inv_pos.2 hd))
  ·by_cases hc:(S p-y0)/(y1-y0)≤1
   ·exact hc
   ·have:=Rat.mul_pos (show 0<(S p-y0)/(y1-y0)-1 by grind) hd
    grind
  ·have:=h2 k hk
   have:=Rat.mul_nonneg g1 (Rat.le_of_lt hd)
   grind
  ·have:=Rat.mul_nonneg (show 0≤(S p-y0)/(y1-y0)-s' by grind) (Rat.le_of_lt hd)
   grind
 ·by_cases hl:∃k,p=k+1∧y1<S k
  ·obtain⟨k,rfl,hk⟩:=hl
   have h4:=h2 k rfl
   have hd:0<y0-y1:=by grind
   have hne:y0-y1≠0:=by grind
   have hs:(y0-S k)/(y0-y1)*(y0-y1)=y0-S k:=Rat.div_mul_cancel hne
   refine⟨(y0-S k)/(y0-y1),?_,?_,fun s' g1 g2=>⟨h1,fun k' hk'=>?_,fun hn=>?_⟩,.inr ⟨k,by omega,by grind,by grind⟩⟩
   ·rw[Rat.div_def];exact Rat.mul_nonneg (by grind) (Rat.le_of_lt (Rat.inv_pos.2 hd))
   ·by_cases hc:(y0-S k)/(y0-y1)≤1
    ·exact hc
    ·have:=Rat.mul_pos (show 0<(y0-S k)/(y0-y1)-1 by grind) hd
     grind
   ·obtain rfl:k=k':=by omega
    have:=Rat.mul_nonneg (show 0≤(y0-S k)/(y0-y1)-s' by grind) (Rat.le_of_lt hd)
    grind
   ·have:=h3 hn
    have:=Rat.mul_nonneg g1 (Rat.le_of_lt hd)
    grind
  ·refine⟨1,by decide,Rat.le_refl,fun s' g1 g2=>⟨h1,fun k hk=>?_,fun hn=>?_⟩,.inl rfl⟩
   ·have h4:=h2 k hk
    have h5:¬y1<S k:=fun hh=>hl ⟨k,hk,hh⟩
    have h6:=Rat.mul_nonneg g1 (show 0≤y1-S k by grind)
    have h7:=Rat.mul_nonneg (show 0≤1-s' by grind) (show 0≤y0-S k by grind)
    grind
   ·have h4:=h3 hn
    have h5:¬S p<y1:=fun hh=>hu ⟨hn,hh⟩
    have h6:=Rat.mul_nonneg g1 (show 0≤S p-y1 by grind)
    have h7:=Rat.mul_nonneg (show 0≤1-s' by grind) (show 0≤S p-y0 by grind)
    grind
theorem EO {p:Nat→Nat} {t0:Rat} (hK:b.Kh p≠0) (h0:b.Inc p (b.ln p t0) t0) (t1:Rat) :
  ∃s:Rat,0≤s∧s≤1∧(∀s',0≤s'→s'≤s→b.Inc p (b.ln p (t0+s'*(t1-t0))) (t0+s'*(t1-t0)))∧(s=1∨b.Cross p (t0+s*(t1-t0))):=by
 have hy:∀s i,b.y (b.ln p (t0+s*(t1-t0))) (t0+s*(t1-t0)) i=b.y (b.ln p t0) t0 i+s*(b.y (b.ln p t1) t1 i-b.y (b.ln p t0) t0 i):=by
  intro s i
  rw[Ck hK t0 (t0+s*(t1-t0)),Ck hK t0 t1];grind
 have key:∀m,m≤b.N→∃s:Rat,0≤s∧s≤1∧(∀s',0≤s'→s'≤s→∀i,i<m→xU (b.n i) (b.S i) (p i) (b.y (b.ln p (t0+s'*(t1-t0))) (t0+s'*(t1-t0)) i))∧(s=1∨b.Cross p (t0+s*(t1-t0))):=by
  intro m
  induction m with
  |zero=>exact fun _=>⟨1,by decide,Rat.le_refl,fun _ _ _ i hi=>by omega,.inl rfl⟩
  |succ m ih =>
   intro hm
   obtain⟨s,g1,g2,g3,g4⟩:=ih (by omega)
   obtain⟨s2,k1,k2,k3,k4⟩:=BF (y1:=b.y (b.ln p t1) t1 m) (h0 m (by omega))
   by_cases hs:s≤s2
   ·refine⟨s,g1,g2,fun s' q1 q2 i hi=>?_,g4⟩
    by_cases he:i<m
    ·exact g3 s' q1 q2 i he
    ·obtain rfl:i=m:=by omega
     rw[hy];exact k3 s' q1 (by grind)
   ·refine⟨s2,k1,k2,fun s' q1 q2 i hi=>?_,?_⟩
    ·by_cases he:i<m
     ·exact g3 s' q1 (by grind) i he
     ·obtain rfl:i=m:=by omega
      rw[hy];exact k3 s' q1 q2
    ·rcases k4 with k4|⟨k,q1,q2,q3⟩
     ·exact .inl k4
     ·refine .inr ⟨m,by omega,k,q1,by rw[hy];exact q2,fun hg=>?_⟩
      have:=Ck hK t0 t1 m
      rw[hg]at this
      exact q3 (by grind)
 exact key b.N (Nat.le_refl _)
theorem mE {p:Nat→Nat} (hK:b.Kh p≠0) (t t':Rat):(b.eln p t'-b.eln p t)*b.Kh p=b.det p*(t'-t):=by
 rw[eln,eln,ln,ln,det];grind
theorem vh {p:Nat→Nat} (hK:0<b.Kh p) {t0 t1:Rat} (h0:b.eln p t0<0) (h1:0≤b.eln p t1):∃s:Rat,0<s∧s≤1∧b.eln p (t0+s*(t1-t0))=0∧b.det p≠0:=by
 have hne:b.Kh p≠0:=by grind
 have hl:=mE hne t0 t1
 have hd:0<b.eln p t1-b.eln p t0:=by grind
 have hd':b.eln p t1-b.eln p t0≠0:=by grind
 have hdet:b.det p≠0:=by
  intro h
  rw[h]at hl
  have:=Rat.mul_pos hd hK
  grind
 have hs:(-b.eln p t0)/(b.eln p t1-b.eln p t0)*(b.eln p t1-b.eln p t0) = -b.eln p t0:=Rat.div_mul_cancel hd'
 generalize (-b.eln p t0)/(b.eln p t1-b.eln p t0)=s at *
 refine⟨s,?_,?_,?_,hdet⟩
 ·by_cases hc:0<s
  ·exact hc
  ·have:=Rat.mul_nonneg (show 0 ≤ -s by grind) (Rat.le_of_lt hd)
   grind
 ·by_cases hc:s≤1
  ·exact hc
  ·have:=Rat.mul_pos (show 0<s-1 by grind) hd
   grind
 ·have h2:=mE hne t0 (t0+s*(t1-t0))
  have h3:(b.eln p (t0+s*(t1-t0))-b.eln p t0-s*(b.eln p t1-b.eln p t0))*b.Kh p=0:=by grind
  rcases Rat.mul_eq_zero.1 h3 with h4|h4
  ·grind
  ·exact absurd h4 hne
theorem yR (h:b.Ok) {lo hi zl zh:Rat} (hlt:lo<hi) (ll:b.Least zl lo) (lh:b.Least zh hi) (el:b.e zl lo<0) (eh:0<b.e zh hi)
  (sep:∀t t',b.Tm t→b.Tm t'→lo≤t→t≤hi→lo≤t'→t'≤hi→t=t') {p:Nat→Nat} (hp:b.Inl p zl lo) :
  ∃t,b.Bal (b.ln p t) t∧b.eln p t=0∧b.det p≠0:=by
 have hK:=ll.K h hp
 have hne:b.Kh p≠0:=by grind
 have hzl:=ln_at h ll.1 hp.c hK
 have hpc:=hp.c
 rw[hzl]at hpc
 have el':b.eln p lo<0:=by rw[←yE h hpc,←hzl];exact el
 obtain⟨s,g1,g2,g3,g4⟩:=EO hne hpc hi
 have g5:=g3 s g1 Rat.le_refl
 have hFb:∀t,b.Inc p (b.ln p t) t→b.eln p t=0→b.Bal (b.ln p t) t:=fun t h1 h2=>by
  refine⟨AW h h1 hK,?_⟩
  have:=yE h h1
  rw[h2,e]at this;grind
 have hple:∀i,i<b.N→p i≤b.n i:=fun i hi=>(hp i hi).1
 by_cases hz:0≤b.eln p (lo+s*(hi-lo))
 ·obtain⟨r,k1,k2,k3,k4⟩:=vh hK el' hz
  refine⟨_,hFb _ ?_ k3,k3,k4⟩
  rw[show lo+r*(lo+s*(hi-lo)-lo)=lo+r*s*(hi-lo) by grind]
  refine g3 _ (Rat.mul_nonneg (by grind) g1) ?_
  have:=Rat.mul_nonneg (show 0≤1-r by grind) g1
  grind
 ·exfalso
  generalize ht1:lo+s*(hi-lo)=t1 at *
  have hin1:lo≤t1∧t1≤hi:=by
   have:=Rat.mul_nonneg g1 (show 0≤hi-lo by grind)
   have:=Rat.mul_nonneg (show 0≤1-s by grind) (show 0≤hi-lo by grind)
   grind
  have he1:b.e (b.ln p t1) t1<0:=by rw[yE h g5];grind
  have hF1:=AW h g5 hK
  have hT1:b.Tm t1:=by
   rcases g4 with g4|g4
   ·exfalso
    have:t1=hi:=by rw[←ht1,g4];grind
    rw[this]at he1 hF1
    have:=Ac h (hF1.trans lh.1.symm)
    rw[e]at he1 eh
    grind
   ·exact⟨p,hple,hne,.inl g4⟩
  obtain⟨q,hq⟩:=pO h zh hi
  have hKq:=lh.K h hq
  have hneq:b.Kh q≠0:=by grind
  have hzh:=ln_at h lh.1 hq.c hKq
  have hqc:=hq.c
  rw[hzh]at hqc
  have eh':0<b.eln q hi:=by rw[←yE h hqc,←hzh];exact eh
  have hqle:∀i,i<b.N→q i≤b.n i:=fun i hi=>(hq i hi).1
  obtain⟨r,k1,k2,k3,k4⟩:=EO hneq hqc lo
  generalize ht2:hi+r*(lo-hi)=t2 at *
  have hin2:lo≤t2∧t2≤hi:=by
   have:=Rat.mul_nonneg k1 (show 0≤hi-lo by grind)
   have:=Rat.mul_nonneg (show 0≤1-r by grind) (show 0≤hi-lo by grind)
   grind
  have hle:t2≤t1:=by
   rcases k4 with k4|k4
   ·have:t2=lo:=by rw[←ht2,k4];grind
    grind
   ·have:=sep t1 t2 hT1 ⟨q,hqle,hneq,.inl k4⟩ hin1.1 hin1.2 hin2.1 hin2.2
    grind
  have hw:0<hi-lo:=by grind
  have hwn:hi-lo≠0:=by grind
  have hs':(hi-t1)/(hi-lo)*(hi-lo)=hi-t1:=Rat.div_mul_cancel hwn
  have hq1:b.Inc q (b.ln q t1) t1:=by
   have:=k3 ((hi-t1)/(hi-lo)) ?_ ?_
   ·rwa [show hi+(hi-t1)/(hi-lo)*(lo-hi)=t1 by grind]at this
   ·rw[Rat.div_def];exact Rat.mul_nonneg (by grind) (Rat.le_of_lt (Rat.inv_pos.2 hw))
   ·by_cases hc:(hi-t1)/(hi-lo)≤r
    ·exact hc
    ·have:=Rat.mul_pos (show 0<(hi-t1)/(hi-lo)-r by grind) hw
     grind
  have hF2:=AW h hq1 hKq
  have heq:b.eln q t1<0:=by
   rw[←yE h hq1]
   have:=Ac h (hF1.trans hF2.symm)
   rw[e]at he1 ⊢
   grind
  obtain⟨u,q1,q2,q3,q4⟩:=vh hKq heq (Rat.le_of_lt eh')
  have hT3:b.Tm (t1+u*(hi-t1)):=⟨q,hqle,hneq,.inr ⟨q3,q4⟩⟩
  have hth:t1<hi:=by
   by_cases hc:t1=hi
   ·rw[hc]at heq;grind
   ·grind
  have hu:=Rat.mul_pos q1 (show 0<hi-t1 by grind)
  have hu2:=Rat.mul_nonneg (show 0≤1-u by grind) (show 0≤hi-t1 by grind)
  have:=sep t1 _ hT1 hT3 hin1.1 hin1.2 (by grind) (by grind)
  grind
end Bd
namespace Bd
variable {b:Bd}
def lim (b:Bd) (i:Nat):Prop:=aI (b.M i) (b.n i)=0
def cap (b:Bd) (i:Nat):Rat:=kI (b.n i) (b.S i) (b.M i)
theorem mu (x z:Rat):∃u:Rat,0≤u∧x≤u∧z≤u:=⟨cJ x+cJ z,by simp only[cJ];grind,by simp only[cJ];grind,by simp only[cJ];grind⟩
theorem iQ {g c B:Rat} (hg:0<g):∃u0:Rat,∀u,u0≤u→B≤c+g*u:=by
 refine⟨(B-c)/g,fun u hu=>?_⟩
 have h1:(B-c)/g*g=B-c:=Rat.div_mul_cancel (by grind)
 have:=Rat.mul_nonneg (show 0≤u-(B-c)/g by grind) (Rat.le_of_lt hg)
 grind
theorem ET (h:b.Ok) {s z t:Rat} (hs:s=1∨s = -1) (hl:b.Least z t) (he:s*b.e z t<0) (hT:∀t',b.Tm t'→0<s*(t-t')) :
  ∃i0,i0<b.N∧(∀i,i<b.N→0<s*(b.X i-b.X i0)→b.lim i)∧ac (fun i=>if 0<s*(b.X i-b.X i0) then b.cap i*(s*(b.X i-b.X i0)) else 0) b.N<b.w*(s*(b.A-b.X i0)):=by
 obtain⟨p,hp⟩:=pO h z t
 have hK:=hl.K h hp
 have hne:b.Kh p≠0:=by grind
 have hz:=ln_at h hl.1 hp.c hK
 have hpc:=hp.c
 rw[hz]at hpc
 have hple:∀i,i<b.N→p i≤b.n i:=fun i hi=>(hp i hi).1
 have hss:s*s=1:=by rcases hs with rfl|rfl<;>grind
 have hall:∀u:Rat,0≤u→b.Inc p (b.ln p (t+s*u)) (t+s*u):=by
  intro u hu
  obtain⟨r,g1,g2,g3,g4⟩:=EO hne hpc (t+s*u)
  rcases g4 with rfl|g4
  ·have:=g3 1 (by decide) Rat.le_refl
   rwa [show t+1*(t+s*u-t)=t+s*u by grind]at this
  ·have:=hT _ ⟨p,hple,hne,.inl g4⟩
   have h2:=Rat.mul_nonneg g1 hu
   exfalso
   have:s*(t-(t+r*(t+s*u-t))) = -(r*u)*(s*s):=by grind
   rw[hss]at this
   grind
 have hyu:∀(u:Rat) i,b.y (b.ln p (t+s*u)) (t+s*u) i=b.y (b.ln p t) t i+(s*b.gr p i)*u:=fun u i=>by rw[Ck hne t];grind
 have hfle:∀(u:Rat) i,0≤u→i<b.N→b.k p i*(b.y (b.ln p t) t i+(s*b.gr p i)*u)-b.o p i≤b.w:=by
  intro u i hu hi
  have h1:=hall u hu
  rw[←hyu,←Bk h h1 hi,←AW h h1 hK]
  exact fy (f:=b.f (b.ln p (t+s*u)) (t+s*u)) (fun k hk=>Dd h hk) hi
 have hup:∀i,i<b.N→0<s*b.gr p i→p i=b.n i∧b.k p i=0:=by
  intro i hi hg
  have hk0:b.k p i=0:=by
   rcases Classical.em (0<b.k p i) with hk|hk
   ·exfalso
    obtain⟨u0,hu0⟩:=iQ (g:=b.k p i*(s*b.gr p i)) (c:=b.k p i*b.y (b.ln p t) t i-b.o p i) (B:=b.w+1) (Rat.mul_pos hk hg)
    obtain⟨u,h1,h2,_⟩:=mu u0 0
    have:=hu0 u h2
    have:=hfle u i h1 hi
    grind
   ·have:=y2 h hpc hi;grind
  refine⟨?_,hk0⟩
  rcases Nat.lt_or_ge (p i) (b.n i) with hlt|hge
  ·exfalso
   obtain⟨u0,hu0⟩:=iQ (g:=s*b.gr p i) (c:=b.y (b.ln p t) t i) (B:=b.S i (p i)+1) hg
   obtain⟨u,h1,h2,_⟩:=mu u0 0
   have h3:=hu0 u h2
   have h4:=((hall u h1) i hi).2.2 hlt
   rw[hyu]at h4
   grind
  ·have:=hple i hi;omega
 have hdown:∀i,i<b.N→s*b.gr p i<0→p i=0:=by
  intro i hi hg
  cases hpi:p i with
  |zero=>rfl
  |succ k =>
   exfalso
   obtain⟨u0,hu0⟩:=iQ (g := -(s*b.gr p i)) (c := -(b.y (b.ln p t) t i)) (B := -(b.S i k)+1) (by grind)
   obtain⟨u,h1,h2,_⟩:=mu u0 0
   have h3:=hu0 u h2
   have h4:=((hall u h1) i hi).2.1 k hpi
   rw[hyu]at h4
   grind
 obtain⟨i0,hi0,hk0⟩:=AB hK fun i hi=>y2 h hpc hi
 have hg0:b.gr p i0=0:=by
  rcases Classical.em (0<s*b.gr p i0) with hc|hc
  ·have:=(hup i0 hi0 hc).2;grind
  ·rcases Classical.em (s*b.gr p i0<0) with hd|hd
   ·have:=hdown i0 hi0 hd
    rw[k,this,aI]at hk0;grind
   ·have h1:s*b.gr p i0=0:=by grind
    have:s*s*b.gr p i0=0:=by rw[Rat.mul_assoc,h1,Rat.mul_zero]
    rw[hss]at this;grind
 have hX:∀i,b.gr p i=b.X i-b.X i0:=fun i=>by
  have:=hg0
  rw[gr]at this ⊢
  grind
 refine⟨i0,hi0,fun i hi hc=>?_,?_⟩
 ·rw[←hX]at hc
  obtain⟨h1,h2⟩:=hup i hi hc
  rw[lim,←h1];exact h2
 ·have hsum:ac (fun i=>if 0<s*(b.X i-b.X i0) then b.cap i*(s*(b.X i-b.X i0)) else 0) b.N=s*(b.G z t-b.w*b.X i0):=by
   have h1:∀i,i<b.N→(if 0<s*(b.X i-b.X i0) then b.cap i*(s*(b.X i-b.X i0)) else 0)=(b.f z t i*b.X i-b.f z t i*b.X i0)*s:=by
    intro i hi
    rcases Classical.em (0<s*(b.X i-b.X i0)) with hc|hc
    ·rw[if_pos hc]
     rw[←hX]at hc
     obtain⟨g1,g2⟩:=hup i hi hc
     have h2:=hp.c i hi
     rw[g1]at h2
     have h3:=ky (h.crv i hi) h2 (by rw[←g1];exact g2)
     rw[cap,←h3,f];grind
    ·rw[if_neg hc]
     rcases Classical.em (s*(b.X i-b.X i0)<0) with hd|hd
     ·rw[←hX]at hd
      have h2:=hp.c i hi
      rw[hdown i hi hd]at h2
      have h3:=xE (h.crv i hi) h2
      rw[f,h3];grind
     ·have h2:s*(b.X i-b.X i0)=0:=by grind
      have:(b.f z t i*b.X i-b.f z t i*b.X i0)*s=b.f z t i*(s*(b.X i-b.X i0)):=by grind
      rw[this,h2];grind
   rw[aY h1,iH]
   have h2:ac (fun i=>b.f z t i*b.X i-b.f z t i*b.X i0) b.N=b.G z t-b.F z t*b.X i0:=by
    have:=nI (f:=fun i=>b.f z t i*b.X i) (g:=fun i=>b.f z t i*(-b.X i0)) (n:=b.N)
    rw[iH (f:=b.f z t)]at this
    rw[G,F]
    have h3:ac (fun i=>b.f z t i*b.X i-b.f z t i*b.X i0) b.N=ac (fun i=>b.f z t i*b.X i+b.f z t i*(-b.X i0)) b.N:=aY fun i _=>by grind
    rw[h3,this];grind
   rw[h2,hl.1];grind
  rw[hsum]
  rw[e]at he
  grind
end Bd
def InR (n:Nat) (S:Nat→Rat) (p:Nat) (y:Rat):Prop:=p≤n∧(∀k,p=k+1→S k≤y)∧(p<n→y<S p)
section
variable {n:Nat} {S M:Nat→Rat} {y:Rat} {p:Nat}
theorem InR.c (h:InR n S p y):xU n S p y:=⟨h.1,h.2.1,fun hp=>by have:=h.2.2 hp;grind⟩
theorem InR.some (h:Crv n S M) (y:Rat):∀(m:Nat),m≤n→∃p,p≤m∧(∀k,p=k+1→S k≤y)∧(p<m→y<S p)
 |0,_=>⟨0,Nat.le_refl _,fun k hk=>by omega,fun hk=>by omega⟩
 |m+1,hm=>by
  by_cases hy:S m≤y
  ·exact⟨m+1,Nat.le_refl _,fun k hk=>by have:k=m:=by omega
                                        subst this;exact hy,fun hk=>by omega⟩
  ·obtain⟨p,h1,h2,h3⟩:=InR.some h y m (by omega)
   refine⟨p,by omega,h2,fun _=>?_⟩
   by_cases hp:p<m
   ·exact h3 hp
   ·have:p=m:=by omega
    subst this;grind
theorem InR.get (h:Crv n S M) (y:Rat):∃p,InR n S p y:=InR.some h y n (Nat.le_refl _)
theorem mH (h:Crv n S M) (hp:InR n S p y):∃e:Rat,0<e∧∀d,0≤d→d≤e→b7 n S M (y+d)=b7 n S M y+aI M p*d:=by
 obtain⟨e,h1,h2⟩:∃e:Rat,0<e∧(p<n→y+e≤S p):=by
  by_cases hn:p<n
  ·have:=hp.2.2 hn
   exact⟨S p-y,by grind,fun _=>by grind⟩
  ·exact⟨1,by decide,fun h=>absurd h hn⟩
 refine⟨e,h1,fun d h3 h4=>?_⟩
 rw[dF h hp.c,dF h (p:=p) (y:=y+d) ⟨hp.1,fun k hk=>by have:=hp.2.1 k hk;grind,fun hn=>by have:=h2 hn;grind⟩]
 grind
theorem oo (h:Crv n S M) (hp:InL n S p y):∃e:Rat,0<e∧∀d,0≤d→d≤e→b7 n S M (y-d)=b7 n S M y-aI M p*d:=by
 obtain⟨e,h1,h2⟩:∃e:Rat,0<e∧∀k,p=k+1→S k≤y-e:=by
  cases p with
  |zero=>exact⟨1,by decide,fun k hk=>by omega⟩
  |succ k =>
   have:=hp.2.1 k rfl
   refine⟨y-S k,by grind,fun k' hk'=>?_⟩
   obtain rfl:k=k':=by omega
   grind
 refine⟨e,h1,fun d h3 h4=>?_⟩
 rw[dF h hp.c,dF h (p:=p) (y:=y-d) ⟨hp.1,fun k hk=>by have:=h2 k hk;grind,fun hn=>by have:=hp.2.2 hn;grind⟩]
 grind
theorem sa (h:Crv n S M) (hp:InR n S p y) {v:Rat} (hv:0<v) (he:b7 n S M (y+v)=b7 n S M y):aI M p=0:=by
 obtain⟨e,h1,h2⟩:=mH h hp
 have h3:0<fe e v∧fe e v≤e∧fe e v≤v:=by simp only[fe];grind
 generalize fe e v=d at h3
 have h4:=h2 d (by grind) h3.2.1
 have h5:=gy h (x:=y+d) (z:=y+v) (by grind)
 have h6:=pq h hp.1
 have h7:=Rat.mul_nonneg h6 (show 0≤d by grind)
 have h8:aI M p*d=0:=by grind
 rcases Rat.mul_eq_zero.1 h8 with h9|h9
 ·exact h9
 ·grind
theorem tS (h:Crv n S M) (hp:InL n S p y) {v:Rat} (hv:v<0) (he:b7 n S M (y+v)=b7 n S M y):aI M p=0:=by
 obtain⟨e,h1,h2⟩:=oo h hp
 have h3:0<fe e (-v)∧fe e (-v)≤e∧fe e (-v) ≤ -v:=by simp only[fe];grind
 generalize fe e (-v)=d at h3
 have h4:=h2 d (by grind) h3.2.1
 have h5:=gy h (x:=y+v) (z:=y-d) (by grind)
 have h6:=pq h hp.1
 have h7:=Rat.mul_nonneg h6 (show 0≤d by grind)
 have h8:aI M p*d=0:=by grind
 rcases Rat.mul_eq_zero.1 h8 with h9|h9
 ·exact h9
 ·grind
end
namespace Bd
variable {b:Bd}
def Free (b:Bd) (z t A B:Rat):Prop:=∀i,i<b.N→(0<A+B*b.X i→∀p,InR (b.n i) (b.S i) p (b.y z t i)→aI (b.M i) p=0)∧(A+B*b.X i<0→∀p,InL (b.n i) (b.S i) p (b.y z t i)→aI (b.M i) p=0)
def Dir (b:Bd) (A B:Rat):Prop:=(A=1∧B=0)∨(A = -1∧B=0)∨∃i,i<b.N∧((A = -b.X i∧B=1)∨(A=b.X i∧B = -1))
theorem nR (z t A B s:Rat) (i:Nat):b.y (z+s*A) (t+s*B) i=b.y z t i+s*(A+B*b.X i):=by rw[y,y];grind
theorem El (h:b.Ok) {z t A B:Rat} (hf:b.Free z t A B):∃s:Rat,0<s∧∀i,i<b.N→b.f (z+s*A) (t+s*B) i=b.f z t i:=by
 have key:∀m,m≤b.N→∃s:Rat,0<s∧∀s',0≤s'→s'≤s→∀i,i<m→b.f (z+s'*A) (t+s'*B) i=b.f z t i:=by
  intro m
  induction m with
  |zero=>exact fun _=>⟨1,by decide,fun _ _ _ i hi=>by omega⟩
  |succ m ih =>
   intro hm
   obtain⟨s,h1,h2⟩:=ih (by omega)
   have hc:=h.crv m (by omega)
   obtain⟨s2,h3,h4⟩:∃s2:Rat,0<s2∧∀s',0≤s'→s'≤s2→b.f (z+s'*A) (t+s'*B) m=b.f z t m:=by
    rcases Classical.em (0<A+B*b.X m) with hv|hv
    ·obtain⟨p,hp⟩:=InR.get hc (b.y z t m)
     have h0:=(hf m (by omega)).1 hv p hp
     obtain⟨e,g1,g2⟩:=mH hc hp
     have hq:e/(A+B*b.X m)*(A+B*b.X m)=e:=Rat.div_mul_cancel (by grind)
     refine⟨e/(A+B*b.X m),by rw[Rat.div_def];exact Rat.mul_pos g1 (Rat.inv_pos.2 hv),fun s' k1 k2=>?_⟩
     have k3:=Rat.mul_nonneg k1 (Rat.le_of_lt hv)
     have k4:=Rat.mul_nonneg (show 0≤e/(A+B*b.X m)-s' by grind) (Rat.le_of_lt hv)
     rw[f,f,nR,g2 _ k3 (by grind),h0];grind
    ·rcases Classical.em (A+B*b.X m<0) with hv'|hv'
     ·obtain⟨p,hp⟩:=InL.get hc (b.y z t m)
      have h0:=(hf m (by omega)).2 hv' p hp
      obtain⟨e,g1,g2⟩:=oo hc hp
      have hvp:0 < -(A+B*b.X m):=by grind
      have hq:e/(-(A+B*b.X m))*(-(A+B*b.X m))=e:=Rat.div_mul_cancel (by grind)
      refine⟨e/(-(A+B*b.X m)),by rw[Rat.div_def];exact Rat.mul_pos g1 (Rat.inv_pos.2 hvp),fun s' k1 k2=>?_⟩
      have k3:=Rat.mul_nonneg k1 (Rat.le_of_lt hvp)
      have k4:=Rat.mul_nonneg (show 0≤e/(-(A+B*b.X m))-s' by grind) (Rat.le_of_lt hvp)
      have k5:=g2 (s'*(-(A+B*b.X m))) k3 (by grind)
      rw[f,f,nR,show b.y z t m+s'*(A+B*b.X m)=b.y z t m-s'*(-(A+B*b.X m)) by grind,k5,h0];grind
     ·have h0:A+B*b.X m=0:=by grind
      refine⟨1,by decide,fun s' _ _=>?_⟩
      rw[f,f,nR,h0];congr 1;grind
   refine⟨fe s s2,by simp only[fe];grind,fun s' k1 k2 i hi=>?_⟩
   have k3:s'≤s∧s'≤s2:=by simp only[fe]at k2;grind
   by_cases he:i<m
   ·exact h2 s' k1 k3.1 i he
   ·obtain rfl:i=m:=by omega
    exact h4 s' k1 k3.2
 obtain⟨s,h1,h2⟩:=key b.N (Nat.le_refl _)
 exact⟨s,h1,fun i hi=>h2 s (by grind) Rat.le_refl i hi⟩
theorem ya (_h:b.Ok) {z t z' t':Rat} (hb:b.Bal z t) (hf:∀i,i<b.N→b.f z' t' i=b.f z t i):b.Bal z' t' :=
 ⟨by rw[←hb.1];exact aY hf,by rw[←hb.2];exact aY fun i hi=>by rw[hf i hi]⟩
theorem Bal.f_eq (h:b.Ok) {z t z' t':Rat} (h1:b.Bal z t) (h2:b.Bal z' t') {i:Nat} (hi:i<b.N):b.f z t i=b.f z' t' i:=lJ h (h1.1.trans h2.1.symm) (.inl (h1.2.trans h2.2.symm)) hi
theorem gJ {P:Nat→Prop} (g:Nat→Rat):∀n,(∃i,i<n∧P i)→∃i,i<n∧P i∧∀j,j<n→P j→g i≤g j
 |0,⟨i,hi,_⟩=>by omega
 |n+1,⟨i,hi,hp⟩=>by
  rcases Classical.em (∃i,i<n∧P i) with hx|hx
  ·obtain⟨k,h1,h2,h3⟩:=gJ g n hx
   rcases Classical.em (P n∧g n<g k) with hn|hn
   ·refine⟨n,by omega,hn.1,fun j hj hpj=>?_⟩
    by_cases he:j<n
    ·have:=h3 j he hpj;grind
    ·obtain rfl:j=n:=by omega
     exact Rat.le_refl
   ·refine⟨k,by omega,h2,fun j hj hpj=>?_⟩
    by_cases he:j<n
    ·exact h3 j he hpj
    ·obtain rfl:j=n:=by omega
     have:¬g j<g k:=fun h=>hn ⟨hpj,h⟩
     grind
  ·have he:i=n:=by
    rcases Nat.lt_or_ge i n with h|h
    ·exact absurd ⟨i,h,hp⟩ hx
    ·omega
   subst he
   refine⟨i,by omega,hp,fun j hj hpj=>?_⟩
   by_cases he:j<i
   ·exact absurd ⟨j,he,hpj⟩ hx
   ·obtain rfl:j=i:=by omega
    exact Rat.le_refl
theorem loose_iff (h:b.Ok) {z t:Rat} (hb:b.Bal z t):(∃A B,b.Dir A B∧b.Free z t A B)↔∃z' t',b.Bal z' t'∧(z'≠z∨t'≠t):=by
 constructor
 ·rintro⟨A,B,hd,hf⟩
  obtain⟨s,h1,h2⟩:=El h hf
  refine⟨z+s*A,t+s*B,ya h hb h2,?_⟩
  rcases Classical.em (A=0) with ha|ha
  ·right
   have hB:B≠0:=by
    rcases hd with⟨g,_⟩|⟨g,_⟩|⟨i,_,⟨_,g⟩|⟨_,g⟩⟩<;>grind
   intro he
   have:s*B=0:=by grind
   rcases Rat.mul_eq_zero.1 this with g|g<;>grind
  ·left
   intro he
   have:s*A=0:=by grind
   rcases Rat.mul_eq_zero.1 this with g|g<;>grind
 ·rintro⟨z',t',hb',hne⟩
  have hfe:=fun i (hi:i<b.N)=>Bal.f_eq h hb' hb hi
  have hfr:b.Free z t (z'-z) (t'-t):=by
   intro i hi
   have hy:b.y z' t' i=b.y z t i+(z'-z+(t'-t)*b.X i):=by rw[y,y];grind
   have he:=hfe i hi
   rw[f,f,hy]at he
   exact⟨fun hv p hp=>sa (h.crv i hi) hp hv he,fun hv p hp=>tS (h.crv i hi) hp hv he⟩
  have use:∀A B:Rat,b.Dir A B→(∀i,i<b.N→(0<A+B*b.X i→0<z'-z+(t'-t)*b.X i)∧(A+B*b.X i<0→z'-z+(t'-t)*b.X i<0))→∃A B,b.Dir A B∧b.Free z t A B:=by
   intro A B hd hs
   exact⟨A,B,hd,fun i hi=>⟨fun hv=>(hfr i hi).1 ((hs i hi).1 hv),fun hv=>(hfr i hi).2 ((hs i hi).2 hv)⟩⟩
  rcases Classical.em (t'=t) with ht|ht
  ·have hz:z'≠z:=by rcases hne with g|g<;>grind
   rcases Classical.em (0<z'-z) with hp|hp
   ·exact use 1 0 (.inl ⟨rfl,rfl⟩) fun i _=>⟨fun _=>by rw[ht];grind,fun hv=>by grind⟩
   ·exact use (-1) 0 (.inr (.inl ⟨rfl,rfl⟩)) fun i _=>⟨fun hv=>by grind,fun _=>by rw[ht];grind⟩
  ·rcases Classical.em (∃i,i<b.N∧0≤z'-z+(t'-t)*b.X i) with hx|hx
   ·rcases Classical.em (0<t'-t) with hp|hp
    ·obtain⟨k,h1,h2,h3⟩:=gJ b.X b.N hx
     refine use (-b.X k) 1 (.inr (.inr ⟨k,h1,.inl ⟨rfl,rfl⟩⟩)) fun i hi=>⟨fun hv=>?_,fun hv=>?_⟩
     ·have:=Rat.mul_pos hp (show 0<b.X i-b.X k by grind)
      grind
     ·rcases Classical.em (0≤z'-z+(t'-t)*b.X i) with hc|hc
      ·have:=h3 i hi hc;grind
      ·grind
    ·obtain⟨k,h1,h2,h3⟩:=gJ (fun i => -b.X i) b.N hx
     have hp':0<t-t':=by grind
     refine use (b.X k) (-1) (.inr (.inr ⟨k,h1,.inr ⟨rfl,rfl⟩⟩)) fun i hi=>⟨fun hv=>?_,fun hv=>?_⟩
     ·have:=Rat.mul_pos hp' (show 0<b.X k-b.X i by grind)
      grind
     ·rcases Classical.em (0≤z'-z+(t'-t)*b.X i) with hc|hc
      ·have:=h3 i hi hc;grind
      ·grind
   ·refine use (-1) 0 (.inr (.inl ⟨rfl,rfl⟩)) fun i hi=>⟨fun hv=>by grind,fun _=>?_⟩
    rcases Classical.em (0≤z'-z+(t'-t)*b.X i) with hc|hc
    ·exact absurd ⟨i,hi,hc⟩ hx
    ·grind
theorem exclude (h:b.Ok) {z t A B:Rat} (hb:b.Bal z t) (hl:∀i,i<b.N→0<A+B*b.X i→b.lim i):b.w*(A+B*b.A)≤ac (fun i=>if 0<A+B*b.X i then b.cap i*(A+B*b.X i) else 0) b.N:=by
 have h1:b.w*(A+B*b.A)=ac (fun i=>b.f z t i*(A+B*b.X i)) b.N:=by
  have h2:=nI (f:=fun i=>b.f z t i*A) (g:=fun i=>b.f z t i*b.X i*B) (n:=b.N)
  rw[iH (f:=b.f z t),iH (f:=fun i=>b.f z t i*b.X i)]at h2
  have h3:ac (fun i=>b.f z t i*(A+B*b.X i)) b.N=ac (fun i=>b.f z t i*A+b.f z t i*b.X i*B) b.N:=aY fun i _=>by grind
  rw[h3,h2]
  have e1:ac (b.f z t) b.N=b.w:=hb.1
  have e2:ac (fun i=>b.f z t i*b.X i) b.N=b.w*b.A:=hb.2
  rw[e1,e2];grind
 rw[h1]
 refine l8 fun i hi=>?_
 have hnn:=Dd h (z:=z) (t:=t) hi
 split
 ·rename_i hv
  have hc:=h.crv i hi
  have hle:b.f z t i≤b.cap i:=by
   obtain⟨q,hq⟩:∃q,b.y z t i≤q∧xU (b.n i) (b.S i) (b.n i) q:=by
    cases hn:b.n i with
    |zero=>exact⟨b.y z t i,Rat.le_refl,⟨Nat.le_refl _,fun k hk=>by omega,fun hk=>by omega⟩⟩
    |succ k=>exact⟨b.y z t i+cJ (b.S i k-b.y z t i),by simp only[cJ];grind,⟨Nat.le_refl _,fun k' hk'=>by
      obtain rfl:k=k':=by omega
      simp only[cJ];grind,fun hk=>by omega⟩⟩
   have:=gy hc hq.1
   rw[ky hc hq.2 (hl i hi hv)]at this
   exact this
  have:=Rat.mul_nonneg (show 0≤b.cap i-b.f z t i by grind) (Rat.le_of_lt hv)
  grind
 ·rename_i hv
  have:=Rat.mul_nonneg hnn (show 0 ≤ -(A+B*b.X i) by grind)
  grind
end Bd
theorem uC (q:Rat):q*(q.den:Rat)=q.num:=by
 have hne:((q.den:Int):Rat)≠0:=fun e=>b_ q (Rat.intCast_inj.1 (by simpa using e))
 have h:=dZ q
 have h2:((q.num:Rat)/((q.den:Int):Rat))*((q.den:Int):Rat)=q.num:=Rat.div_mul_cancel hne
 rw[←h,Rat.intCast_natCast]at h2
 exact h2
theorem yU {p q:Rat} {m:Nat} (hp:hq p m) (hq':hq q m) (hne:p<q):1≤(q-p)*((65536^(m+m+1):Nat):Rat):=by
 have h:=(@HQ.sub q p m m ⟨hq'⟩ ⟨hp⟩).ok
 generalize hd:q-p=d at *
 have h0:0<d:=by grind
 have hnum:1≤d.num:=by
  have h1:=Rat.num_nonneg.2 (Rat.le_of_lt h0)
  have h2:d.num≠0:=fun e=>by have:=Rat.num_eq_zero.1 e;grind
  omega
 have hdd:=uC d
 have h1:(1:Rat)≤d.num:=by exact_mod_cast hnum
 have h2:(d.den:Rat)≤((65536^(m+m+1):Nat):Rat):=by exact_mod_cast Nat.le_of_lt h.2
 have h3:=Rat.mul_le_mul_of_nonneg_left h2 (Rat.le_of_lt h0)
 grind
theorem yS {q:Rat} {m:Nat} (h:hq q m):q<((65536^m:Nat):Rat) ∧ -((65536^m:Nat):Rat)<q:=by
 have hdd:=uC q
 have hd1:(1:Rat)≤(q.den:Rat):=by exact_mod_cast q.den_pos
 have hab:=h.1
 generalize 65536^m=V at *
 have hn:q.num<(V:Int) ∧ -(V:Int)<q.num:=by omega
 have hn1:(q.num:Rat)<((V:Nat):Rat):=by
  have:=Rat.intCast_lt_intCast.2 hn.1
  rwa [Rat.intCast_natCast]at this
 have hn2 : -((V:Nat):Rat)<(q.num:Rat):=by
  have:=Rat.intCast_lt_intCast.2 hn.2
  rwa [Rat.intCast_neg,Rat.intCast_natCast]at this
 have hW:(0:Rat)≤((V:Nat):Rat):=by exact_mod_cast Nat.zero_le _
 generalize ((V:Nat):Rat)=W at *
 generalize (q.den:Rat)=D at *
 constructor
 ·rcases Classical.em (q<W) with hc|hc
  ·exact hc
  ·have:=Rat.mul_nonneg (show 0≤q-W by grind) (show 0≤D by grind)
   have:=Rat.mul_nonneg hW (show 0≤D-1 by grind)
   grind
 ·rcases Classical.em (-W<q) with hc|hc
  ·exact hc
  ·have:=Rat.mul_nonneg (show 0 ≤ -W-q by grind) (show 0≤D by grind)
   have:=Rat.mul_nonneg hW (show 0≤D-1 by grind)
   grind
namespace Bd
structure Sz (b:Bd):Prop where
 N:b.N≤10
 n:∀i,i<b.N→b.n i≤5
 X:∀i,i<b.N→hq (b.X i) 4
 C:∀i,i<b.N→hq (b.C i) 9
 S:∀i,i<b.N→∀k,k<b.n i→hq (b.S i k) 4
 M:∀i,i<b.N→∀k,k<b.n i→hq (b.M i k) 4
 w:hq b.w 4
 A:hq b.A 8
variable {b:Bd}
theorem Sz.k (h:b.Sz) {p:Nat→Nat} (hp:∀i,i<b.N→p i≤b.n i) {i:Nat} (hi:i<b.N):HQ (b.k p i) 4:=by
 rw[Bd.k]
 have h1:=hp i hi
 cases hpi:p i with
 |zero=>rw[aI];exact HQ.zero
 |succ m=>exact⟨h.M i hi m (by omega)⟩
theorem Sz.bef (h:b.Sz) {i:Nat} (hi:i<b.N) {k:Nat} (hk:k<b.n i):HQ (aI (b.M i) k) 4:=by
 cases k with
 |zero=>rw[aI];exact HQ.zero
 |succ m=>exact⟨h.M i hi m (by omega)⟩
theorem Sz.o (h:b.Sz) {p:Nat→Nat} (hp:∀i,i<b.N→p i≤b.n i) {i:Nat} (hi:i<b.N):HQ (b.o p i) 74:=by
 rw[Bd.o,gc]
 have h1:=hp i hi
 have h2:=h.n i hi
 refine(aK (m:=13) (p i) fun k hk=>?_).mono (by omega)
 have:=h.bef hi (k:=k) (by omega)
 have:HQ (b.M i k) 4:=⟨h.M i hi k (by omega)⟩
 have:HQ (b.S i k) 4:=⟨h.S i hi k (by omega)⟩
 show HQ ((b.M i k-aI (b.M i) k)*b.S i k) 13
 exact inferInstanceAs (HQ ((b.M i k-aI (b.M i) k)*b.S i k) (4+4+1+4))
theorem Sz.Kh (h:b.Sz) {p:Nat→Nat} (hp:∀i,i<b.N→p i≤b.n i):HQ (b.Kh p) 54:=by
 have:=h.N
 exact(aK (m:=4) b.N fun i hi=>h.k hp hi).mono (by omega)
theorem Sz.Kc (h:b.Sz) {p:Nat→Nat} (hp:∀i,i<b.N→p i≤b.n i):HQ (b.Kc p) 94:=by
 have:=h.N
 refine(aK (m:=8) b.N fun i hi=>?_).mono (by omega)
 have:=h.k hp hi
 have:HQ (b.X i) 4:=⟨h.X i hi⟩
 exact inferInstanceAs (HQ (b.k p i*b.X i) (4+4))
theorem Sz.Kp (h:b.Sz) {p:Nat→Nat} (hp:∀i,i<b.N→p i≤b.n i):HQ (b.Kp p) 134:=by
 have:=h.N
 refine(aK (m:=12) b.N fun i hi=>?_).mono (by omega)
 have:=h.k hp hi
 have:HQ (b.X i) 4:=⟨h.X i hi⟩
 exact inferInstanceAs (HQ (b.k p i*b.X i*b.X i) (4+4+4))
theorem Sz.Fo (h:b.Sz) {p:Nat→Nat} (hp:∀i,i<b.N→p i≤b.n i):HQ (b.Fo p) 894:=by
 have:=h.N
 refine(aK (m:=88) b.N fun i hi=>?_).mono (by omega)
 have:=h.k hp hi
 have:=h.o hp hi
 have:HQ (b.C i) 9:=⟨h.C i hi⟩
 exact inferInstanceAs (HQ (b.k p i*b.C i-b.o p i) (4+9+74+1))
theorem Sz.Go (h:b.Sz) {p:Nat→Nat} (hp:∀i,i<b.N→p i≤b.n i):HQ (b.Go p) 934:=by
 have:=h.N
 refine(aK (m:=92) b.N fun i hi=>?_).mono (by omega)
 have:=h.k hp hi
 have:=h.o hp hi
 have:HQ (b.C i) 9:=⟨h.C i hi⟩
 have:HQ (b.X i) 4:=⟨h.X i hi⟩
 exact inferInstanceAs (HQ ((b.k p i*b.C i-b.o p i)*b.X i) (4+9+74+1+4))
theorem Sz.Tm (h:b.Sz) {t:Rat} (ht:b.Tm t):hq t 3000:=by
 obtain⟨p,hp,hK,ht⟩:=ht
 have h1:=h.Kh hp
 have h2:=h.Kc hp
 have h3:=h.Kp hp
 have h4:=h.Fo hp
 have h5:=h.Go hp
 have hw:HQ b.w 4:=⟨h.w⟩
 have hA:HQ b.A 8:=⟨h.A⟩
 rcases ht with⟨i,hi,k,hk,g1,g2⟩|⟨g1,g2⟩
 ·have hX:HQ (b.X i) 4:=⟨h.X i hi⟩
  have hC:HQ (b.C i) 9:=⟨h.C i hi⟩
  have hS:HQ (b.S i k) 4:=⟨h.S i hi k hk⟩
  have:t=(b.S i k-b.C i-(b.w-b.Fo p)/b.Kh p)/(b.X i-b.Kc p/b.Kh p):=by
   rw[Bd.y,Bd.ln]at g1
   rw[Bd.gr]at g2
   grind
  rw[this]
  have e:HQ ((b.S i k-b.C i-(b.w-b.Fo p)/b.Kh p)/(b.X i-b.Kc p/b.Kh p)) _:=inferInstance
  exact eO e.ok (by decide)
 ·have:t=(b.w*b.A-b.Go p-b.Kc p*((b.w-b.Fo p)/b.Kh p))/((b.Kh p*b.Kp p-b.Kc p*b.Kc p)/b.Kh p):=by
   rw[Bd.eln,Bd.ln]at g1
   rw[Bd.det]at g2
   grind
  rw[this]
  have e:HQ ((b.w*b.A-b.Go p-b.Kc p*((b.w-b.Fo p)/b.Kh p))/((b.Kh p*b.Kp p-b.Kc p*b.Kc p)/b.Kh p)) _:=inferInstance
  exact eO e.ok (by decide)
end Bd
def kB (S:Nat→Rat) (y:Rat):Nat→Nat
 |0=>0
 |m+1=>if S m<y then m+1 else kB S y m
def ic (S:Nat→Rat) (y:Rat):Nat→Nat
 |0=>0
 |m+1=>if S m≤y then m+1 else ic S y m
theorem nh {S:Nat→Rat} {y:Rat}:∀m,kB S y m≤m∧(∀k,kB S y m=k+1→S k<y)∧(kB S y m<m→y≤S (kB S y m))
 |0=>⟨Nat.le_refl _,fun k hk=>by simp[kB]at hk,fun h=>by simp[kB]at h⟩
 |m+1=>by
  obtain⟨h1,h2,h3⟩:=nh (S:=S) (y:=y) m
  rw[kB]
  split
  ·rename_i hy
   exact⟨Nat.le_refl _,fun k hk=>by have:k=m:=by omega
                                    subst this;exact hy,fun h=>by omega⟩
  ·rename_i hy
   refine⟨by omega,h2,fun _=>?_⟩
   by_cases hp:kB S y m<m
   ·exact h3 hp
   ·rw[show kB S y m=m by omega];grind
theorem nk {S:Nat→Rat} {y:Rat}:∀m,ic S y m≤m∧(∀k,ic S y m=k+1→S k≤y)∧(ic S y m<m→y<S (ic S y m))
 |0=>⟨Nat.le_refl _,fun k hk=>by simp[ic]at hk,fun h=>by simp[ic]at h⟩
 |m+1=>by
  obtain⟨h1,h2,h3⟩:=nk (S:=S) (y:=y) m
  rw[ic]
  split
  ·rename_i hy
   exact⟨Nat.le_refl _,fun k hk=>by have:k=m:=by omega
                                    subst this;exact hy,fun h=>by omega⟩
  ·rename_i hy
   refine⟨by omega,h2,fun _=>?_⟩
   by_cases hp:ic S y m<m
   ·exact h3 hp
   ·rw[show ic S y m=m by omega];grind
theorem ng {n:Nat} {S:Nat→Rat} {y:Rat}:InL n S (kB S y n) y:=nh n
theorem tt {n:Nat} {S:Nat→Rat} {y:Rat}:InR n S (ic S y n) y:=nk n
theorem InL.uniq {n:Nat} {S M:Nat→Rat} (h:Crv n S M) {p q:Nat} {y:Rat} (h1:InL n S p y) (h2:InL n S q y):p=q:=by
 have key:∀ {p q:Nat},InL n S p y→InL n S q y→p<q→False:=by
  intro p q h1 h2 hlt
  obtain⟨k,rfl⟩:∃k,q=k+1:=⟨q-1,by omega⟩
  have g1:=h2.2.1 k rfl
  have g2:=h1.2.2 (by have:=h2.1;omega)
  have:=h.mono_st (i:=p) (j:=k) (by omega) (by have:=h2.1;omega)
  grind
 rcases Nat.lt_trichotomy p q with g|g|g
 ·exact(key h1 h2 g).elim
 ·exact g
 ·exact(key h2 h1 g).elim
theorem InR.uniq {n:Nat} {S M:Nat→Rat} (h:Crv n S M) {p q:Nat} {y:Rat} (h1:InR n S p y) (h2:InR n S q y):p=q:=by
 have key:∀ {p q:Nat},InR n S p y→InR n S q y→p<q→False:=by
  intro p q h1 h2 hlt
  obtain⟨k,rfl⟩:∃k,q=k+1:=⟨q-1,by omega⟩
  have g1:=h2.2.1 k rfl
  have g2:=h1.2.2 (by have:=h2.1;omega)
  have:=h.mono_st (i:=p) (j:=k) (by omega) (by have:=h2.1;omega)
  grind
 rcases Nat.lt_trichotomy p q with g|g|g
 ·exact(key h1 h2 g).elim
 ·exact g
 ·exact(key h2 h1 g).elim
namespace Bd
def pL (b:Bd) (z t:Rat) (i:Nat):Nat:=kB (b.S i) (b.y z t i) (b.n i)
def pR (b:Bd) (z t:Rat) (i:Nat):Nat:=ic (b.S i) (b.y z t i) (b.n i)
def newt (kh kc kp fo mo:Rat):Option (Rat × Rat):=if kh*kp-kc*kc=0 then none else some ((kp*fo-kc*mo)/(kh*kp-kc*kc),(kh*mo-kc*fo)/(kh*kp-kc*kc))
def tryP (b:Bd) (z t:Rat) (p:Nat→Nat):Option (Rat × Rat):=match newt (b.Kh p) (b.Kc p) (b.Kp p) (b.w-b.F z t) (-(b.e z t)) with
 |none=>none
 |some d=>if b.F (z+d.1) (t+d.2)=b.w∧b.G (z+d.1) (t+d.2)=b.w*b.A then some (z+d.1,t+d.2) else none
def guess (b:Bd) (z t:Rat):Option (Rat × Rat):=match b.tryP z t (b.pR z t) with
 |some x=>some x
 |none=>b.tryP z t (b.pL z t)
noncomputable def sg (b:Bd) (t:Rat):Rat:=Classical.epsilon fun z=>b.Least z t
noncomputable def E (b:Bd) (t:Rat):Rat:=b.e (b.sg t) t
open Classical in
noncomputable def dbl (b:Bd) (s:Rat):Nat→Rat→Option Rat
 |0,_=>none
 |n+1,w=>if s*b.E (s*w)<0 then dbl b s n (w+w) else some w
noncomputable def at1 (b:Bd) (t:Rat):Option (Rat × Rat):=if b.E t=0 then some (b.sg t,t) else b.guess (b.sg t) t
noncomputable def bis (b:Bd):Nat→Rat→Rat→Option (Rat × Rat)
 |0,_,_=>none
 |n+1,lo,hi=>match b.at1 ((lo+hi)/2) with
  |some x=>some x
  |none=>if b.E ((lo+hi)/2)<0 then bis b n ((lo+hi)/2) hi else bis b n lo ((lo+hi)/2)
noncomputable def fst3 (b:Bd) (lo hi:Rat):Option (Rat × Rat):=match b.at1 0 with
 |some x=>some x
 |none=>match b.at1 lo with
  |some x=>some x
  |none=>b.at1 hi
variable {b:Bd}
theorem gu {t:Rat} (h:∃z,b.Least z t):b.Least (b.sg t) t:=Classical.epsilon_spec h
theorem sg_eq {z t:Rat} (h:b.Least z t):b.sg t=z:=Least.uniq (gu ⟨z,h⟩) h
theorem su {z t:Rat} {p:Nat→Nat} {x:Rat × Rat} (h:b.tryP z t p=some x):b.Bal x.1 x.2:=by
 unfold tryP at h
 split at h
 ·cases h
 ·split at h
  ·cases h;assumption
  ·cases h
theorem vX {z t:Rat} {x:Rat × Rat} (h:b.guess z t=some x):b.Bal x.1 x.2:=by
 unfold guess at h
 split at h
 ·rename_i hx;cases h;exact su hx
 ·exact su h
theorem lP {t:Rat} (hl:∃z,b.Least z t) {x:Rat × Rat} (h:b.at1 t=some x):b.Bal x.1 x.2:=by
 unfold at1 at h
 split at h
 ·rename_i he
  cases h
  refine⟨(gu hl).1,?_⟩
  rw[E,e]at he
  show b.G (b.sg t) t=_
  grind
 ·exact vX h
theorem s8 (h:b.Ok) {lo hi:Rat} (hl:∀t,∃z,b.Least z t) (hlt:lo<hi) (el:b.E lo<0) (eh:0<b.E hi)
  (sep:∀t t',b.Tm t→b.Tm t'→lo≤t→t≤hi→lo≤t'→t'≤hi→t=t'):b.guess (b.sg lo) lo≠none:=by
 have ll:=gu (hl lo)
 have hp:b.Inl (b.pL (b.sg lo) lo) (b.sg lo) lo:=fun i _=>ng
 obtain⟨t,h1,h2,h3⟩:=yR h hlt ll (gu (hl hi)) el eh sep hp
 have el2:b.e (b.sg lo) lo=b.E lo:=rfl
 rw[guess]
 generalize hzd:b.sg lo=z0 at *
 generalize hpd:b.pL z0 lo=p at *
 have hK:=ll.K h hp
 have hne:b.Kh p≠0:=by grind
 have hz:=ln_at h ll.1 hp.c hK
 have he:b.e z0 lo=b.eln p lo:=by
  have:=hp.c
  rw[e,G_at h this,eln,←hz]
 have htry:b.tryP z0 lo p=some (b.ln p t,t):=by
  have hel:=mE hne lo t
  rw[h2]at hel
  rw[det]at h3 hel
  rw[tryP,newt,if_neg h3]
  dsimp only
  have e2:lo+(b.Kh p * -(b.e z0 lo)-b.Kc p*(b.w-b.F z0 lo))/(b.Kh p*b.Kp p-b.Kc p*b.Kc p)=t:=by
   rw[ll.1,he];grind
  have e1:z0+(b.Kp p*(b.w-b.F z0 lo)-b.Kc p * -(b.e z0 lo))/(b.Kh p*b.Kp p-b.Kc p*b.Kc p)=b.ln p t:=by
   have e3:b.ln p t=z0-b.Kc p/b.Kh p*(t-lo):=by
    rw[hz,ln,ln];grind
   rw[e3,ll.1,he];grind
  rw[e1,e2]
  exact if_pos h1
 rw[htry]
 intro hn
 split at hn<;>cases hn
theorem mx (h:b.Ok) (hsz:b.Sz) (hl:∀t,∃z,b.Least z t) {W:Rat} (hW:W=((65536^(3000+3000+1):Nat):Rat)):∀(n:Nat) (lo hi:Rat),lo<hi→b.E lo<0→0<b.E hi→b.guess (b.sg lo) lo=none→(hi-lo)*W<((2^n:Nat):Rat)→∃x,b.bis n lo hi=some x∧b.Bal x.1 x.2
 |0,lo,hi,hlt,el,eh,hg,hd=>by
  exfalso
  have hd1:(hi-lo)*W<1:=by
   rw[Nat.pow_zero]at hd
   exact hd
  have hW0:(0:Rat)≤W:=by rw[hW];exact_mod_cast Nat.zero_le _
  refine s8 h hl hlt el eh (fun t t' ht ht' g1 g2 g3 g4=>?_) hg
  have k1:=hsz.Tm ht
  have k2:=hsz.Tm ht'
  have one:∀ {u v:Rat},hq u 3000→hq v 3000→u<v→v-u≤hi-lo→False:=by
   intro u v hu hv huv hle
   have h1:=yU hu hv huv
   rw[←hW]at h1
   have h2:=Rat.mul_nonneg (show 0≤(hi-lo)-(v-u) by grind) hW0
   grind
  rcases Classical.em (t<t') with hc|hc
  ·exact(one k1 k2 hc (by grind)).elim
  ·rcases Classical.em (t'<t) with hc'|hc'
   ·exact(one k2 k1 hc' (by grind)).elim
   ·grind
 |n+1,lo,hi,hlt,el,eh,hg,hd=>by
  have hpow:((2^(n+1):Nat):Rat)=2*((2^n:Nat):Rat):=by
   rw[Nat.pow_succ,Rat.natCast_mul];grind
  rw[hpow]at hd
  rw[bis]
  cases h1:b.at1 ((lo+hi)/2) with
  |some x=>exact⟨x,rfl,lP (hl _) h1⟩
  |none =>
   dsimp only
   have h2:b.E ((lo+hi)/2)≠0∧b.guess (b.sg ((lo+hi)/2)) ((lo+hi)/2)=none:=by
    unfold at1 at h1
    split at h1
    ·cases h1
    ·exact⟨‹_›,h1⟩
   split
   ·rename_i hE
    exact mx h hsz hl hW n _ hi (by grind) hE eh h2.2 (by grind)
   ·rename_i hE
    exact mx h hsz hl hW n lo _ (by grind) el (by grind) hg (by grind)
def NoTip (b:Bd):Prop:=∀s:Rat,s=1∨s = -1→∀i0,i0<b.N→(∀i,i<b.N→0<s*(b.X i-b.X i0)→b.lim i)→¬ac (fun i=>if 0<s*(b.X i-b.X i0) then b.cap i*(s*(b.X i-b.X i0)) else 0) b.N<b.w*(s*(b.A-b.X i0))
theorem qR (h:b.Ok) (hsz:b.Sz) (hl:∀t,∃z,b.Least z t) (hn:b.NoTip) {s:Rat} (hs:s=1∨s = -1) {K:Nat} (hK:65536^3000=2^K) :
  ∀(j k:Nat),K≤j+k→k≤K→∃m,m≤K∧b.dbl s (j+1) ((2^k:Nat):Rat)=some ((2^m:Nat):Rat)∧0≤s*b.E (s*((2^m:Nat):Rat)):=by
 intro j
 induction j with
 |zero =>
  intro k h1 h2
  obtain rfl:k=K:=by omega
  have hE:¬s*b.E (s*((2^k:Nat):Rat))<0:=by
   intro hlt
   obtain⟨i0,g1,g2,g3⟩:=ET h hs (gu (hl _)) hlt fun t' ht'=>by
    have:=yS (hsz.Tm ht')
    rw[hK]at this
    rcases hs with rfl|rfl<;>grind
   exact hn s hs i0 g1 g2 g3
  refine⟨k,Nat.le_refl _,?_,by grind⟩
  rw[dbl,if_neg hE]
 |succ j ih =>
  intro k h1 h2
  rw[dbl]
  split
  ·rename_i hlt
   by_cases hk:k=K
   ·subst hk
    exfalso
    obtain⟨i0,g1,g2,g3⟩:=ET h hs (gu (hl _)) hlt fun t' ht'=>by
     have:=yS (hsz.Tm ht')
     rw[hK]at this
     rcases hs with rfl|rfl<;>grind
    exact hn s hs i0 g1 g2 g3
   ·have hp:((2^k:Nat):Rat)+((2^k:Nat):Rat)=((2^(k+1):Nat):Rat):=by rw[Nat.pow_succ,Rat.natCast_mul];grind
    rw[hp]
    exact ih (k+1) (by omega) (by omega)
  ·exact⟨k,h2,rfl,by grind⟩
noncomputable def eqQ (b:Bd) (n:Nat):Option (Rat × Rat):=match b.dbl (-1) n 1,b.dbl 1 n 1 with
 |some wl,some wh=>(match b.fst3 (-wl) wh with
  |some x=>some x
  |none=>b.bis n (-wl) wh)
 |_,_=>none
theorem eq_some (h:b.Ok) (hsz:b.Sz) (hl:∀t,∃z,b.Least z t) (hn:b.NoTip) {K n:Nat} (hK:65536^3000=2^K) {L:Nat} (hL:65536^(3000+3000+1)=2^L) (hKn:K<n) (hLn:K+1+L<n):∃x,b.eqQ n=some x∧b.Bal x.1 x.2:=by
 obtain⟨j,rfl⟩:∃j,n=j+1:=⟨n-1,by omega⟩
 obtain⟨ml,l1,l2,l3⟩:=qR h hsz hl hn (s := -1) (.inr rfl) hK j 0 (by omega) (by omega)
 obtain⟨mh,g1,g2,g3⟩:=qR h hsz hl hn (s:=1) (.inl rfl) hK j 0 (by omega) (by omega)
 rw[show(((2:Nat)^0:Nat):Rat)=1 by rfl]at l2 g2
 have hml:((2^ml:Nat):Rat)≤((2^K:Nat):Rat):=by exact_mod_cast Nat.pow_le_pow_right (by decide) l1
 have hmh:((2^mh:Nat):Rat)≤((2^K:Nat):Rat):=by exact_mod_cast Nat.pow_le_pow_right (by decide) g1
 have hml0:(0:Rat)<((2^ml:Nat):Rat):=by exact_mod_cast Nat.pow_pos (by decide)
 have hmh0:(0:Rat)<((2^mh:Nat):Rat):=by exact_mod_cast Nat.pow_pos (by decide)
 have hW0:(0:Rat)<((2^L:Nat):Rat):=by exact_mod_cast Nat.pow_pos (by decide)
 have hWL:((2^K:Nat):Rat)*2*((2^L:Nat):Rat)<((2^(j+1):Nat):Rat):=by
  have:2^K*2*2^L<2^(j+1):=by
   rw[←Nat.pow_succ,←Nat.pow_add]
   exact Nat.pow_lt_pow_right (by decide) (by omega)
  exact_mod_cast this
 rw[eqQ,l2,g2]
 dsimp only
 generalize ((2^ml:Nat):Rat)=wl at *
 generalize ((2^mh:Nat):Rat)=wh at *
 generalize ((2^K:Nat):Rat)=wk at *
 cases hf:b.fst3 (-wl) wh with
 |some x =>
  refine⟨x,rfl,?_⟩
  unfold fst3 at hf
  split at hf
  ·rename_i hx;cases hf;exact lP (hl _) hx
  ·split at hf
   ·rename_i hx;cases hf;exact lP (hl _) hx
   ·exact lP (hl _) hf
 |none =>
  dsimp only
  have hno:b.at1 (-wl)=none∧b.at1 wh=none:=by
   unfold fst3 at hf
   split at hf
   ·cases hf
   ·split at hf
    ·cases hf
    ·exact⟨‹_›,hf⟩
  have key:∀t,b.at1 t=none→b.E t≠0∧b.guess (b.sg t) t=none:=by
   intro t h1
   unfold at1 at h1
   split at h1
   ·cases h1
   ·exact⟨‹_›,h1⟩
  obtain⟨e1,e2⟩:=key _ hno.1
  obtain⟨e3,e4⟩:=key _ hno.2
  rw[show(-1:Rat)*wl = -wl by grind]at l3
  rw[show(1:Rat)*wh=wh by grind]at g3
  refine mx h hsz hl (W:=((2^L:Nat):Rat)) (by rw[hL]) (j+1) (-wl) wh (by grind) (by grind) (by grind) e2 ?_
  have h1:=Rat.mul_nonneg (show 0≤wk-wl by grind) (Rat.le_of_lt hW0)
  have h2:=Rat.mul_nonneg (show 0≤wk-wh by grind) (Rat.le_of_lt hW0)
  generalize ((2^L:Nat):Rat)=W at *
  grind
end Bd
def dc:List (Rat × Rat)→Rat→Rat
 |[],_=>0
 |x::l,z=>x.2*cJ (z-x.1)+dc l z
def jS:List (Rat × Rat)→Rat
 |[]=>0
 |x::l=>x.2+jS l
theorem iw (l m:List (Rat × Rat)) (z:Rat):dc (l++m) z=dc l z+dc m z:=by
 induction l with
 |nil=>rw[List.nil_append,dc];grind
 |cons x l ih=>rw[List.cons_append,dc,dc,ih];grind
theorem qQ (l m:List (Rat × Rat)):jS (l++m)=jS l+jS m:=by
 induction l with
 |nil=>rw[List.nil_append,jS];grind
 |cons x l ih=>rw[List.cons_append,jS,jS,ih];grind
theorem wt {l m:List (Rat × Rat)} (h:l.Perm m) (z:Rat):dc l z=dc m z:=by
 induction h with
 |nil=>rfl
 |cons x _ ih=>rw[dc,dc,ih]
 |swap x y l=>simp only[dc];grind
 |trans _ _ h1 h2=>rw[h1,h2]
theorem jt {l:List (Rat × Rat)} {z:Rat} (h:∀x∈l,z≤x.1):dc l z=0:=by
 induction l with
 |nil=>rfl
 |cons x l ih =>
  have h1:=h x (by simp)
  rw[dc,ih fun y hy=>h y (by simp[hy]),cJ,if_neg (by grind)];grind
theorem lw {l:List (Rat × Rat)} {a z:Rat} (h:∀x∈l,x.1≤a) (hz:a≤z):dc l z=dc l a+jS l*(z-a):=by
 induction l with
 |nil=>simp only[dc,jS];grind
 |cons x l ih =>
  have h1:=h x (by simp)
  have e1:cJ (z-x.1)=z-x.1:=by rw[cJ];grind
  have e2:cJ (a-x.1)=a-x.1:=by rw[cJ];grind
  simp only[dc,jS]
  rw[ih fun y hy=>h y (by simp[hy]),e1,e2];grind
def xO (w:Rat):List (Rat × Rat)→Rat→Rat→Rat→Rat
 |[],c,k,a=>if 0<k then a+(w-c)/k else a
 |x::l,c,k,a=>if 0<k then(if w≤c+k*(x.1-a) then a+(w-c)/k else xO w l (c+k*(x.1-a)) (k+x.2) x.1) else xO w l c (k+x.2) x.1
theorem Cz {Φ:Rat→Rat} {w c k a:Rat} (hm:∀x y,x≤y→Φ x≤Φ y) (ha:Φ a=c) (hc:c<w) (hk:0<k) (hu:∀z,a≤z→z≤a+(w-c)/k→Φ z=c+k*(z-a)):Φ (a+(w-c)/k)=w∧∀z',z'<a+(w-c)/k→Φ z'<w:=by
 have hq:(w-c)/k*k=w-c:=Rat.div_mul_cancel (by grind)
 have h0:0≤(w-c)/k:=by rw[Rat.div_def];exact Rat.mul_nonneg (by grind) (Rat.le_of_lt (Rat.inv_pos.2 hk))
 generalize (w-c)/k=d at *
 refine⟨by rw[hu _ (by grind) Rat.le_refl];grind,fun z' hz=>?_⟩
 rcases Classical.em (a≤z') with h|h
 ·rw[hu z' h (by grind)]
  have:=Rat.mul_pos hk (show 0<a+d-z' by grind)
  grind
 ·have:=hm z' a (by grind)
  grind
theorem Dp {w:Rat} {Φ:Rat→Rat} (hm:∀x y,x≤y→Φ x≤Φ y) (hw:0<w) (hex:∃z,w≤Φ z):∀(R P:List (Rat × Rat)) (c k a:Rat),(∀z,Φ z=dc P z+dc R z)→R.Pairwise (fun x y=>x.1≤y.1) →
  ((P=[]∧c=0∧k=0)∨((∀x∈P,x.1≤a)∧(∀x∈R,a≤x.1)∧Φ a=c∧c<w∧k=jS P))→Φ (xO w R c k a)=w∧∀z',z'<xO w R c k a→Φ z'<w:=by
 intro R
 induction R with
 |nil =>
  intro P c k a hΦ _ h
  obtain⟨z0,hz0⟩:=hex
  rcases h with⟨rfl,rfl,rfl⟩|⟨h1,_,h3,h4,h5⟩
  ·exfalso
   rw[hΦ]at hz0
   simp only[dc]at hz0
   grind
  ·have hline:∀z,a≤z→Φ z=c+k*(z-a):=fun z hz=>by
    have e1:=hΦ z
    have e2:=hΦ a
    rw[lw h1 hz,←h5]at e1
    simp only[dc]at e1 e2
    grind
   rw[xO]
   split
   ·rename_i hk
    exact Cz hm h3 h4 hk fun z hz _=>hline z hz
   ·rename_i hk
    exfalso
    rcases Classical.em (a≤z0) with hz|hz
    ·rw[hline z0 hz]at hz0
     have:=Rat.mul_nonneg (show 0 ≤ -k by grind) (show 0≤z0-a by grind)
     grind
    ·have:=hm z0 a (by grind);grind
 |cons x R ih =>
  intro P c k a hΦ hs h
  rw[List.pairwise_cons]at hs
  have hΦ':∀z,Φ z=dc (P++[x]) z+dc R z:=fun z=>by
   rw[hΦ,iw];simp only[dc];grind
  rcases h with⟨rfl,rfl,rfl⟩|⟨h1,h2,h3,h4,h5⟩
  ·rw[xO,if_neg (by grind)]
   refine ih ([]++[x]) 0 (0+x.2) x.1 hΦ' hs.2 (.inr ⟨fun y hy=>by simp at hy;subst hy;exact Rat.le_refl,fun y hy=>hs.1 y hy,?_,hw,by simp only[jS,List.nil_append];grind⟩)
   rw[hΦ,jt (l:=x::R) fun y hy=>?_]
   ·simp only[dc];grind
   ·rcases List.mem_cons.1 hy with rfl|hy
    ·exact Rat.le_refl
    ·exact hs.1 y hy
  ·have hax:=h2 x (by simp)
   have hline:∀z,a≤z→z≤x.1→Φ z=c+k*(z-a):=fun z hz hzx=>by
    have e1:=hΦ z
    have e2:=hΦ a
    rw[lw h1 hz,←h5,jt (l:=x::R) fun y hy=>?_]at e1
    ·rw[jt (l:=x::R) fun y hy=>h2 y hy]at e2
     grind
    ·rcases List.mem_cons.1 hy with rfl|hy
     ·exact hzx
     ·have:=hs.1 y hy;grind
   have hx1:=hline x.1 hax Rat.le_refl
   have hP:∀y∈P++[x],y.1≤x.1:=fun y hy=>by
    rcases List.mem_append.1 hy with hy|hy
    ·have:=h1 y hy;grind
    ·simp at hy;subst hy;exact Rat.le_refl
   have hcs:k+x.2=jS (P++[x]):=by rw[qQ,←h5];simp only[jS];grind
   rw[xO]
   split
   ·rename_i hk
    split
    ·rename_i hle
     refine Cz hm h3 h4 hk fun z hz hz2=>hline z hz ?_
     have hq:(w-c)/k*k=w-c:=Rat.div_mul_cancel (by grind)
     generalize (w-c)/k=d at *
     rcases Classical.em (z≤x.1) with hc|hc
     ·exact hc
     ·have:=Rat.mul_pos hk (show 0<a+d-x.1 by grind)
      grind
    ·rename_i hlt
     exact ih (P++[x]) _ _ _ hΦ' hs.2 (.inr ⟨hP,fun y hy=>hs.1 y hy,hx1,by grind,hcs⟩)
   ·rename_i hk
    have h6:=hm a x.1 hax
    have h7:=Rat.mul_nonneg (show 0 ≤ -k by grind) (show 0≤x.1-a by grind)
    exact ih (P++[x]) _ _ _ hΦ' hs.2 (.inr ⟨hP,fun y hy=>hs.1 y hy,by grind,h4,hcs⟩)
namespace Bd
variable {b:Bd}
def bnd1 (b:Bd) (t:Rat) (i:Nat):List (Rat × Rat):=(List.range (b.n i)).map fun k=>(b.S i k-(b.C i+t*b.X i),b.M i k-aI (b.M i) k)
def bnds (b:Bd) (t:Rat):List (Rat × Rat):=(List.range b.N).flatMap (b.bnd1 t)
theorem yf (b:Bd) (z t:Rat) (i:Nat):dc (b.bnd1 t i) z=b.f z t i:=by
 have key:∀m,dc ((List.range m).map fun k=>(b.S i k-(b.C i+t*b.X i),b.M i k-aI (b.M i) k)) z=ac (cX (b.S i) (b.M i) (b.y z t i)) m:=by
  intro m
  induction m with
  |zero=>rfl
  |succ m ih =>
   rw[List.range_succ,List.map_append,iw,ih,ac,kU]
   simp only[List.map_cons,List.map_nil,dc]
   rw[show z-(b.S i m-(b.C i+t*b.X i))=b.y z t i-b.S i m by rw[y];grind];grind
 exact key (b.n i)
theorem yg (b:Bd) (z t:Rat):dc (b.bnds t) z=b.F z t:=by
 have key:∀m,dc ((List.range m).flatMap (b.bnd1 t)) z=ac (b.f z t) m:=by
  intro m
  induction m with
  |zero=>rfl
  |succ m ih =>
   rw[List.range_succ,List.flatMap_append,iw,ih,ac]
   simp only[List.flatMap_cons,List.flatMap_nil,List.append_nil,yf]
 exact key b.N
theorem settled_least (h:b.Ok) {t:Rat} (hex:∃z,b.w≤b.F z t) {l:List (Rat × Rat)} (hp:l.Perm (b.bnds t)) (hs:l.Pairwise fun x y=>x.1≤y.1):b.Least (xO b.w l 0 0 0) t:=by
 refine Dp (Φ:=fun z=>b.F z t) (fun x y hxy=>CO h hxy) h.pos hex l [] 0 0 0 (fun z=>?_) hs (.inl ⟨rfl,rfl,rfl⟩)
 rw[wt hp,yg,dc];grind
theorem Bl (_h:b.Ok) (t:Rat):∃z0:Rat,∀z,z0≤z→b.Inc b.n z t:=by
 have key:∀m,m≤b.N→∃z0:Rat,∀z,z0≤z→∀i,i<m→xU (b.n i) (b.S i) (b.n i) (b.y z t i):=by
  intro m
  induction m with
  |zero=>exact fun _=>⟨0,fun _ _ i hi=>by omega⟩
  |succ m ih =>
   intro hm
   obtain⟨z0,h1⟩:=ih (by omega)
   cases hn:b.n m with
   |zero =>
    refine⟨z0,fun z hz i hi=>?_⟩
    by_cases he:i<m
    ·exact h1 z hz i he
    ·obtain rfl:i=m:=by omega
     exact⟨Nat.le_refl _,fun k hk=>by omega,fun hk=>by omega⟩
   |succ k =>
    obtain⟨u,g0,g1,g2⟩:=mu z0 (b.S m k-(b.C m+t*b.X m))
    refine⟨u,fun z hz i hi=>?_⟩
    by_cases he:i<m
    ·exact h1 z (by grind) i he
    ·obtain rfl:i=m:=by omega
     refine⟨Nat.le_refl _,fun k' hk'=>?_,fun hk=>by omega⟩
     obtain rfl:k=k':=by omega
     rw[y];grind
 exact key b.N (Nat.le_refl _)
theorem enough (h:b.Ok) (t:Rat) (hd:¬((∀i,i<b.N→b.lim i)∧ac b.cap b.N<b.w)):∃z,b.w≤b.F z t:=by
 obtain⟨z0,h0⟩:=Bl h t
 rcases Classical.em (∀i,i<b.N→b.lim i) with hl|hl
 ·have hc:b.w≤ac b.cap b.N:=by
   rcases Classical.em (ac b.cap b.N<b.w) with hc|hc
   ·exact absurd ⟨hl,hc⟩ hd
   ·grind
  refine⟨z0,?_⟩
  have:b.F z0 t=ac b.cap b.N:=aY fun i hi=>ky (h.crv i hi) (h0 z0 Rat.le_refl i hi) (hl i hi)
  rw[this];exact hc
 ·obtain⟨i,hi,hn⟩:∃i,i<b.N∧¬b.lim i:=by
   rcases Classical.em (∃i,i<b.N∧¬b.lim i) with hx|hx
   ·exact hx
   ·exact absurd (fun i hi=>by
     rcases Classical.em (b.lim i) with hc|hc
     ·exact hc
     ·exact absurd ⟨i,hi,hc⟩ hx) hl
  have hpos:0<b.k b.n i:=by
   have:=pq (h.crv i hi) (Nat.le_refl (b.n i))
   have h2:aI (b.M i) (b.n i)≠0:=hn
   rw[k];grind
  obtain⟨u0,hu⟩:=iQ (g:=b.k b.n i) (c:=b.k b.n i*(b.C i+t*b.X i)-b.o b.n i) (B:=b.w) hpos
  obtain⟨z,_,g1,g2⟩:=mu z0 u0
  refine⟨z,?_⟩
  have h1:=hu z g2
  have h2:=Bk h (h0 z g1) hi
  have h3:=fy (f:=b.f z t) (fun k hk=>Dd h hk) hi
  rw[y]at h2
  rw[F];grind
end Bd
def uQ (n:Nat) (S:Nat→Rat) (y:Rat) (k:Nat):Rat:=cJ (dU S n y k-S k)
def p5 (n:Nat) (S M:Nat→Rat) (y:Rat) (k:Nat):Rat:=M k*(uQ n S y k*(y-S k)-uQ n S y k*uQ n S y k/2)
def qV (n:Nat) (S M:Nat→Rat) (y:Rat):Rat:=ac (p5 n S M y) n
theorem AN {n:Nat} {S:Nat→Rat} {x y:Rat} {k:Nat} (h:∀i,i+1<n→S i<S (i+1)):0≤(uQ n S y k-uQ n S x k)*(y-S k-uQ n S y k):=by
 by_cases hk:k+1<n
 ·have:=h k hk
  simp only[uQ,dU,if_pos hk,cJ,fe]
  by_cases h1:S (k+1)<y
  ·have e1:(if 0<(if S (k+1)<y then S (k+1) else y)-S k then(if S (k+1)<y then S (k+1) else y)-S k else 0)=S (k+1)-S k:=by grind
   rw[e1]
   refine Rat.mul_nonneg ?_ (by grind)
   grind
  ·by_cases h2:S k<y
   ·have e1:(if 0<(if S (k+1)<y then S (k+1) else y)-S k then(if S (k+1)<y then S (k+1) else y)-S k else 0)=y-S k:=by grind
    rw[e1];grind
   ·have e1:(if 0<(if S (k+1)<y then S (k+1) else y)-S k then(if S (k+1)<y then S (k+1) else y)-S k else 0)=0:=by grind
    rw[e1]
    have:0≤(if 0<(if S (k+1)<x then S (k+1) else x)-S k then(if S (k+1)<x then S (k+1) else x)-S k else 0):=by grind
    have:=Rat.mul_nonneg this (show 0 ≤ -(y-S k) by grind)
    grind
 ·simp only[uQ,dU,if_neg hk,cJ]
  by_cases h2:S k<y
  ·have e1:(if 0<y-S k then y-S k else 0)=y-S k:=by grind
   rw[e1];grind
  ·have e1:(if 0<y-S k then y-S k else 0)=0:=by grind
   rw[e1]
   have:0≤(if 0<x-S k then x-S k else 0):=by grind
   have:=Rat.mul_nonneg this (show 0 ≤ -(y-S k) by grind)
   grind
theorem CJ (x:Rat):0≤x*x:=by
 rcases Classical.em (0≤x) with h|h
 ·exact Rat.mul_nonneg h h
 ·have:=Rat.mul_nonneg (show 0 ≤ -x by grind) (show 0 ≤ -x by grind)
  grind
theorem yF {n:Nat} {S M:Nat→Rat} (h:Crv n S M) (x y:Rat):b7 n S M x*(y-x)≤qV n S M y-qV n S M x∧(qV n S M y-qV n S M x=b7 n S M x*(y-x)→b7 n S M y=b7 n S M x):=by
 have hv:∀z,b7 n S M z=ac (fun k=>M k*uQ n S z k) n:=fun z=>by
  rw[b7,d9 h.asc];rfl
 have hgap:qV n S M y-qV n S M x-b7 n S M x*(y-x)=ac (fun k=>M k*((uQ n S y k-uQ n S x k)*(y-S k-uQ n S y k)+(uQ n S y k-uQ n S x k)*(uQ n S y k-uQ n S x k)/2)) n:=by
  rw[hv,qV,qV]
  have key:∀m,ac (p5 n S M y) m-ac (p5 n S M x) m-ac (fun k=>M k*uQ n S x k) m*(y-x)=ac (fun k=>M k*((uQ n S y k-uQ n S x k)*(y-S k-uQ n S y k)+(uQ n S y k-uQ n S x k)*(uQ n S y k-uQ n S x k)/2)) m:=by
   intro m
   induction m with
   |zero=>simp only[ac];grind
   |succ m ih=>simp only[ac,p5]at *;grind
  exact key n
 have hterm:∀k,k<n→0≤M k*((uQ n S y k-uQ n S x k)*(y-S k-uQ n S y k)+(uQ n S y k-uQ n S x k)*(uQ n S y k-uQ n S x k)/2):=fun k hk=>by
  have h1:=AN (n:=n) (S:=S) (x:=x) (y:=y) (k:=k) h.asc
  have h2:=CJ (uQ n S y k-uQ n S x k)
  exact Rat.mul_nonneg (h.nn k hk) (by grind)
 have hnn:=dE hterm
 refine⟨by grind,fun he=>?_⟩
 rw[hv,hv]
 refine aY fun k hk=>?_
 have h0:ac (fun k=>M k*((uQ n S y k-uQ n S x k)*(y-S k-uQ n S y k)+(uQ n S y k-uQ n S x k)*(uQ n S y k-uQ n S x k)/2)) n=0:=by rw[←hgap,he];grind
 have h1:=fy hterm hk
 rw[h0]at h1
 have h2:=hterm k hk
 have h3:M k*((uQ n S y k-uQ n S x k)*(y-S k-uQ n S y k)+(uQ n S y k-uQ n S x k)*(uQ n S y k-uQ n S x k)/2)=0:=by grind
 rcases Rat.mul_eq_zero.1 h3 with h4|h4
 ·rw[h4];grind
 ·have h5:=AN (n:=n) (S:=S) (x:=x) (y:=y) (k:=k) h.asc
  have h6:=CJ (uQ n S y k-uQ n S x k)
  have h7:(uQ n S y k-uQ n S x k)*(uQ n S y k-uQ n S x k)=0:=by grind
  rcases Rat.mul_eq_zero.1 h7 with h8|h8<;>rw[show uQ n S y k=uQ n S x k by grind]
namespace Bd
variable {b:Bd}
def U (b:Bd) (z t:Rat):Rat:=ac (fun i=>qV (b.n i) (b.S i) (b.M i) (b.y z t i)) b.N-b.w*(z+t*b.A)
theorem least_energy (h:b.Ok) {z t:Rat} (hb:b.Bal z t) (z' t':Rat):b.U z t≤b.U z' t'∧(b.U z t=b.U z' t'→∀i,i<b.N→b.f z' t' i=b.f z t i):=by
 have h1:b.U z' t'-b.U z t=ac (fun i=>qV (b.n i) (b.S i) (b.M i) (b.y z' t' i)-qV (b.n i) (b.S i) (b.M i) (b.y z t i)-b.f z t i*(b.y z' t' i-b.y z t i)) b.N:=by
  have key:∀m,ac (fun i=>qV (b.n i) (b.S i) (b.M i) (b.y z' t' i)-qV (b.n i) (b.S i) (b.M i) (b.y z t i)-b.f z t i*(b.y z' t' i-b.y z t i)) m =
    ac (fun i=>qV (b.n i) (b.S i) (b.M i) (b.y z' t' i)) m-ac (fun i=>qV (b.n i) (b.S i) (b.M i) (b.y z t i)) m-(ac (b.f z t) m*(z'-z)+ac (fun i=>b.f z t i*b.X i) m*(t'-t)):=by
   intro m
   induction m with
   |zero=>simp only[ac];grind
   |succ m ih =>
    simp only[ac]at *
    have:b.y z' t' m-b.y z t m=(z'-z)+(t'-t)*b.X m:=by rw[y,y];grind
    rw[this];grind
  rw[key,U,U]
  have e1:ac (b.f z t) b.N=b.w:=hb.1
  have e2:ac (fun i=>b.f z t i*b.X i) b.N=b.w*b.A:=hb.2
  rw[e1,e2];grind
 have hterm:∀i,i<b.N→0≤qV (b.n i) (b.S i) (b.M i) (b.y z' t' i)-qV (b.n i) (b.S i) (b.M i) (b.y z t i)-b.f z t i*(b.y z' t' i-b.y z t i):=fun i hi=>by
  have:=(yF (h.crv i hi) (b.y z t i) (b.y z' t' i)).1
  rw[f];grind
 have hnn:=dE hterm
 refine⟨by grind,fun he i hi=>?_⟩
 have h2:=fy hterm hi
 rw[←h1,he]at h2
 have h3:=hterm i hi
 exact(yF (h.crv i hi) (b.y z t i) (b.y z' t' i)).2 (by rw[f]at h2 h3;grind)
end Bd
def fL (S M:Nat→Rat) (y:Rat) (k:Nat):Rat:=if y-S k<0 then 0 else M k-aI M k
def Am (n:Nat) (S M:Nat→Rat) (y:Rat):Rat:=ac (fL S M y) n
theorem B8 {c:CR} (hc:c.Lim) (q:Rat) (k:Nat):HQ (fL c.s c.m q k) 27:=by
 rw[fL]
 split
 ·exact HQ.zero.mono (by omega)
 ·exact mX hc k
noncomputable def DB:Array Tmp × Code × Code:=(lu ((Tryz.f140.body).getD .skip)).getD (#[],.skip,.skip)
set_option maxRecDepth 20000 in
theorem sb {s0:St} {q0 q2 q3 g4 g7 b4:Nat} {x2 x3 x1004:Cont} {bf V0 V1 CH FA:RR} (hadd:Ret Tryz.prog .shared 66 [.agg (eR V0),.agg (eR CH)] (.agg (eR V1))) :
  uT Tryz.prog (s0.over [(7,.ptr 1007 g7 0 0)] []) q0 q2 q3 g4 g7 b4 19 20 DB.2.1 DB.2.2 x2 x3 x1004 bf V0 V1 CH FA:=by
 intro own hf mj hPost
 have ho:own=(St.over { reg:=fun _ => .raw undef,own:=own } [] (CA q0 q2 q3 g4 g7 b4 (bT #[19,20] DB.2.1 DB.2.2 .ready none (s0.over [(7,.ptr 1007 g7 0 0)] []).reg) x2 x3 x1004 bf V0)).own:=congrArg St.own (Fit.over hf).symm
 rw[ho]
 clear ho hf
 generalize (St.mk (fun _ => .raw undef) own)=s1
 repeat refine aa rfl ?_
 refine⟨rfl,?_⟩
 repeat refine aa rfl ?_
 refine ak rfl rfl rfl hadd rfl rfl ?_
 repeat refine aa rfl ?_
 exact hPost _ ⟨rfl,rfl,rfl,rfl,rfl,rfl,trivial⟩
set_option maxRecDepth 20000 in
theorem xi (c:CR) (hc:c.Lim) (h0:br c=0) (y:RR) {q:Rat} {n:Nat} [hy:Vq y q n] (hn:n≤100000):Ret Tryz.prog .shared 140 [.agg (eC c),.agg (eR y)] (.tup [.agg (eR (ofQ (Am c.S.length c.s c.m q))),I 0]):=by
 have hcc:=dL c hc
 rw[h0]at hcc
 obtain⟨h40,hSM,-,hasc⟩:=bP h0
 have hz:=d5 0 (by decide) (by decide)
 rw[show(((0:Int):Rat))=0 from rfl]at hz
 have hsum:∀i,i≤40→Vq (ofQ (ac (fL c.s c.m q) i)) (ac (fL c.s c.m q) i) (i*(27+1)+4):=fun i _=>Vq.ofQ (h:=aK i fun k _=>B8 hc q k)
 refine Ret.of_pwpR layOk mixed Go.Proofs.Tryz.func140 rfl (by decide) rfl rfl rfl ?_
 repeat refine aa rfl ?_
 refine aP rfl rfl rfl hcc rfl rfl rfl ?_
 repeat refine aa rfl ?_
 refine ak rfl rfl rfl hz rfl rfl ?_
 (repeat ((fail_if_success (with_reducible refine aT 5 ?_));refine dh rfl ?_))
 refine ay (Ghost.move (k:=2) (k':=1002) (t:=2) rfl rfl rfl rfl) ?_
 refine ay (Ghost.move (k:=3) (k':=1003) (t:=3) rfl rfl rfl rfl) ?_
 refine ay (Ghost.move (k:=4) (k':=1004) (t:=4) rfl rfl rfl rfl) ?_
 refine ay (Ghost.move (k:=7) (k':=1007) (t:=7) rfl rfl rfl rfl) ?_
 ((repeat ((fail_if_success (with_reducible refine aT 5 ?_));refine dh rfl ?_));refine aG 2 ?_)
 iterate 2 refine aa rfl ?_
 refine aJ ?_
 refine a_ rfl (cp layOk rfl rfl Go.Proofs.Tryz.func191 rfl (by decide) rfl rfl ?_)
 (repeat ((fail_if_success (with_reducible refine aT 1 ?_));refine dh rfl ?_))
 refine ay (Ghost.move (k:=2) (k':=2002) (t:=2) rfl rfl rfl rfl) ?_
 refine ay (Ghost.move (k:=3) (k':=2003) (t:=3) rfl rfl rfl rfl) ?_
 repeat refine aa rfl ?_
 refine lW rfl rfl ?_
 refine aM ?_
 repeat refine aa rfl ?_
 refine cg [(7,.ptr 1007 1 0 0),(4,.ptr 1004 1 0 0),(18,.clo 215 [.ptr 2002 1 0 0,.ptr 2003 1 0 0])] [(2002,1,⟨69,2,[eC c],2⟩),(2003,1,⟨26,4,[eR y],2⟩),(1004,1,⟨26,4,[[.bool false,.nil,.bool false,.nil]],2⟩),(1007,1,⟨26,4,[eR (ofQ 0)],2⟩)] ⟨rfl,rfl,rfl,rfl,rfl,rfl,rfl,trivial⟩ ?_
 intro s3
 refine rT (oS (ps:=#[19,20]) (asg:=DB.2.1) (body:=DB.2.2) 2000 rfl Go.Proofs.Tryz.func215 rfl rfl rfl rfl rfl rfl ?_)
 generalize hq0:(s3.own 2000).1+1=q0
 refine np (q:=q) (n:=n) (q0:=q0) (q2:=1) (q3:=1) (g4:=1) (g7:=1) c hc y hy (by omega) hSM (fun i=>ofQ (ac (fL c.s c.m q) i)) _ ⟨by rw[←hq0];rfl,rfl,rfl,rfl,rfl,trivial⟩ ?_ ?_
 ·intro i hi hpos b4 bf
  have hadd:=et (ofQ (ac (fL c.s c.m q) i)) (ofQ (c.m i-aI c.m i)) (hx:=hsum i (by omega)) (hy:=Vq.ofQ (h:=mX hc i)) (by omega) (by decide)
  rw[show ac (fL c.s c.m q) i+(c.m i-aI c.m i)=ac (fL c.s c.m q) (i+1) by rw[ac,fL,if_neg hpos]]at hadd
  exact sb (s0:=s3.over [(4,.ptr 1004 1 0 0),(18,.clo 215 [.ptr 2002 1 0 0,.ptr 2003 1 0 0])] []) hadd
 ·intro i hi hor b4 bf s2 hf
  have hres:ac (fL c.s c.m q) i=Am c.S.length c.s c.m q:=oQ hasc (fun k hk=>by rw[fL,if_pos hk]) hi hor
  dsimp only at hf
  rw[hres]at hf
  rw[←Fit.over (l:=[]) hf]
  repeat refine aa rfl ?_
  exact aF rfl rfl rfl
def Weak (a b:PV):Prop:=∀(w:World) (ok:Nat→Prop) (v:Value),DRep w ok a v→DRep w ok b v
theorem Weak.rfl (a:PV):Weak a a:=fun _ _ _ h=>h
theorem Weak.nil:Weak .nil (.sl []):=fun w ok v h=>by cases h;exact .sl0 none 0
inductive WeakL:List PV→List PV→Prop
 |nil:WeakL [] []
 |cons {a b:PV} {l m:List PV}:Weak a b→WeakL l m→WeakL (a::l) (b::m)
theorem WeakL.refl:∀l,WeakL l l
 |[] => .nil
 |a::l => .cons (.rfl a) (WeakL.refl l)
theorem WeakL.spec {l m:List PV} (h:WeakL l m):l.length=m.length∧∀(i:Nat) (b:PV),m[i]? = some b→∃a,l[i]? = some a∧Weak a b:=by
 induction h with
 |nil=>exact⟨by rfl,fun i b hb=>by simp at hb⟩
 |cons h1 _ ih =>
  refine⟨by simp[ih.1],fun i b hb=>?_⟩
  cases i with
  |zero=>simp at hb;subst hb;exact⟨_,by rfl,h1⟩
  |succ i=>simpa using ih.2 i b (by simpa using hb)
theorem WeakL.agg {l m:List PV} (h:WeakL l m):Weak (.agg l) (.agg m):=fun w ok v hv=>by
 cases hv with
 |agg _ vs hl hd =>
  refine .agg _ vs (by rw[←h.spec.1];exact hl) fun i c u hc hu=>?_
  obtain⟨a,ha,hw⟩:=h.spec.2 i c hc
  exact hw _ _ _ (hd i a u ha hu)
theorem WeakL.tup {l m:List PV} (h:WeakL l m):Weak (.tup l) (.tup m):=fun w ok v hv=>by
 cases hv with
 |tup _ vs hl hd =>
  refine .tup _ vs (by rw[←h.spec.1];exact hl) fun i c u hc hu=>?_
  obtain⟨a,ha,hw⟩:=h.spec.2 i c hc
  exact hw _ _ _ (hd i a u ha hu)
theorem Ret.weak {P:Program} {m:Mode} {f:FuncId} {pargs pargs':List PV} {r r':PV} (h:Ret P m f pargs r') (ha:WeakL pargs' pargs) (hr:Weak r' r):Ret P m f pargs' r:=by
 obtain⟨hc,h⟩:=h
 refine⟨hc,fun w X args hg hX hl hargs=>?_⟩
 refine(h w X args hg hX (by rw[←ha.spec.1];exact hl) fun i c v e1 e2=>?_).mono ?_
 ·obtain⟨a,e3,hw⟩:=ha.spec.2 i c e1
  exact hw _ _ _ (hargs i a v e3 e2)
 ·rintro e w' ⟨u,h1,h2,h3⟩
  exact⟨u,h1,h2,hr _ _ _ h3⟩
def zN:List PV:=[.bool false,.nil,.bool false,.nil]
theorem gU:WeakL zN (eR RR.zero) := .cons (.rfl _) (.cons .nil (.cons (.rfl _) (.cons .nil .nil)))
theorem a8 (z:Int) (h:i64 z):Ret Tryz.prog .shared 57 [I z] (.agg (eR (ofQ (z:Rat)))):=by
 have ho:=zp z h.1 h.2
 have hw:=o_ (bO z) (by have:=mZ (z:=z) (by obtain⟨h1,h2⟩:=h;omega);omega)
 rw[bM]at hw
 generalize ofQ (z:Rat)=X at *
 generalize bO z=Z at *
 refine Ret.of_pwp layOk mixed Go.Proofs.Tryz.func57 rfl (by decide) rfl rfl ?_
 repeat refine aa rfl ?_
 refine ak rfl rfl rfl ho rfl rfl ?_
 repeat refine aa rfl ?_
 refine ak rfl rfl rfl hw rfl rfl ?_
 repeat refine aa rfl ?_
 exact aF rfl rfl rfl
theorem nA (x:RR) {p:Rat} {n:Nat} [hx:Vq x p n] (hn:n≤8000000):Ret Tryz.prog .shared 60 [.agg (eR x)] (I (sgn p)):=by
 have hc:=pz x RR.zero hn (by decide)
 rw[Rat.sub_eq_add_neg,Rat.neg_zero,Rat.add_zero]at hc
 have hc2:=hc.weak (.cons (.rfl _) (.cons gU.agg .nil)) (.rfl _)
 generalize sgn p=g at *
 refine Ret.of_pwp layOk mixed Go.Proofs.Tryz.func60 rfl (by decide) rfl rfl ?_
 repeat refine aa rfl ?_
 refine aP rfl rfl rfl hc2 rfl rfl rfl ?_
 repeat refine aa rfl ?_
 exact aO rfl rfl rfl
theorem rJ (x y:RR) {p q:Rat} {n m:Nat} [hx:Vq x p n] [hy:Vq y q m] (hn:n≤20000000) (hm:m≤20000000) (h0:q≠0):Ret Tryz.prog .shared 61 [.agg (eR x),.agg (eR y)] (.agg (eR (ofQ (p/q)))):=by
 have hq:=zO x y hn hm
 rw[if_neg h0]at hq
 generalize ofQ (p/q)=X at *
 refine Ret.of_pwp layOk mixed Go.Proofs.Tryz.func61 rfl (by decide) rfl rfl ?_
 repeat refine aa rfl ?_
 refine ak rfl rfl rfl hq rfl rfl ?_
 repeat refine aa rfl ?_
 exact aF rfl rfl rfl
theorem Ed (x:RR) {p:Rat} {n:Nat} [hx:Vq x p n] (hn:n≤10000000):Ret Tryz.prog .shared 99 [.agg (eR x)] (.agg (eR (ofQ (-p)))):=by
 have hs:=k7 RR.zero x (by decide) hn
 rw[Rat.sub_eq_add_neg,Rat.zero_add]at hs
 have hs2:=hs.weak (.cons gU.agg (.cons (.rfl _) .nil)) (.rfl _)
 generalize ofQ (-p)=X at *
 refine Ret.of_pwp layOk mixed Go.Proofs.Tryz.func99 rfl (by decide) rfl rfl ?_
 repeat refine aa rfl ?_
 refine ak rfl rfl rfl hs2 rfl rfl ?_
 repeat refine aa rfl ?_
 exact aF rfl rfl rfl
theorem Ey (x:RR) {p:Rat} {n:Nat} [hx:Vq x p n] (hn:n≤10000000):Ret Tryz.prog .shared 124 [.agg (eR x)] (.agg (eR (ofQ p))):=by
 have hs:=et x RR.zero (by omega) (by decide)
 rw[Rat.add_zero]at hs
 have hs2:=hs.weak (.cons (.rfl _) (.cons gU.agg .nil)) (.rfl _)
 generalize ofQ p=X at *
 refine Ret.of_pwp layOk mixed Go.Proofs.Tryz.func124 rfl (by decide) rfl rfl ?_
 repeat refine aa rfl ?_
 refine ak rfl rfl rfl hs2 rfl rfl ?_
 repeat refine aa rfl ?_
 exact aF rfl rfl rfl
structure SR.Lim (s:SR):Prop where
 x:i64 s.x
 c:s.c.sz 12
 k:s.k.Lim
def yQ (s:SR) (z t:Rat):Rat:=s.c.val+(z+t*(s.x:Rat))
theorem pc {s:SR} (hs:s.Lim) {z t:Rat} {n m:Nat} (hz:HQ z n) (ht:HQ t m):HQ (yQ s z t) (13+(n+(m+4)+1)+1):=by
 have hx:Zb s.x:=aE hs.x.1 hs.x.2
 exact @HQ.add _ _ 13 (n+(m+4)+1) hs.c.v.hq (@HQ.add _ _ n (m+4) hz (@HQ.mul _ _ m 4 ht HQ.int))
structure AR where
 z:RR
 t:RR
def eA (a:AR):List PV:=eR a.z++eR a.t
class Va (a:AR) (z t:outParam Rat) (n m:outParam Nat):Prop where
 z:Vq a.z z n
 t:Vq a.t t m
theorem kJ (s:SR) (hs:s.Lim) (a:AR) {z t:Rat} {n m:Nat} [ha:Va a z t n m] (hn:n≤1000000) (hm:m≤1000000):Ret Tryz.prog .shared 141 [.agg (eS s),.agg (eA a)] (.agg (eR (ofQ (yQ s z t)))):=by
 have hx:Zb s.x:=aE hs.x.1 hs.x.2
 have hzh:=ha.z.hq
 have hth:=ha.t.hq
 have hw:=a8 s.x hs.x
 have h1:=fR a.t (ofQ (s.x:Rat)) (hx:=ha.t) (by omega) (by decide)
 have v1:Vq (ofQ (t*(s.x:Rat))) (t*(s.x:Rat)) (m+1+4):=Vq.ofQ (h:=@HQ.mul _ _ (m+1) 4 hth HQ.int)
 have h2:=et a.z (ofQ (t*(s.x:Rat))) (hx:=ha.z) (hy:=v1) (by omega) (by omega)
 have v2:Vq (ofQ (z+t*(s.x:Rat))) (z+t*(s.x:Rat)) (n+1+(m+1+4)+1):=Vq.ofQ (h:=@HQ.add _ _ (n+1) (m+1+4) hzh (@HQ.mul _ _ (m+1) 4 hth HQ.int))
 have h3:=et s.c (ofQ (z+t*(s.x:Rat))) (hx:=hs.c.v) (hy:=v2) (by decide) (by omega)
 rw[yQ]
 obtain⟨x,c,k⟩:=s
 obtain⟨az,at'⟩:=a
 simp only at *
 generalize ofQ (c.val+(z+t*(x:Rat)))=X3 at *
 generalize ofQ (z+t*(x:Rat))=X2 at *
 generalize ofQ (t*(x:Rat))=X1 at *
 generalize ofQ (x:Rat)=X0 at *
 refine Ret.of_pwp layOk mixed Go.Proofs.Tryz.func141 rfl (by decide) rfl rfl ?_
 repeat refine aa rfl ?_
 refine ah 12 [5,6,7,8,9,10,11,12,13,14,15,16] (by decide +kernel) ?_
 repeat refine aa rfl ?_
 refine ak rfl rfl rfl hw rfl rfl ?_
 repeat refine aa rfl ?_
 refine ak rfl rfl rfl h1 rfl rfl ?_
 repeat refine aa rfl ?_
 refine ak rfl rfl rfl h2 rfl rfl ?_
 repeat refine aa rfl ?_
 refine ak rfl rfl rfl h3 rfl rfl ?_
 repeat refine aa rfl ?_
 exact aF rfl rfl rfl
def fQ (s:SR) (z t:Rat):Rat:=b7 s.k.S.length s.k.s s.k.m (yQ s z t)
theorem vW (s:SR) (hs:s.Lim) (hk:br s.k=0) (a:AR) {z t:Rat} {n m:Nat} [ha:Va a z t n m] (hn:n+m≤90000):Ret Tryz.prog .shared 83 [.agg (eS s),.agg (eA a)] (.agg (eR (ofQ (fQ s z t)))):=by
 have h1:=kJ s hs a (by omega) (by omega)
 have v1:Vq (ofQ (yQ s z t)) (yQ s z t) (13+(n+1+(m+1+4)+1)+1):=Vq.ofQ (h:=pc hs ha.z.hq ha.t.hq)
 have h2:=xF s.k hs.k hk (ofQ (yQ s z t)) (hy:=v1) (by omega)
 rw[fQ]
 generalize ofQ (b7 s.k.S.length s.k.s s.k.m (yQ s z t))=X2 at *
 generalize ofQ (yQ s z t)=X1 at *
 obtain⟨x,c,k⟩:=s
 obtain⟨az,at'⟩:=a
 simp only at *
 refine Ret.of_pwp layOk mixed Go.Proofs.Tryz.func83 rfl (by decide) rfl rfl ?_
 repeat refine aa rfl ?_
 refine bt [5] [9,10] (by decide +kernel) ?_
 repeat refine aa rfl ?_
 refine ak rfl rfl rfl h1 rfl rfl ?_
 repeat refine aa rfl ?_
 refine ak rfl rfl rfl h2 rfl rfl ?_
 repeat refine aa rfl ?_
 exact aF rfl rfl rfl
theorem Bm (x:Int):Ret Tryz.prog .shared 55 [I x] (.bool (decide (x < -1000000∨1000000<x))):=by
 by_cases h1:x < -1000000
 ·rw[decide_eq_true (.inl h1)]
  refine Ret.of_pwp layOk mixed Go.Proofs.Tryz.func55 rfl (by decide) rfl rfl ?_
  repeat refine aa rfl ?_
  refine dr rfl rfl rfl ?_ ?_<;>intro h
  ·repeat refine aa rfl ?_
   exact bi rfl rfl rfl
  ·exact absurd h1 (of_decide_eq_false h)
 ·rw[show decide (x < -1000000∨1000000<x)=decide (1000000<x) by rw[decide_eq_decide];omega]
  refine Ret.of_pwp layOk mixed Go.Proofs.Tryz.func55 rfl (by decide) rfl rfl ?_
  repeat refine aa rfl ?_
  refine dr rfl rfl rfl ?_ ?_<;>intro h
  ·exact absurd (of_decide_eq_true h) h1
  ·repeat refine aa rfl ?_
   exact bi rfl rfl rfl
theorem mw (x:RR) {p:Rat} {m:Nat} [hx:Vq x p m] (hm:m≤1000000) (n:Int) (h0:0≤n) (h1:n≤1000000000):Ret Tryz.prog .shared 53 [.agg (eR x),I n] (.bool (decide (p < -(n:Rat)∨(n:Rat)<p))):=by
 have hw1:=a8 (-n) ⟨by omega,by omega⟩
 have hw2:=a8 n ⟨by omega,by omega⟩
 have z1:Zb (-n):=aE (by omega) (by omega)
 have z2:Zb n:=aE (by omega) (by omega)
 have hc1:=pz x (ofQ ((-n:Int):Rat)) (by omega) (by decide)
 have hc2:=pz x (ofQ (n:Rat)) (by omega) (by decide)
 have hn:IntKind.i64.wrap (0-n) = -n:=by rw[wrap_i64 (by omega) (by omega)];omega
 have e1:=eE (p-((-n:Int):Rat))
 have e2:=fw (p-(n:Rat))
 have en:(((-n:Int)):Rat) = -(n:Rat):=by push_cast;rfl
 have key:decide (p < -(n:Rat)∨(n:Rat)<p)=(decide (sgn (p-((-n:Int):Rat))<0)||decide (0<sgn (p-(n:Rat)))):=by
  rw[←Bool.decide_or,decide_eq_decide,e1,e2,en]
  constructor
  ·rintro(h|h)
   ·left;grind
   ·right;grind
  ·rintro(h|h)
   ·left;grind
   ·right;grind
 rw[key]
 generalize sgn (p-((-n:Int):Rat))=g1 at *
 generalize sgn (p-(n:Rat))=g2 at *
 generalize ofQ ((-n:Int):Rat)=W1 at *
 generalize ofQ (n:Rat)=W2 at *
 refine Ret.of_pwp layOk mixed Go.Proofs.Tryz.func53 rfl (by decide) rfl rfl ?_
 repeat refine aa rfl ?_
 refine ah 14 [5,6,7,8,9,10,11,12,13,14,15,16,17,4] (by decide +kernel) ?_
 repeat refine aa rfl ?_
 rw[hn]
 refine ak rfl rfl rfl hw1 rfl rfl ?_
 repeat refine aa rfl ?_
 refine aP rfl rfl rfl hc1 rfl rfl rfl ?_
 repeat refine aa rfl ?_
 refine dr rfl rfl rfl ?_ ?_<;>intro h
 ·rw[h]
  clear h
  repeat refine aa rfl ?_
  exact bi rfl rfl rfl
 ·rw[h]
  clear h
  repeat refine aa rfl ?_
  refine ak rfl rfl rfl hw2 rfl rfl ?_
  repeat refine aa rfl ?_
  refine aP rfl rfl rfl hc2 rfl rfl rfl ?_
  repeat refine aa rfl ?_
  exact bi rfl rfl rfl
def ct {α:Type} (f:α→Int):List α→Int
 |[]=>0
 |s::r=>if f s=0 then ct f r else f s
theorem lv {α:Type} (f:α→Int) {l:List α} {i:Nat} {s:α} (h:l[i]? = some s):ct f (l.drop i)=if f s=0 then ct f (l.drop (i+1)) else f s:=by
 obtain⟨hl,rfl⟩:=List.getElem?_eq_some_iff.1 h
 rw[List.drop_eq_getElem_cons hl,ct]
theorem jo {α:Type} {f:α→Int}:∀ {l:List α},ct f l=0→∀s∈l,f s=0
 |[],_,s,hs=>by cases hs
 |a::l,h,s,hs=>by
  rw[ct]at h
  by_cases ha:f a=0
  ·rw[if_pos ha]at h
   rcases List.mem_cons.1 hs with rfl|hs
   ·exact ha
   ·exact jo h s hs
  ·rw[if_neg ha]at h;exact absurd h ha
def ib (s:SR):Int:=if (s.x < -1000000∨1000000<s.x)∨(s.c.val < -((10000000:Int):Rat)∨((10000000:Int):Rat)<s.c.val) then 2 else br s.k
def bD (l:List SR):Int:=if 100<l.length then 8 else ct ib l
def eJ (l:List SR):Prop:=(∀s∈l,s.Lim)∧l.length≤1000000000
set_option maxRecDepth 20000 in
theorem n8 (l:List SR) (hl:eJ l):Ret Tryz.prog .shared 54 [.sl (l.map eS)] (I (bD l)):=by
 have hml:(l.map eS).length=l.length:=by simp
 generalize hE:bD l=E
 rw[bD]at hE
 obtain⟨hs,hll⟩:=hl
 refine Ret.of_pwp layOk mixed Go.Proofs.Tryz.func54 rfl (by decide) rfl rfl ?_
 repeat refine aa rfl ?_
 refine ab rfl ?_ ?_<;>intro h
 ·have h1:=of_decide_eq_true h
  rw[if_pos (by omega)]at hE
  subst hE
  repeat refine aa rfl ?_
  exact aO rfl rfl rfl
 have h1:¬100<l.length:=by have h1:=of_decide_eq_false h;omega
 clear h
 rw[if_neg h1]at hE
 repeat refine aa rfl ?_
 refine am (fun i:Nat=>i≤l.length∧ct ib (l.drop i)=E) (fun i=>[(9,.sl (l.map eS)),(10,I l.length),(11,I (i:Nat))]) (fun _=>[]) (fun i=>l.length-i) 0 ⟨Nat.zero_le _,by rw[List.drop_zero];exact hE⟩ ⟨rfl,by rw[←hml];rfl,rfl,trivial⟩ ?_
 intro i s ⟨hi,hF⟩
 repeat refine aa rfl ?_
 refine ab rfl ?_ ?_<;>intro h
 ·have hlt:i<l.length:=by have:=of_decide_eq_true h;omega
  clear h
  obtain⟨x,hx⟩:=aL hlt
  have hx':=hs x (List.mem_of_getElem? hx)
  rw[lv _ hx]at hF
  have hfa:=Bm x.x
  have hbe:=mw x.c (hx:=hx'.c.v) (by decide) 10000000 (by decide) (by decide)
  have hcc:=dL x.k hx'.k
  have hw:=gz i
  have hse:ib x=ib x:=rfl
  conv at hse=>rhs;rw[ib]
  generalize ib x=se at *
  generalize br x.k=ce at *
  by_cases hq1:x.x < -1000000∨1000000<x.x
  ·rw[decide_eq_true hq1]at hfa
   rw[if_pos (.inl hq1)]at hse
   subst hse
   rw[if_neg (by decide)]at hF
   subst hF
   repeat refine aa rfl ?_
   refine aZ rfl rfl rfl rfl rfl rfl rfl hx rfl ?_
   repeat refine aa rfl ?_
   refine aP rfl rfl rfl hfa rfl rfl rfl ?_
   repeat refine aa rfl ?_
   exact aO rfl rfl rfl
  rw[decide_eq_false hq1]at hfa
  by_cases hq2:x.c.val < -((10000000:Int):Rat)∨((10000000:Int):Rat)<x.c.val
  ·rw[decide_eq_true hq2]at hbe
   rw[if_pos (.inr hq2)]at hse
   subst hse
   rw[if_neg (by decide)]at hF
   subst hF
   repeat refine aa rfl ?_
   refine aZ rfl rfl rfl rfl rfl rfl rfl hx rfl ?_
   repeat refine aa rfl ?_
   refine aP rfl rfl rfl hfa rfl rfl rfl ?_
   repeat refine aa rfl ?_
   refine aP rfl rfl rfl hbe rfl rfl rfl ?_
   repeat refine aa rfl ?_
   exact aO rfl rfl rfl
  rw[decide_eq_false hq2]at hbe
  rw[if_neg (fun h=>h.elim hq1 hq2)]at hse
  subst hse
  repeat refine aa rfl ?_
  refine aZ rfl rfl rfl rfl rfl rfl rfl hx rfl ?_
  repeat refine aa rfl ?_
  refine aP rfl rfl rfl hfa rfl rfl rfl ?_
  repeat refine aa rfl ?_
  refine aP rfl rfl rfl hbe rfl rfl rfl ?_
  repeat refine aa rfl ?_
  refine aP rfl rfl rfl hcc rfl rfl rfl ?_
  repeat refine aa rfl ?_
  refine ab rfl ?_ ?_<;>intro h
  ·have h2:se≠0:=by simpa using h
   clear h
   rw[if_neg h2]at hF
   subst hF
   repeat refine aa rfl ?_
   exact aO rfl rfl rfl
  ·have h2:se=0:=by simpa using h
   clear h
   rw[if_pos h2]at hF
   repeat refine aa rfl ?_
   exact⟨i+1,⟨by omega,hF⟩,by omega,rfl,rfl,congrArg I hw,trivial⟩
 ·have hie:i=l.length:=by have:=of_decide_eq_false h;omega
  clear h
  rw[hie,List.drop_length,ct]at hF
  subst hF
  repeat refine aa rfl ?_
  exact aO rfl rfl rfl
theorem bY {α:Type} {l:List α} {k:Nat} {x:α} (hx:l[k]? = some x):l.take (k+1)=l.take k++[x]:=by
 rw[List.take_add_one,hx];rfl
structure BR.Lim (b:BR):Prop where
 w:i64 b.w
 a:b.a.sz 12
 l:eJ b.l
def bq (b:BR):Int:=if (b.w<1∨1000000000<b.w)∨(b.a.val < -((1000000:Int):Rat)∨((1000000:Int):Rat)<b.a.val) then 2 else bD b.l
theorem b9 (b:BR) (hb:b.Lim):Ret Tryz.prog .shared 18 [.agg (eB b)] (I (bq b)):=by
 have hbe:=mw b.a (hx:=hb.a.v) (by decide) 1000000 (by decide) (by decide)
 have hc:=n8 b.l hb.l
 generalize hE:bq b=E
 rw[bq]at hE
 obtain⟨w,a,l⟩:=b
 simp only at *
 generalize bD l=ce at *
 by_cases h1:w<1
 ·rw[if_pos (.inl (.inl h1))]at hE
  subst hE
  refine Ret.of_pwp layOk mixed Go.Proofs.Tryz.func18 rfl (by decide) rfl rfl ?_
  repeat refine aa rfl ?_
  refine dr rfl rfl rfl ?_ ?_<;>intro h
  ·repeat refine aa rfl ?_
   exact aO rfl rfl rfl
  ·exact absurd h1 (of_decide_eq_false h)
 by_cases h2:1000000000<w
 ·rw[if_pos (.inl (.inr h2))]at hE
  subst hE
  refine Ret.of_pwp layOk mixed Go.Proofs.Tryz.func18 rfl (by decide) rfl rfl ?_
  repeat refine aa rfl ?_
  refine dr rfl rfl rfl ?_ ?_<;>intro h
  ·repeat refine aa rfl ?_
   exact aO rfl rfl rfl
  ·clear h
   repeat refine aa rfl ?_
   refine dr rfl rfl rfl ?_ ?_<;>intro h
   ·repeat refine aa rfl ?_
    exact aO rfl rfl rfl
   ·exact absurd h2 (of_decide_eq_false h)
 by_cases h3:a.val < -((1000000:Int):Rat)∨((1000000:Int):Rat)<a.val
 ·rw[decide_eq_true h3]at hbe
  rw[if_pos (.inr h3)]at hE
  subst hE
  refine Ret.of_pwp layOk mixed Go.Proofs.Tryz.func18 rfl (by decide) rfl rfl ?_
  repeat refine aa rfl ?_
  refine dr rfl rfl rfl ?_ ?_<;>intro h
  ·repeat refine aa rfl ?_
   exact aO rfl rfl rfl
  ·clear h
   repeat refine aa rfl ?_
   refine dr rfl rfl rfl ?_ ?_<;>intro h
   ·repeat refine aa rfl ?_
    exact aO rfl rfl rfl
   ·clear h
    repeat refine aa rfl ?_
    refine aP rfl rfl rfl hbe rfl rfl rfl ?_
    repeat refine aa rfl ?_
    exact aO rfl rfl rfl
 ·rw[decide_eq_false h3]at hbe
  rw[if_neg (fun h=>h.elim (fun h=>h.elim h1 h2) h3)]at hE
  subst hE
  refine Ret.of_pwp layOk mixed Go.Proofs.Tryz.func18 rfl (by decide) rfl rfl ?_
  repeat refine aa rfl ?_
  refine dr rfl rfl rfl ?_ ?_<;>intro h
  ·exact absurd (of_decide_eq_true h) h1
  ·clear h
   repeat refine aa rfl ?_
   refine dr rfl rfl rfl ?_ ?_<;>intro h
   ·exact absurd (of_decide_eq_true h) h2
   ·clear h
    repeat refine aa rfl ?_
    refine aP rfl rfl rfl hbe rfl rfl rfl ?_
    repeat refine aa rfl ?_
    refine aP rfl rfl rfl hc rfl rfl rfl ?_
    repeat refine aa rfl ?_
    exact aO rfl rfl rfl
set_option maxRecDepth 20000 in
theorem nU (l:List SR) (hl:eJ l) (hc:bD l=0) (f:FuncId) (caps:List PV) (hcaps:∃c,caps=[.dref c 0]) (g:SR→RR) (hg:∀s∈l,Ret Tryz.prog .shared f [.agg (eS s),caps.headD .nil] (.agg (eR (g s)))) :
  Ret Tryz.prog .shared 81 [.sl (l.map eS),.clo f caps] (.tup [.sl ((l.map g).map eR),I 0]):=by
 have hck:=n8 l hl
 rw[hc]at hck
 have hml:(l.map eS).length=l.length:=by simp
 obtain⟨cc,rfl⟩:=hcaps
 simp only[List.headD_cons]at hg
 refine Ret.of_pwp layOk mixed Go.Proofs.Tryz.func81 rfl (by decide) rfl rfl ?_
 repeat refine aa rfl ?_
 refine aP rfl rfl rfl hck rfl rfl rfl ?_
 repeat refine aa rfl ?_
 refine ay (Ghost.nilreg (k:=7) (t:=7) 26 4 1 rfl rfl) ?_
 have hrows:∀(k:Nat) x,l[k]? = some x→((l.take (k+1)).map g).map eR=((l.take k).map g).map eR++[eR (g x)]:=fun k x hx=>by rw[bY hx,List.map_append,List.map_append];rfl
 refine am (fun k=>k≤l.length) (fun k=>[(1,.clo f [.dref cc 0]),(7,.als 7 (k+1) 0 (((l.take k).map g).map eR).length),(15,.sl (l.map eS)),(16,I l.length),(17,I k)]) (fun k=>[(7,k+1,⟨26,4,((l.take k).map g).map eR,1⟩)]) (fun k=>l.length-k) 0 (Nat.zero_le _) ⟨rfl,rfl,rfl,by rw[←hml];rfl,rfl,rfl,trivial⟩ ?_
 intro k s hk
 repeat refine aa rfl ?_
 refine ab rfl ?_ ?_<;>intro h
 ·have hlt:k<l.length:=by have:=of_decide_eq_true h;omega
  clear h
  obtain⟨x,hx⟩:=aL hlt
  have hgx:=hg x (List.mem_of_getElem? hx)
  have hw:IntKind.i64.wrap (((k:Nat):Int)+1)=((k+1:Nat):Int):=by have:=hl.2;rw[wrap_i64 (by omega) (by omega)];omega
  have hll:=hl.2
  repeat refine aa rfl ?_
  refine aZ rfl rfl rfl rfl rfl rfl rfl hx rfl ?_
  repeat refine aa rfl ?_
  refine ak rfl rfl rfl hgx rfl rfl ?_
  repeat refine aa rfl ?_
  refine ar (be 1 rfl rfl rfl rfl rfl rfl rfl rfl rfl rfl rfl (by repeat' constructor) rfl ?_)
  repeat refine aa rfl ?_
  refine ar (bE 1 rfl rfl rfl rfl rfl rfl rfl rfl rfl rfl rfl (by repeat' constructor) (by intro row hr;first|(simp at hr;subst hr;rfl)|simp at hr) rfl rfl (by simp;omega) (by simp;omega) ?_)
  repeat refine aa rfl ?_
  refine⟨k+1,hlt,by omega,rfl,?_,rfl,rfl,congrArg I hw,?_,trivial⟩
  ·rw[hrows k x hx];rfl
  ·rw[hrows k x hx];rfl
 ·have hge:k=l.length:=by have:=of_decide_eq_false h;omega
  clear h
  repeat refine aa rfl ?_
  exact sZ rfl (by repeat' constructor) rfl (by repeat' constructor) (by rw[hge,List.take_length];rfl)
theorem qZ (s:SR) (hs:s.Lim) (hk:br s.k=0) (a:AR) {z t:Rat} {n m:Nat} [ha:Va a z t n m] (hn:n+m≤90000):Ret Tryz.prog .shared 82 [.agg (eS s),.dref (eA a) 0] (.agg (eR (ofQ (fQ s z t)))):=by
 have h1:=vW s hs hk a hn
 generalize ofQ (fQ s z t)=X at *
 obtain⟨x,c,k⟩:=s
 obtain⟨az,at'⟩:=a
 try simp only at *
 refine Ret.of_pwp layOk mixed Go.Proofs.Tryz.func82 rfl (by decide) rfl rfl ?_
 repeat refine aa rfl ?_
 refine ak rfl rfl rfl h1 rfl rfl ?_
 repeat refine aa rfl ?_
 exact aF rfl rfl rfl
theorem bu {l:List SR} (h:bD l=0):∀s∈l,br s.k=0:=by
 intro s hs
 rw[bD]at h
 split at h
 ·omega
 ·have:=jo h s hs
  rw[ib]at this
  split at this
  ·omega
  ·exact this
def FL (l:List SR) (z t:Rat):List RR:=l.map fun s=>ofQ (fQ s z t)
theorem gH (l:List SR) (hl:eJ l) (hc:bD l=0) (a:AR) {z t:Rat} {n m:Nat} [ha:Va a z t n m] (hn:n+m≤90000):Ret Tryz.prog .shared 29 [.sl (l.map eS),.agg (eA a)] (.tup [.sl ((FL l z t).map eR),I 0]):=by
 have h1:=nU l hl hc 82 [.dref (eA a) 0] ⟨_,rfl⟩ (fun s=>ofQ (fQ s z t)) fun s hs=>qZ s (hl.1 s hs) (bu hc s hs) a hn
 rw[←FL]at h1
 generalize FL l z t=X at *
 obtain⟨az,at'⟩:=a
 refine Ret.of_pwp layOk mixed Go.Proofs.Tryz.func29 rfl (by decide) rfl rfl ?_
 (repeat ((fail_if_success (with_reducible refine aT 1 ?_));refine dh rfl ?_))
 refine ay (Ghost.data (k:=3) (t:=3) rfl rfl rfl rfl) ?_
 repeat refine aa rfl ?_
 refine ak rfl rfl rfl h1 rfl rfl ?_
 repeat refine aa rfl ?_
 exact aF rfl rfl rfl
def kF (l:List SR):Prop:=l.length≤12∧∀s∈l,s.k.S.length≤8
theorem qY {s:SR} (hs:s.Lim) (h8:s.k.S.length≤8) {z t:Rat} {n m:Nat} (hz:HQ z n) (ht:HQ t m):HQ (fQ s z t) (8*(n+m+60)+4):=by
 rw[fQ,b7]
 exact(aK s.k.S.length fun k _=>qc hs.k (pc hs hz ht) k).mono (by have:=Nat.mul_le_mul h8 (show 13+(n+(m+4)+1)+1+32+1≤n+m+60 by omega);omega)
def dS:SR:=⟨0,RR.zero,⟨[],[]⟩⟩
def bd (b:BR):Bd:={ N:=b.l.length,X:=fun i=>((b.l.getD i dS).x:Rat),C:=fun i=>(b.l.getD i dS).c.val,n:=fun i=>(b.l.getD i dS).k.S.length,S:=fun i=>(b.l.getD i dS).k.s,M:=fun i=>(b.l.getD i dS).k.m,w:=b.w,A:=b.a.val }
def fI (l:List SR) (z t:Rat) (i:Nat):Rat:=fQ (l.getD i dS) z t
def gI (l:List SR) (z t:Rat) (i:Nat):Rat:=fQ (l.getD i dS) z t*((l.getD i dS).x:Rat)
theorem aB {l:List SR} {i:Nat} (h:i<l.length):l.getD i dS∈l:=List.mem_of_getElem? (aC h)
set_option maxRecDepth 20000 in
theorem xB (l:List SR) (hl:eJ l) (hf:kF l) {z t:Rat} {n m:Nat} (hz:HQ z n) (ht:HQ t m) (hn:n+m≤100000):Ret Tryz.prog .shared 193 [.sl (l.map eS),.sl ((FL l z t).map eR)] (.agg (eR (ofQ (ac (fI l z t) l.length))++eR (ofQ (ac (gI l z t) l.length)))):=by
 have hw0:=a8 0 ⟨by decide,by decide⟩
 rw[show(((0:Int):Rat))=0 from rfl]at hw0
 have hml:(l.map eS).length=l.length:=by simp
 have hFl:((FL l z t).map eR).length=l.length:=by simp[FL]
 have hFH:∀i,i<l.length→HQ (fI l z t i) (8*(n+m+60)+4):=fun i hi=>qY (hl.1 _ (aB hi)) (hf.2 _ (aB hi)) hz ht
 have hGH:∀i,i<l.length→HQ (gI l z t i) (8*(n+m+60)+4+4):=fun i hi=>by
  have hx:=(hl.1 _ (aB hi)).x
  have hx:Zb (l.getD i dS).x:=aE hx.1 hx.2
  exact @HQ.mul _ _ _ 4 (hFH i hi) HQ.int
 have hB:∀i,i≤l.length→i*(8*(n+m+60)+4+4+1)+4≤12000000:=fun i hi=>by
  have:=hf.1
  have:=Nat.mul_le_mul (show i≤12 by omega) (show 8*(n+m+60)+4+4+1≤800489 by omega)
  omega
 refine Ret.of_pwp layOk mixed Go.Proofs.Tryz.func193 rfl (by decide) rfl rfl ?_
 repeat refine aa rfl ?_
 refine ak rfl rfl rfl hw0 rfl rfl ?_
 repeat refine aa rfl ?_
 refine ak rfl rfl rfl hw0 rfl rfl ?_
 repeat refine aa rfl ?_
 refine am (fun i:Nat=>i≤l.length) (fun i=>[(1,.sl ((FL l z t).map eR)),(4,.ptr 4 1 0 0),(5,.ptr 5 1 0 0),(11,.sl (l.map eS)),(12,I l.length),(13,I (i:Nat))])
  (fun i=>[(4,1,⟨185,8,[zN++zN],2⟩),(5,1,⟨185,8,[eR (ofQ (ac (fI l z t) i))++eR (ofQ (ac (gI l z t) i))],2⟩)]) (fun i=>l.length-i) 0 (Nat.zero_le _) ⟨rfl,rfl,rfl,rfl,by rw[←hml];rfl,rfl,rfl,rfl,trivial⟩ ?_
 intro i s hi
 repeat refine aa rfl ?_
 refine ab rfl ?_ ?_<;>intro h
 ·have hlt:i<l.length:=by have:=of_decide_eq_true h;omega
  clear h
  have hx:=aC (d:=dS) hlt
  have hFi:(FL l z t)[i]? = some (ofQ (fI l z t i)):=by rw[FL,List.getElem?_map,hx];rfl
  have hxx:=(hl.1 _ (aB hlt)).x
  have hzb:Zb (l.getD i dS).x:=aE hxx.1 hxx.2
  have hw:IntKind.i64.wrap (((i:Nat):Int)+1)=((i+1:Nat):Int):=by have:=hf.1;rw[wrap_i64 (by omega) (by omega)];omega
  have hBi:=hB i hi
  have v0:Vq (ofQ (fI l z t i)) (fI l z t i) (8*(n+m+60)+4):=Vq.ofQ (h:=hFH i hlt)
  have vg:Vq (ofQ (gI l z t i)) (gI l z t i) (8*(n+m+60)+4+4):=Vq.ofQ (h:=hGH i hlt)
  have v1:Vq (ofQ (ac (fI l z t) i)) (ac (fI l z t) i) (i*(8*(n+m+60)+4+1)+4):=Vq.ofQ (h:=aK i fun k hk=>hFH k (by omega))
  have v2:Vq (ofQ (ac (gI l z t) i)) (ac (gI l z t) i) (i*(8*(n+m+60)+4+4+1)+4):=Vq.ofQ (h:=aK i fun k hk=>hGH k (by omega))
  have h1:=et (ofQ (ac (fI l z t) i)) (ofQ (fI l z t i)) (hx:=v1) (hy:=v0) (by have:=Nat.mul_le_mul (Nat.le_refl i) (show 8*(n+m+60)+4+1≤8*(n+m+60)+4+4+1 by omega);omega) (by omega)
  have h2:=a8 (l.getD i dS).x hxx
  have h3:=fR (ofQ (fI l z t i)) (ofQ ((l.getD i dS).x:Rat)) (hx:=v0) (by omega) (by decide)
  have h4:=et (ofQ (ac (gI l z t) i)) (ofQ (gI l z t i)) (hx:=v2) (hy:=vg) (by omega) (by omega)
  rw[show ac (fI l z t) i+fI l z t i=ac (fI l z t) (i+1) from rfl]at h1
  rw[show ac (gI l z t) i+gI l z t i=ac (gI l z t) (i+1) from rfl]at h4
  rw[show fI l z t i*((l.getD i dS).x:Rat)=gI l z t i from rfl]at h3
  generalize hF1:ofQ (ac (fI l z t) (i+1))=F1 at *
  generalize hG1:ofQ (ac (gI l z t) (i+1))=G1 at *
  generalize ofQ (ac (fI l z t) i)=F0 at *
  generalize ofQ (ac (gI l z t) i)=G0 at *
  repeat refine aa rfl ?_
  refine aZ rfl rfl rfl rfl rfl rfl rfl hx rfl ?_
  repeat refine aa rfl ?_
  refine ah 8 [18,19,20,21,22,23,24,25] (by decide +kernel) ?_
  repeat refine aa rfl ?_
  refine aZ rfl rfl rfl rfl rfl rfl rfl hFi rfl ?_
  repeat refine aa rfl ?_
  refine ak rfl rfl rfl h1 rfl rfl ?_
  repeat refine aa rfl ?_
  refine ah 12 [26,27,28,29,30,31,32,33,34,35,36,37] (by decide +kernel) ?_
  repeat refine aa rfl ?_
  refine aZ rfl rfl rfl rfl rfl rfl rfl hFi rfl ?_
  repeat refine aa rfl ?_
  refine ak rfl rfl rfl h2 rfl rfl ?_
  repeat refine aa rfl ?_
  refine ak rfl rfl rfl h3 rfl rfl ?_
  repeat refine aa rfl ?_
  refine ak rfl rfl rfl h4 rfl rfl ?_
  repeat refine aa rfl ?_
  refine⟨i+1,hlt,by omega,rfl,rfl,rfl,rfl,rfl,congrArg I hw,rfl,?_,trivial⟩
  show(_:Nat × Option Cont)=(1,some (Cont.mk 185 8 [eR (ofQ (ac (fI l z t) (i+1)))++eR (ofQ (ac (gI l z t) (i+1)))] 2))
  rw[hF1,hG1]
  rfl
 ·have hie:i=l.length:=by have:=of_decide_eq_false h;omega
  clear h
  subst hie
  repeat refine aa rfl ?_
  exact aF rfl rfl rfl
structure BR.Ok (b:BR):Prop where
 lim:b.Lim
 chk:bq b=0
 few:kF b.l
theorem jN {b:BR} (h:bq b=0):1≤b.w∧b.w≤1000000000∧bD b.l=0:=by
 rw[bq]at h
 split at h
 ·omega
 ·rename_i h1
  exact⟨by omega,by omega,h⟩
theorem BR.Ok.chkL {b:BR} (h:b.Ok):bD b.l=0:=(jN h.chk).2.2
set_option maxRecDepth 20000 in
theorem AV {l:List SR} (hl:eJ l) (hf:kF l) {z t:Rat} {n m:Nat} (hz:HQ z n) (ht:HQ t m):HQ (ac (fI l z t) l.length) (96*(n+m+60)+200) :=
 (aK l.length fun i hi=>qY (hl.1 _ (aB hi)) (hf.2 _ (aB hi)) hz ht).mono (by have:=Nat.mul_le_mul hf.1 (Nat.le_refl (8*(n+m+60)+4+1));omega)
set_option maxRecDepth 20000 in
theorem AX {l:List SR} (hl:eJ l) (hf:kF l) {z t:Rat} {n m:Nat} (hz:HQ z n) (ht:HQ t m):HQ (ac (gI l z t) l.length) (96*(n+m+60)+200) :=
 (aK (m:=8*(n+m+60)+4+4) l.length fun i hi=>by
  have hx:=(hl.1 _ (aB hi)).x
  have hx:Zb (l.getD i dS).x:=aE hx.1 hx.2
  exact @HQ.mul _ _ _ 4 (qY (hl.1 _ (aB hi)) (hf.2 _ (aB hi)) hz ht) HQ.int).mono (by have:=Nat.mul_le_mul hf.1 (Nat.le_refl (8*(n+m+60)+4+4+1));omega)
theorem jK (l:List SR) (hl:eJ l) (hc:bD l=0) (hf:kF l) (a:AR) {z t:Rat} {n m:Nat} [ha:Va a z t n m] (hn:n+m≤90000) :
  Ret Tryz.prog .shared 147 [.sl (l.map eS),.agg (eA a)] (.tup [.agg (eR (ofQ (ac (fI l z t) l.length))++eR (ofQ (ac (gI l z t) l.length))),I 0]):=by
 have h1:=gH l hl hc a hn
 have h2:=xB l hl hf ha.z.hq ha.t.hq (by omega)
 generalize ofQ (ac (fI l z t) l.length)=X1 at *
 generalize ofQ (ac (gI l z t) l.length)=X2 at *
 generalize FL l z t=L at *
 obtain⟨az,at'⟩:=a
 refine Ret.of_pwp layOk mixed Go.Proofs.Tryz.func147 rfl (by decide) rfl rfl ?_
 repeat refine aa rfl ?_
 refine ak rfl rfl rfl h1 rfl rfl ?_
 repeat refine aa rfl ?_
 refine ak rfl rfl rfl h2 rfl rfl ?_
 repeat refine aa rfl ?_
 exact aF rfl rfl rfl
theorem sC {b:BR} (hb:b.Ok):HQ ((b.w:Rat)*b.a.val) 17:=by
 have hw:Zb b.w:=aE hb.lim.w.1 hb.lim.w.2
 exact @HQ.mul _ _ 4 13 HQ.int hb.lim.a.v.hq
theorem mF (b:BR) (hb:b.Ok) (a:AR) {z t:Rat} {n m:Nat} [ha:Va a z t n m] (hn:n+m≤60000):Ret Tryz.prog .shared 97 [.agg (eB b),.agg (eA a)] (.agg (eR (ofQ ((bd b).e z t)))):=by
 have h1:=jK b.l hb.lim.l hb.chkL hb.few a (by omega)
 have h2:=a8 b.w hb.lim.w
 have hw:Zb b.w:=aE hb.lim.w.1 hb.lim.w.2
 have h3:=fR (ofQ (b.w:Rat)) b.a (hy:=hb.lim.a.v) (by decide) (by decide)
 have v1:Vq (ofQ (ac (gI b.l z t) b.l.length)) (ac (gI b.l z t) b.l.length) (96*(n+1+(m+1)+60)+200):=Vq.ofQ (h:=AX hb.lim.l hb.few ha.z.hq ha.t.hq)
 have v2:Vq (ofQ ((b.w:Rat)*b.a.val)) ((b.w:Rat)*b.a.val) 17:=Vq.ofQ (h:=sC hb)
 have h4:=k7 (ofQ (ac (gI b.l z t) b.l.length)) (ofQ ((b.w:Rat)*b.a.val)) (hx:=v1) (hy:=v2) (by omega) (by decide)
 rw[show ac (gI b.l z t) b.l.length-(b.w:Rat)*b.a.val=(bd b).e z t from rfl]at h4
 generalize ofQ ((bd b).e z t)=X0 at *
 generalize ofQ (ac (fI b.l z t) b.l.length)=X1 at *
 generalize ofQ (ac (gI b.l z t) b.l.length)=X2 at *
 generalize ofQ ((b.w:Rat)*b.a.val)=X3 at *
 generalize ofQ (b.w:Rat)=X4 at *
 obtain⟨w,ba,l⟩:=b
 obtain⟨az,at'⟩:=a
 simp only at *
 refine Ret.of_pwp layOk mixed Go.Proofs.Tryz.func97 rfl (by decide) rfl rfl ?_
 repeat refine aa rfl ?_
 refine ak rfl rfl rfl h1 rfl rfl ?_
 repeat refine aa rfl ?_
 refine ah 9 [14,15,16,17,18,19,20,21,22] (by decide +kernel) ?_
 repeat refine aa rfl ?_
 refine ak rfl rfl rfl h2 rfl rfl ?_
 repeat refine aa rfl ?_
 refine ak rfl rfl rfl h3 rfl rfl ?_
 repeat refine aa rfl ?_
 refine ak rfl rfl rfl h4 rfl rfl ?_
 repeat refine aa rfl ?_
 exact aF rfl rfl rfl
theorem Da {b:BR} (hb:b.Ok) {z t:Rat} {n m:Nat} (hz:HQ z n) (ht:HQ t m):HQ ((bd b).e z t) (96*(n+m+60)+200+17+1):=@HQ.sub _ _ _ 17 (AX hb.lim.l hb.few hz ht) (sC hb)
instance (b:Bd) (z t:Rat):Decidable (b.Bal z t):=inferInstanceAs (Decidable (_∧_))
theorem pp (b:BR) (hb:b.Ok) (a:AR) {z t:Rat} {n m:Nat} [ha:Va a z t n m] (hn:n+m≤60000):Ret Tryz.prog .shared 86 [.agg (eB b),.agg (eA a)] (.bool (decide ((bd b).Bal z t))):=by
 have h1:=jK b.l hb.lim.l hb.chkL hb.few a (by omega)
 have h2:=a8 b.w hb.lim.w
 have hw:Zb b.w:=aE hb.lim.w.1 hb.lim.w.2
 have v0:Vq (ofQ (ac (fI b.l z t) b.l.length)) (ac (fI b.l z t) b.l.length) (96*(n+1+(m+1)+60)+200):=Vq.ofQ (h:=AV hb.lim.l hb.few ha.z.hq ha.t.hq)
 have h5:=pz (ofQ (ac (fI b.l z t) b.l.length)) (ofQ (b.w:Rat)) (hx:=v0) (by omega) (by decide)
 have h3:=fR (ofQ (b.w:Rat)) b.a (hy:=hb.lim.a.v) (by decide) (by decide)
 have v1:Vq (ofQ (ac (gI b.l z t) b.l.length)) (ac (gI b.l z t) b.l.length) (96*(n+1+(m+1)+60)+200):=Vq.ofQ (h:=AX hb.lim.l hb.few ha.z.hq ha.t.hq)
 have v2:Vq (ofQ ((b.w:Rat)*b.a.val)) ((b.w:Rat)*b.a.val) 17:=Vq.ofQ (h:=sC hb)
 have h4:=pz (ofQ (ac (gI b.l z t) b.l.length)) (ofQ ((b.w:Rat)*b.a.val)) (hx:=v1) (hy:=v2) (by omega) (by decide)
 have key:decide ((bd b).Bal z t)=(decide (sgn (ac (fI b.l z t) b.l.length-(b.w:Rat))=0)&&decide (sgn (ac (gI b.l z t) b.l.length-(b.w:Rat)*b.a.val)=0)):=by
  rw[←Bool.decide_and,decide_eq_decide,fV,fV]
  show ac (fI b.l z t) b.l.length=(b.w:Rat)∧ac (gI b.l z t) b.l.length=(b.w:Rat)*b.a.val↔_
  constructor
  ·rintro⟨e1,e2⟩;rw[e1,e2];constructor<;>grind
  ·rintro⟨e1,e2⟩;constructor<;>grind
 rw[key]
 generalize sgn (ac (fI b.l z t) b.l.length-(b.w:Rat))=g1 at *
 generalize sgn (ac (gI b.l z t) b.l.length-(b.w:Rat)*b.a.val)=g2 at *
 generalize ofQ (ac (fI b.l z t) b.l.length)=X1 at *
 generalize ofQ (ac (gI b.l z t) b.l.length)=X2 at *
 generalize ofQ ((b.w:Rat)*b.a.val)=X3 at *
 generalize ofQ (b.w:Rat)=X4 at *
 obtain⟨w,ba,l⟩:=b
 obtain⟨az,at'⟩:=a
 simp only at *
 refine Ret.of_pwp layOk mixed Go.Proofs.Tryz.func86 rfl (by decide) rfl rfl ?_
 repeat refine aa rfl ?_
 refine ak rfl rfl rfl h1 rfl rfl ?_
 repeat refine aa rfl ?_
 refine ah 20 [14,15,16,17,18,19,20,21,22,23,24,25,26,27,28,29,30,31,32,4] (by decide +kernel) ?_
 repeat refine aa rfl ?_
 refine ak rfl rfl rfl h2 rfl rfl ?_
 repeat refine aa rfl ?_
 refine aP rfl rfl rfl h5 rfl rfl rfl ?_
 repeat refine aa rfl ?_
 refine dr rfl rfl rfl ?_ ?_<;>intro h
 ·rw[h]
  clear h
  repeat refine aa rfl ?_
  refine ak rfl rfl rfl h2 rfl rfl ?_
  repeat refine aa rfl ?_
  refine ak rfl rfl rfl h3 rfl rfl ?_
  repeat refine aa rfl ?_
  refine aP rfl rfl rfl h4 rfl rfl rfl ?_
  repeat refine aa rfl ?_
  exact bi rfl rfl rfl
 ·rw[h]
  clear h
  repeat refine aa rfl ?_
  exact bi rfl rfl rfl
theorem uY {S M:Nat→Rat} {n:Nat} {y:Rat} (h:∀k,k+1<n→S k<S (k+1)):∀m,m≤n→ac (fL S M y) m=aI M (ic S y m)
 |0,_=>rfl
 |m+1,hm=>by
  rw[ac,uY h m (by omega),ic,fL]
  by_cases hy:S m≤y
  ·rw[if_pos hy,if_neg (by grind)]
   have:ic S y m=m:=by
    cases m with
    |zero=>rfl
    |succ j =>
     have:=h j (by omega)
     rw[ic,if_pos (by grind)]
   rw[this,aI]
   grind
  ·rw[if_neg hy,if_pos (by grind)]
   grind
def wo (c:CR) (y:Rat):Nat→RR
 |0=>ofQ 0
 |i+1=>if c.s i<y then c.M.getD i RR.zero else wo c y i
theorem y6 {c:CR} (hc:c.Lim) (y:Rat):∀i,Vq (wo c y i) (aI c.m (kB c.s y i)) 12
 |0=>lp c hc 0
 |i+1=>by
  rw[wo,kB]
  split
  ·exact pQ c hc i
  ·exact y6 hc y i
theorem nt (s:SR) (hs:s.Lim) (hk:br s.k=0) (a:AR) {z t:Rat} {n m:Nat} [ha:Va a z t n m] (hn:n+m≤90000):Ret Tryz.prog .shared 139 [.agg (eS s),.dref (eA a) 0] (.agg (eR (ofQ (aI s.k.m (ic s.k.s (yQ s z t) s.k.S.length))))):=by
 have h1:=kJ s hs a (by omega) (by omega)
 have v1:Vq (ofQ (yQ s z t)) (yQ s z t) (13+(n+1+(m+1+4)+1)+1):=Vq.ofQ (h:=pc hs ha.z.hq ha.t.hq)
 have h2:=xi s.k hs.k hk (ofQ (yQ s z t)) (hy:=v1) (by omega)
 rw[Am,uY (bP hk).2.2.2 _ (Nat.le_refl _)]at h2
 generalize ofQ (aI s.k.m (ic s.k.s (yQ s z t) s.k.S.length))=X2 at *
 generalize ofQ (yQ s z t)=X1 at *
 obtain⟨x,c,k⟩:=s
 obtain⟨az,at'⟩:=a
 try simp only at *
 refine Ret.of_pwp layOk mixed Go.Proofs.Tryz.func139 rfl (by decide) rfl rfl ?_
 repeat refine aa rfl ?_
 refine bt [4] [9,10] (by decide +kernel) ?_
 repeat refine aa rfl ?_
 refine ak rfl rfl rfl h1 rfl rfl ?_
 repeat refine aa rfl ?_
 refine ak rfl rfl rfl h2 rfl rfl ?_
 repeat refine aa rfl ?_
 exact aF rfl rfl rfl
set_option maxRecDepth 20000 in
theorem ox (s:SR) (hs:s.Lim) (hk:br s.k=0) (a:AR) {z t:Rat} {n m:Nat} [ha:Va a z t n m] (hn:n+m≤90000):Ret Tryz.prog .shared 204 [.agg (eS s),.dref (eA a) 0] (.agg (eR (wo s.k (yQ s z t) s.k.S.length))):=by
 have h1:=kJ s hs a (by omega) (by omega)
 have v1:Vq (ofQ (yQ s z t)) (yQ s z t) (13+(n+1+(m+1+4)+1)+1):=Vq.ofQ (h:=pc hs ha.z.hq ha.t.hq)
 have hw0:=a8 0 ⟨by decide,by decide⟩
 rw[show(((0:Int):Rat))=0 from rfl]at hw0
 have hSM:=(bP hk).2.1
 have h40:=(bP hk).1
 have hkl:=hs.k
 obtain⟨x,c,k⟩:=s
 obtain⟨az,at'⟩:=a
 simp only at hSM h40 hkl
 dsimp only
 generalize yQ ⟨x,c,k⟩ z t=y at *
 generalize ofQ y=Y at *
 have hSl:(k.S.map eN).length=k.S.length:=by simp
 refine Ret.of_pwp layOk mixed Go.Proofs.Tryz.func204 rfl (by decide) rfl rfl ?_
 repeat refine aa rfl ?_
 refine ak rfl rfl rfl h1 rfl rfl ?_
 repeat refine aa rfl ?_
 refine ak rfl rfl rfl hw0 rfl rfl ?_
 repeat refine aa rfl ?_
 refine am (fun i:Nat=>i≤k.S.length) (fun i=>[(2,.ptr 2 1 0 0),(3,.ptr 3 1 0 0),(4,.ptr 4 1 0 0),(5,.ptr 5 1 0 0),(14,.sl (k.S.map eN)),(15,I k.S.length),(16,I (i:Nat))])
  (fun i=>[(2,1,⟨71,7,[eS ⟨x,c,k⟩],2⟩),(3,1,⟨26,4,[zN],2⟩),(4,1,⟨26,4,[eR Y],2⟩),(5,1,⟨26,4,[eR (wo k y i)],2⟩)]) (fun i=>k.S.length-i) 0 (Nat.zero_le _) ⟨rfl,rfl,rfl,rfl,rfl,by rw[←hSl];rfl,rfl,rfl,rfl,rfl,rfl,trivial⟩ ?_
 intro i s hi
 repeat refine aa rfl ?_
 refine ab rfl ?_ ?_<;>intro h
 ·have hlt:i<k.S.length:=by have:=of_decide_eq_true h;omega
  clear h
  have hx:=aC (d:=0) hlt
  have hmx:=aC (l:=k.M) (i:=i) (d:=RR.zero) (by omega)
  have hxb:=km hkl i
  have hnum:=a8 (k.S.getD i 0) hxb
  have hzb:Zb (k.S.getD i 0):=aE hxb.1 hxb.2
  have hcm:=pz (ofQ ((k.S.getD i 0:Int):Rat)) Y (hy:=v1) (by decide) (by omega)
  have hsl:=eE (k.s i-y)
  rw[show((k.S.getD i 0:Int):Rat)=k.s i from rfl]at hnum hcm
  have hw:=gz i
  have hst:wo k y (i+1)=if k.s i<y then k.M.getD i RR.zero else wo k y i:=rfl
  generalize ofQ (k.s i)=N at *
  repeat refine aa rfl ?_
  refine aZ rfl rfl rfl rfl rfl rfl rfl hx rfl ?_
  repeat refine aa rfl ?_
  refine ah 5 [21,22,23,24,25] (by decide +kernel) ?_
  repeat refine aa rfl ?_
  refine ak rfl rfl rfl hnum rfl rfl ?_
  repeat refine aa rfl ?_
  refine aP rfl rfl rfl hcm rfl rfl rfl ?_
  repeat refine aa rfl ?_
  refine ab rfl ?_ ?_<;>intro h
  ·have h3:k.s i<y:=by have:=hsl.1 (of_decide_eq_true h);grind
   clear h
   rw[if_pos h3]at hst
   repeat refine aa rfl ?_
   refine aZ rfl rfl rfl rfl rfl rfl rfl hmx rfl ?_
   repeat refine aa rfl ?_
   refine⟨i+1,hlt,by omega,rfl,rfl,rfl,rfl,rfl,rfl,congrArg I hw,rfl,rfl,rfl,?_,trivial⟩
   show(_:Nat × Option Cont)=(1,some (Cont.mk 26 4 [eR (wo k y (i+1))] 2))
   rw[hst]
   rfl
  ·have h3:¬k.s i<y:=fun h2=>(of_decide_eq_false h) (hsl.2 (by grind))
   clear h
   rw[if_neg h3]at hst
   repeat refine aa rfl ?_
   refine⟨i+1,hlt,by omega,rfl,rfl,rfl,rfl,rfl,rfl,congrArg I hw,rfl,rfl,rfl,?_,trivial⟩
   show(_:Nat × Option Cont)=(1,some (Cont.mk 26 4 [eR (wo k y (i+1))] 2))
   rw[hst]
   rfl
 ·have hie:i=k.S.length:=by have:=of_decide_eq_false h;omega
  clear h
  subst hie
  repeat refine aa rfl ?_
  exact aF rfl rfl rfl
theorem oV (a:AR):Ret Tryz.prog .shared 75 [.agg (eA a)] (.clo 139 [.dref (eA a) 0]):=by
 obtain⟨az,at'⟩:=a
 refine Ret.of_pwp layOk mixed Go.Proofs.Tryz.func75 rfl (by decide) rfl rfl ?_
 repeat refine aa rfl ?_
 exact aF rfl rfl rfl
theorem rl (a:AR):Ret Tryz.prog .shared 163 [.agg (eA a)] (.clo 204 [.dref (eA a) 0]):=by
 obtain⟨az,at'⟩:=a
 refine Ret.of_pwp layOk mixed Go.Proofs.Tryz.func163 rfl (by decide) rfl rfl ?_
 repeat refine aa rfl ?_
 exact aF rfl rfl rfl
def xI (l:List SR) (i:Nat):Rat:=((l.getD i dS).x:Rat)
def eK (a b c:RR):List PV:=eR a++(eR b++eR c)
set_option maxRecDepth 20000 in
theorem o6 (l:List SR) (hl:eJ l) (hf:kF l) (f:FuncId) (cc:List PV) (g:SR→RR) (κ:Nat→Rat) (hg:∀s∈l,Ret Tryz.prog .shared f [.agg (eS s),.dref cc 0] (.agg (eR (g s)))) (hv:∀i,i<l.length→Vq (g (l.getD i dS)) (κ i) 1000) :
  Ret Tryz.prog .shared 74 [.sl (l.map eS),.clo f [.dref cc 0]] (.agg (eK (ofQ (ac κ l.length)) (ofQ (ac (fun i=>κ i*xI l i) l.length)) (ofQ (ac (fun i=>κ i*xI l i*xI l i) l.length)))):=by
 have hw0:=a8 0 ⟨by decide,by decide⟩
 rw[show(((0:Int):Rat))=0 from rfl]at hw0
 have hml:(l.map eS).length=l.length:=by simp
 have hX:∀i,i<l.length→HQ (xI l i) 4:=fun i hi=>by
  have hx:=(hl.1 _ (aB hi)).x
  have hx:Zb (l.getD i dS).x:=aE hx.1 hx.2
  exact HQ.int
 have hK:∀i,i<l.length→HQ (κ i) 1001:=fun i hi=>(hv i hi).hq
 have hC:∀i,i<l.length→HQ (κ i*xI l i) 1005:=fun i hi=>@HQ.mul _ _ 1001 4 (hK i hi) (hX i hi)
 have hP:∀i,i<l.length→HQ (κ i*xI l i*xI l i) 1009:=fun i hi=>@HQ.mul _ _ 1005 4 (hC i hi) (hX i hi)
 have h12:=hf.1
 generalize hc:(fun i=>κ i*xI l i)=C at *
 generalize hp:(fun i=>κ i*xI l i*xI l i)=Pq at *
 have hCi:∀i,κ i*xI l i=C i:=fun i=>by rw[←hc]
 have hPi:∀i,C i*xI l i=Pq i:=fun i=>by rw[←hc,←hp]
 simp only[hCi,hPi]at hC hP
 clear hc hp
 refine Ret.of_pwp layOk mixed Go.Proofs.Tryz.func74 rfl (by decide) rfl rfl ?_
 repeat refine aa rfl ?_
 refine ak rfl rfl rfl hw0 rfl rfl ?_
 repeat refine aa rfl ?_
 refine ak rfl rfl rfl hw0 rfl rfl ?_
 repeat refine aa rfl ?_
 refine ak rfl rfl rfl hw0 rfl rfl ?_
 repeat refine aa rfl ?_
 refine am (fun i:Nat=>i≤l.length) (fun i=>[(1,.clo f [.dref cc 0]),(4,.ptr 4 1 0 0),(5,.ptr 5 1 0 0),(13,.sl (l.map eS)),(14,I l.length),(15,I (i:Nat))])
  (fun i=>[(4,1,⟨126,12,[zN++(zN++zN)],2⟩),(5,1,⟨126,12,[eK (ofQ (ac κ i)) (ofQ (ac C i)) (ofQ (ac Pq i))],2⟩)]) (fun i=>l.length-i) 0 (Nat.zero_le _) ⟨rfl,rfl,rfl,rfl,by rw[←hml];rfl,rfl,rfl,rfl,trivial⟩ ?_
 intro i s hi
 repeat refine aa rfl ?_
 refine ab rfl ?_ ?_<;>intro h
 ·have hlt:i<l.length:=by have:=of_decide_eq_true h;omega
  clear h
  have hx:=aC (d:=dS) hlt
  have hxx:=(hl.1 _ (aB hlt)).x
  have hgx:=hg _ (aB hlt)
  have hvi:=hv i hlt
  have hw:=gz i
  have hwx:=a8 (l.getD i dS).x hxx
  rw[show((l.getD i dS).x:Rat)=xI l i from rfl]at hwx
  have vx:Vq (ofQ (xI l i)) (xI l i) 4:=Vq.ofQ (h:=hX i hlt)
  have v1:Vq (ofQ (ac κ i)) (ac κ i) (i*(1001+1)+4):=Vq.ofQ (h:=aK i fun k hk=>hK k (by omega))
  have v2:Vq (ofQ (ac C i)) (ac C i) (i*(1005+1)+4):=Vq.ofQ (h:=aK i fun k hk=>hC k (by omega))
  have v3:Vq (ofQ (ac Pq i)) (ac Pq i) (i*(1009+1)+4):=Vq.ofQ (h:=aK i fun k hk=>hP k (by omega))
  have w2:Vq (ofQ (C i)) (C i) 1005:=Vq.ofQ (h:=hC i hlt)
  have w3:Vq (ofQ (Pq i)) (Pq i) 1009:=Vq.ofQ (h:=hP i hlt)
  have a1:=et (ofQ (ac κ i)) (g (l.getD i dS)) (hx:=v1) (hy:=hvi) (by omega) (by decide)
  have m1:=fR (g (l.getD i dS)) (ofQ (xI l i)) (hx:=hvi) (hy:=vx) (by decide) (by decide)
  rw[hCi]at m1
  have a2:=et (ofQ (ac C i)) (ofQ (C i)) (hx:=v2) (hy:=w2) (by omega) (by decide)
  have m2:=fR (ofQ (C i)) (ofQ (xI l i)) (hx:=w2) (hy:=vx) (by decide) (by decide)
  rw[hPi]at m2
  have a3:=et (ofQ (ac Pq i)) (ofQ (Pq i)) (hx:=v3) (hy:=w3) (by omega) (by decide)
  rw[show ac κ i+κ i=ac κ (i+1) from rfl]at a1
  rw[show ac C i+C i=ac C (i+1) from rfl]at a2
  rw[show ac Pq i+Pq i=ac Pq (i+1) from rfl]at a3
  have hout:eK (ofQ (ac κ (i+1))) (ofQ (ac C (i+1))) (ofQ (ac Pq (i+1)))=eK (ofQ (ac κ (i+1))) (ofQ (ac C (i+1))) (ofQ (ac Pq (i+1))):=rfl
  generalize ofQ (ac κ i)=K0 at *
  generalize ofQ (ac C i)=C0 at *
  generalize ofQ (ac Pq i)=P0 at *
  generalize hK1:ofQ (ac κ (i+1))=K1 at *
  generalize hC1:ofQ (ac C (i+1))=C1 at *
  generalize hP1:ofQ (ac Pq (i+1))=P1 at *
  generalize ofQ (xI l i)=XI at *
  generalize ofQ (C i)=CI at *
  generalize ofQ (Pq i)=PI at *
  repeat refine aa rfl ?_
  refine aZ rfl rfl rfl rfl rfl rfl rfl hx rfl ?_
  repeat refine aa rfl ?_
  refine ak rfl rfl rfl hgx rfl rfl ?_
  repeat refine aa rfl ?_
  refine ak rfl rfl rfl a1 rfl rfl ?_
  repeat refine aa rfl ?_
  refine ah 5 [27,28,29,30,31] (by decide +kernel) ?_
  repeat refine aa rfl ?_
  refine ak rfl rfl rfl hwx rfl rfl ?_
  repeat refine aa rfl ?_
  refine ak rfl rfl rfl m1 rfl rfl ?_
  repeat refine aa rfl ?_
  refine ak rfl rfl rfl a2 rfl rfl ?_
  repeat refine aa rfl ?_
  refine ah 9 [37,38,39,40,41,42,43,44,45] (by decide +kernel) ?_
  repeat refine aa rfl ?_
  refine ak rfl rfl rfl hwx rfl rfl ?_
  repeat refine aa rfl ?_
  refine ak rfl rfl rfl m2 rfl rfl ?_
  repeat refine aa rfl ?_
  refine ak rfl rfl rfl a3 rfl rfl ?_
  repeat refine aa rfl ?_
  refine⟨i+1,hlt,by omega,rfl,rfl,rfl,rfl,rfl,congrArg I hw,rfl,?_,trivial⟩
  show(_:Nat × Option Cont)=(1,some (Cont.mk 126 12 [eK (ofQ (ac κ (i+1))) (ofQ (ac C (i+1))) (ofQ (ac Pq (i+1)))] 2))
  rw[hK1,hC1,hP1]
  rfl
 ·have hie:i=l.length:=by have:=of_decide_eq_false h;omega
  clear h
  subst hie
  repeat refine aa rfl ?_
  exact aF rfl rfl rfl
theorem vq (a d:AR) {z t:Rat} {n m:Nat} {z' t':Rat} {n' m':Nat} [ha:Va a z t n m] [hd:Va d z' t' n' m'] (h1:n≤8000000) (h2:m≤8000000) (h3:n'≤8000000) (h4:m'≤8000000):Ret Tryz.prog .shared 76 [.agg (eA a),.agg (eA d)] (.agg (eA ⟨ofQ (z+z'),ofQ (t+t')⟩)):=by
 have a1:=et a.z d.z (hx:=ha.z) (hy:=hd.z) (by omega) (by omega)
 have a2:=et a.t d.t (hx:=ha.t) (hy:=hd.t) (by omega) (by omega)
 generalize ofQ (z+z')=X at *
 generalize ofQ (t+t')=Y at *
 obtain⟨az,at'⟩:=a
 obtain⟨dz,dt⟩:=d
 try simp only at *
 refine Ret.of_pwp layOk mixed Go.Proofs.Tryz.func76 rfl (by decide) rfl rfl ?_
 repeat refine aa rfl ?_
 refine ah 11 [5,6,7,8,9,10,11,12,13,14,15] (by decide +kernel) ?_
 repeat refine aa rfl ?_
 refine ak rfl rfl rfl a1 rfl rfl ?_
 repeat refine aa rfl ?_
 refine ak rfl rfl rfl a2 rfl rfl ?_
 repeat refine aa rfl ?_
 exact aF rfl rfl rfl
theorem bX {q:Rat} {n:Nat} (h:Vq (ofQ q) q n):HQ q n:=by
 refine⟨?_⟩
 obtain⟨_,h1,h2⟩:=h
 have e1:=bQ (ofQ q).n.l
 have e2:=bQ (ofQ q).d.l
 rw[show(ofQ q).n.l=aq q.num.natAbs from rfl]at e1 h1
 rw[show(ofQ q).d.l=aq q.den from rfl]at e2 h2
 rw[aD]at e1 e2
 exact⟨Nat.lt_of_lt_of_le e1 (cz h1),Nat.lt_of_lt_of_le e2 (cz h2)⟩
def iz (d:Option (Rat × Rat)):PV:=match d with
 |none => .tup [.agg (zN++zN),.bool false]
 |some d => .tup [.agg (eA ⟨ofQ d.1,ofQ d.2⟩),.bool true]
set_option maxRecDepth 20000 in
theorem wz (kh kc kp fo mo:RR) {η c p u v:Rat} {a b:Nat} (hh:Vq kh η a) (hc:Vq kc c a) (hp:Vq kp p a) (hu:Vq fo u b) (hv:Vq mo v b) (ha:a≤20000) (hb:b≤7000000) :
  Ret Tryz.prog .shared 73 [.agg (eK kh kc kp),.agg (eR fo),.agg (eR mo)] (iz (Bd.newt η c p u v)):=by
 have m1:=fR kh kp (hx:=hh) (hy:=hp) (by omega) (by omega)
 have m2:=fR kc kc (hx:=hc) (hy:=hc) (by omega) (by omega)
 have v1:Vq (ofQ (η*p)) (η*p) (a+1+(a+1)):=Vq.ofQ (h:=@HQ.mul _ _ (a+1) (a+1) hh.hq hp.hq)
 have v2:Vq (ofQ (c*c)) (c*c) (a+1+(a+1)):=Vq.ofQ (h:=@HQ.mul _ _ (a+1) (a+1) hc.hq hc.hq)
 have s1:=k7 (ofQ (η*p)) (ofQ (c*c)) (hx:=v1) (hy:=v2) (by omega) (by omega)
 have v3:Vq (ofQ (η*p-c*c)) (η*p-c*c) (a+1+(a+1)+(a+1+(a+1))+1):=Vq.ofQ (h:=@HQ.sub _ _ _ _ (bX v1) (bX v2))
 have sg:=nA (ofQ (η*p-c*c)) (hx:=v3) (by omega)
 have hs0:=fV (η*p-c*c)
 by_cases h0:η*p-c*c=0
 ·have hn:Bd.newt η c p u v=none:=by rw[Bd.newt,if_pos h0]
  rw[hn]
  have e0:=hs0.2 h0
  rw[e0]at sg
  generalize ofQ (η*p-c*c)=D at *
  generalize ofQ (η*p)=D1 at *
  generalize ofQ (c*c)=D2 at *
  clear hn
  refine Ret.of_pwp layOk mixed Go.Proofs.Tryz.func73 rfl (by decide) rfl rfl ?_
  repeat refine aa rfl ?_
  refine aU 11 1 [11,12,13,14,15,16,17,18,19,20,21,8] [] (by decide +kernel) rfl ?_
  repeat refine aa rfl ?_
  refine ak rfl rfl rfl m1 rfl rfl ?_
  repeat refine aa rfl ?_
  refine ak rfl rfl rfl m2 rfl rfl ?_
  repeat refine aa rfl ?_
  refine ak rfl rfl rfl s1 rfl rfl ?_
  repeat refine aa rfl ?_
  refine aP rfl rfl rfl sg rfl rfl rfl ?_
  repeat refine aa rfl ?_
  exact aF rfl rfl rfl
 ·have hn:Bd.newt η c p u v=some ((p*u-c*v)/(η*p-c*c),(η*v-c*u)/(η*p-c*c)):=by rw[Bd.newt,if_neg h0]
  rw[hn]
  have m3:=fR kp fo (hx:=hp) (hy:=hu) (by omega) (by omega)
  have m4:=fR kc mo (hx:=hc) (hy:=hv) (by omega) (by omega)
  have m5:=fR kh mo (hx:=hh) (hy:=hv) (by omega) (by omega)
  have m6:=fR kc fo (hx:=hc) (hy:=hu) (by omega) (by omega)
  have w3:Vq (ofQ (p*u)) (p*u) (a+1+(b+1)):=Vq.ofQ (h:=@HQ.mul _ _ (a+1) (b+1) hp.hq hu.hq)
  have w4:Vq (ofQ (c*v)) (c*v) (a+1+(b+1)):=Vq.ofQ (h:=@HQ.mul _ _ (a+1) (b+1) hc.hq hv.hq)
  have w5:Vq (ofQ (η*v)) (η*v) (a+1+(b+1)):=Vq.ofQ (h:=@HQ.mul _ _ (a+1) (b+1) hh.hq hv.hq)
  have w6:Vq (ofQ (c*u)) (c*u) (a+1+(b+1)):=Vq.ofQ (h:=@HQ.mul _ _ (a+1) (b+1) hc.hq hu.hq)
  have s2:=k7 (ofQ (p*u)) (ofQ (c*v)) (hx:=w3) (hy:=w4) (by omega) (by omega)
  have s3:=k7 (ofQ (η*v)) (ofQ (c*u)) (hx:=w5) (hy:=w6) (by omega) (by omega)
  have x2:Vq (ofQ (p*u-c*v)) (p*u-c*v) (a+1+(b+1)+(a+1+(b+1))+1):=Vq.ofQ (h:=@HQ.sub _ _ _ _ (bX w3) (bX w4))
  have x3:Vq (ofQ (η*v-c*u)) (η*v-c*u) (a+1+(b+1)+(a+1+(b+1))+1):=Vq.ofQ (h:=@HQ.sub _ _ _ _ (bX w5) (bX w6))
  have q2:=rJ (ofQ (p*u-c*v)) (ofQ (η*p-c*c)) (hx:=x2) (hy:=v3) (by omega) (by omega) h0
  have q3:=rJ (ofQ (η*v-c*u)) (ofQ (η*p-c*c)) (hx:=x3) (hy:=v3) (by omega) (by omega) h0
  have hsn:sgn (η*p-c*c)≠0:=fun e=>h0 (hs0.1 e)
  simp only[iz]
  generalize ofQ ((p*u-c*v)/(η*p-c*c))=R1 at *
  generalize ofQ ((η*v-c*u)/(η*p-c*c))=R2 at *
  generalize sgn (η*p-c*c)=gs at *
  generalize ofQ (η*p-c*c)=D at *
  generalize ofQ (η*p)=D1 at *
  generalize ofQ (c*c)=D2 at *
  generalize ofQ (p*u-c*v)=D3 at *
  generalize ofQ (η*v-c*u)=D4 at *
  generalize ofQ (p*u)=D5 at *
  generalize ofQ (c*v)=D6 at *
  generalize ofQ (η*v)=D7 at *
  generalize ofQ (c*u)=D8 at *
  clear hn
  refine Ret.of_pwp layOk mixed Go.Proofs.Tryz.func73 rfl (by decide) rfl rfl ?_
  repeat refine aa rfl ?_
  refine aU 11 1 [11,12,13,14,15,16,17,18,19,20,21,8] [] (by decide +kernel) rfl ?_
  repeat refine aa rfl ?_
  refine ak rfl rfl rfl m1 rfl rfl ?_
  repeat refine aa rfl ?_
  refine ak rfl rfl rfl m2 rfl rfl ?_
  repeat refine aa rfl ?_
  refine ak rfl rfl rfl s1 rfl rfl ?_
  repeat refine aa rfl ?_
  refine aP rfl rfl rfl sg rfl rfl rfl ?_
  repeat refine aa rfl ?_
  refine ab rfl ?_ ?_<;>intro h
  ·exact absurd (of_decide_eq_true h) hsn
  clear h
  repeat refine aa rfl ?_
  refine aU 9 1 [26,27,28,29,30,31,32,33,34,9] [] (by decide +kernel) rfl ?_
  repeat refine aa rfl ?_
  refine ak rfl rfl rfl m3 rfl rfl ?_
  repeat refine aa rfl ?_
  refine ak rfl rfl rfl m4 rfl rfl ?_
  repeat refine aa rfl ?_
  refine ak rfl rfl rfl s2 rfl rfl ?_
  repeat refine aa rfl ?_
  refine aU 9 1 [35,36,37,38,39,40,41,42,43,10] [] (by decide +kernel) rfl ?_
  repeat refine aa rfl ?_
  refine ak rfl rfl rfl m5 rfl rfl ?_
  repeat refine aa rfl ?_
  refine ak rfl rfl rfl m6 rfl rfl ?_
  repeat refine aa rfl ?_
  refine ak rfl rfl rfl s3 rfl rfl ?_
  repeat refine aa rfl ?_
  refine ah 7 [44,45,46,47,48,49,50] (by decide +kernel) ?_
  repeat refine aa rfl ?_
  refine ak rfl rfl rfl q2 rfl rfl ?_
  repeat refine aa rfl ?_
  refine ak rfl rfl rfl q3 rfl rfl ?_
  repeat refine aa rfl ?_
  exact aF rfl rfl rfl
def fO (S M:Nat→Rat) (k:Nat):Rat:=M k*(S (k+1)-S k)
theorem rI (S M:Nat→Rat):∀m,gc S M (m+1)=M m*S m-ac (fO S M) m
 |0=>by rw[gc,ac,ac,ac,aI];grind
 |m+1=>by
  have:=rI S M m
  rw[gc]at this ⊢
  rw[ac,this,ac,aI,fO];grind
theorem uj {S M:Nat→Rat} {n:Nat} (h:aI M n=0):kI n S M=ac (fO S M) (n-1):=by
 cases n with
 |zero=>rw[kI,gc,ac,ac];grind
 |succ m =>
  rw[aI]at h
  rw[kI,rI,h,show m+1-1=m by omega];grind
def A_ (c:CR):PV:=if aI c.m c.S.length=0 then .tup [.agg (eR (ofQ (kI c.S.length c.s c.m))),.bool true,I 0] else .tup [.agg zN,.bool false,I 0]
theorem pt {c:CR} (hc:c.Lim) (k:Nat):HQ (fO c.s c.m k) (13+(4+4+1)):=by
 have h1:=km hc k
 have h2:=km hc (k+1)
 have z1:Zb (c.S.getD k 0):=aE h1.1 h1.2
 have z2:Zb (c.S.getD (k+1) 0):=aE h2.1 h2.2
 exact @HQ.mul _ _ 13 9 (pQ c hc k).hq (@HQ.sub _ _ 4 4 HQ.int HQ.int)
set_option maxRecDepth 20000 in
theorem pw (c:CR) (hc:c.Lim) (h0:br c=0):Ret Tryz.prog .shared 120 [.agg (eC c)] (A_ c):=by
 have hcc:=dL c hc
 rw[h0]at hcc
 obtain⟨h40,hSM,hrange,-⟩:=bP h0
 have hz:=d5 0 (by decide) (by decide)
 rw[show(((0:Int):Rat))=0 from rfl]at hz
 have hSl:(c.S.map eN).length=c.S.length:=by simp
 generalize hR:A_ c=R
 rw[A_]at hR
 refine Ret.of_pwp layOk mixed Go.Proofs.Tryz.func120 rfl (by decide) rfl rfl ?_
 repeat refine aa rfl ?_
 refine aP rfl rfl rfl hcc rfl rfl rfl ?_
 repeat refine aa rfl ?_
 refine ak rfl rfl rfl hz rfl rfl ?_
 repeat refine aa rfl ?_
 refine am (fun i:Nat=>i≤c.S.length∧(i=c.S.length→aI c.m c.S.length=0)) (fun i=>[(1,.ptr 1 1 0 0),(2,.ptr 2 1 0 0),(6,.ptr 6 1 0 0),(17,.sl (c.S.map eN)),(18,I c.S.length),(19,I (i:Nat))])
  (fun i=>[(1,1,⟨69,2,[eC c],2⟩),(2,1,⟨26,4,[zN],2⟩),(6,1,⟨26,4,[eR (ofQ (ac (fO c.s c.m) (min i (c.S.length-1))))],2⟩)]) (fun i=>c.S.length-i) 0 ⟨Nat.zero_le _,fun h=>by rw[←h];rfl⟩ ⟨rfl,rfl,rfl,rfl,by rw[←hSl];rfl,rfl,rfl,rfl,?_,trivial⟩ ?_
 ·show(_:Nat × Option Cont)=(1,some (Cont.mk 26 4 [eR (ofQ (ac (fO c.s c.m) (min 0 (c.S.length-1))))] 2))
  rw[Nat.zero_min]
  rfl
 intro i s ⟨hi,hlast⟩
 repeat refine aa rfl ?_
 refine ab rfl ?_ ?_<;>intro h
 ·have hlt:i<c.S.length:=by have:=of_decide_eq_true h;omega
  clear h
  have hx:=aC (d:=0) hlt
  have hmx:=aC (l:=c.M) (i:=i) (d:=RR.zero) (by omega)
  have hw:=gz i
  by_cases hn:i+1<c.S.length
  ·have hy:=aC (d:=0) hn
   have r1:=(hrange i hlt)
   have r2:=(hrange (i+1) hn)
   have hd:IntKind.i64.wrap (c.S.getD (i+1) 0-c.S.getD i 0)=c.S.getD (i+1) 0-c.S.getD i 0:=wrap_i64 (by omega) (by omega)
   have hnum:=d5 (c.S.getD (i+1) 0-c.S.getD i 0) (by omega) (by omega)
   have ed:((c.S.getD (i+1) 0-c.S.getD i 0:Int):Rat)=c.s (i+1)-c.s i:=by rw[CR.s,CR.s];push_cast;rfl
   rw[ed]at hnum
   have z1:Zb (c.S.getD i 0):=aE (by omega) (by omega)
   have z2:Zb (c.S.getD (i+1) 0):=aE (by omega) (by omega)
   have v1:Vq (ofQ (c.s (i+1)-c.s i)) (c.s (i+1)-c.s i) 9:=Vq.ofQ (h:=@HQ.sub _ _ 4 4 HQ.int HQ.int)
   have m1:=fR (c.M.getD i RR.zero) (ofQ (c.s (i+1)-c.s i)) (hx:=pQ c hc i) (hy:=v1) (by decide) (by decide)
   have v2:Vq (ofQ (ac (fO c.s c.m) i)) (ac (fO c.s c.m) i) (i*(13+(4+4+1)+1)+4):=Vq.ofQ (h:=aK i fun k _=>pt hc k)
   have v3:Vq (ofQ (fO c.s c.m i)) (fO c.s c.m i) (13+(4+4+1)):=Vq.ofQ (h:=pt hc i)
   rw[show c.m i*(c.s (i+1)-c.s i)=fO c.s c.m i from rfl]at m1
   have a1:=et (ofQ (ac (fO c.s c.m) i)) (ofQ (fO c.s c.m i)) (hx:=v2) (hy:=v3) (by omega) (by decide)
   rw[show ac (fO c.s c.m) i+fO c.s c.m i=ac (fO c.s c.m) (i+1) from rfl]at a1
   rw[show min i (c.S.length-1)=i by omega]
   generalize ofQ (ac (fO c.s c.m) i)=K0 at *
   generalize hK1:ofQ (ac (fO c.s c.m) (i+1))=K1 at *
   generalize ofQ (fO c.s c.m i)=T0 at *
   generalize ofQ (c.s (i+1)-c.s i)=D0 at *
   repeat refine aa rfl ?_
   refine aZ rfl rfl rfl rfl rfl rfl rfl hx rfl ?_
   repeat refine aa rfl ?_
   rw[hw]
   refine ab rfl ?_ ?_<;>intro h
   ·clear h
    repeat refine aa rfl ?_
    refine ah 17 [30,31,32,33,34,35,36,37,38,39,40,41,42,43,44,45,46] (by decide +kernel) ?_
    repeat refine aa rfl ?_
    refine aZ rfl rfl rfl rfl rfl rfl rfl hmx rfl ?_
    repeat refine aa rfl ?_
    rw[hw]
    refine aZ rfl rfl rfl rfl rfl rfl rfl hy rfl ?_
    repeat refine aa rfl ?_
    rw[hd]
    refine ak rfl rfl rfl hnum rfl rfl ?_
    repeat refine aa rfl ?_
    refine ak rfl rfl rfl m1 rfl rfl ?_
    repeat refine aa rfl ?_
    refine ak rfl rfl rfl a1 rfl rfl ?_
    repeat refine aa rfl ?_
    refine⟨i+1,⟨by omega,fun h=>by omega⟩,by omega,rfl,rfl,rfl,rfl,rfl,congrArg I hw,rfl,rfl,?_,trivial⟩
    show(_:Nat × Option Cont)=(1,some (Cont.mk 26 4 [eR (ofQ (ac (fO c.s c.m) (min (i+1) (c.S.length-1))))] 2))
    rw[show min (i+1) (c.S.length-1)=i+1 by omega,hK1]
    rfl
   ·have:=of_decide_eq_false h
    exfalso
    omega
  ·have hie:i+1=c.S.length:=by omega
   have hiz:=uA (c.M.getD i RR.zero) (hx:=pQ c hc i) (by decide)
   have hbf:aI c.m c.S.length=c.m i:=by rw[←hie];rfl
   rw[show min i (c.S.length-1)=i by omega]
   by_cases hm:c.m i=0
   ·rw[decide_eq_true hm]at hiz
    repeat refine aa rfl ?_
    refine aZ rfl rfl rfl rfl rfl rfl rfl hx rfl ?_
    repeat refine aa rfl ?_
    rw[hw]
    refine ab rfl ?_ ?_<;>intro h
    ·have:=of_decide_eq_true h
     exfalso
     omega
    ·clear h
     repeat refine aa rfl ?_
     refine aZ rfl rfl rfl rfl rfl rfl rfl hmx rfl ?_
     repeat refine aa rfl ?_
     refine aP rfl rfl rfl hiz rfl rfl rfl ?_
     repeat refine aa rfl ?_
     refine⟨i+1,⟨by omega,fun _=>by rw[hbf];exact hm⟩,by omega,rfl,rfl,rfl,rfl,rfl,congrArg I hw,rfl,rfl,?_,trivial⟩
     show(_:Nat × Option Cont)=(1,some (Cont.mk 26 4 [eR (ofQ (ac (fO c.s c.m) (min (i+1) (c.S.length-1))))] 2))
     rw[show min (i+1) (c.S.length-1)=i by omega]
     rfl
   ·rw[decide_eq_false hm]at hiz
    rw[if_neg (by rw[hbf];exact hm)]at hR
    subst hR
    repeat refine aa rfl ?_
    refine aZ rfl rfl rfl rfl rfl rfl rfl hx rfl ?_
    repeat refine aa rfl ?_
    rw[hw]
    refine ab rfl ?_ ?_<;>intro h
    ·have:=of_decide_eq_true h
     exfalso
     omega
    ·clear h
     repeat refine aa rfl ?_
     refine aZ rfl rfl rfl rfl rfl rfl rfl hmx rfl ?_
     repeat refine aa rfl ?_
     refine aP rfl rfl rfl hiz rfl rfl rfl ?_
     repeat refine aa rfl ?_
     exact aF rfl rfl rfl
 ·have hie:i=c.S.length:=by have:=of_decide_eq_false h;omega
  clear h
  have hb:=hlast hie
  rw[if_pos hb,uj hb]at hR
  subst hR
  rw[show min i (c.S.length-1)=c.S.length-1 by omega]
  repeat refine aa rfl ?_
  exact aF rfl rfl rfl
theorem sS (w:Int) (hw:i64 w) (x:RR) (r:AR) {p A B:Rat} {k n m:Nat} (hx:Vq x p k) (hr:Va r A B n m) (h1:k≤1000000) (h2:n≤1000000) (h3:m≤1000000):Ret Tryz.prog .shared 59 [I w,.agg (eR x),.agg (eA r)] (.agg (eR (ofQ ((w:Rat)*(A+B*p))))):=by
 have zw:Zb w:=aE hw.1 hw.2
 have d1:=a8 w hw
 have d2:=fR r.t x (hx:=hr.t) (hy:=hx) (by omega) (by omega)
 have v2:Vq (ofQ (B*p)) (B*p) (m+1+(k+1)):=Vq.ofQ (h:=@HQ.mul _ _ (m+1) (k+1) hr.t.hq hx.hq)
 have d3:=et r.z (ofQ (B*p)) (hx:=hr.z) (hy:=v2) (by omega) (by omega)
 have v3:Vq (ofQ (A+B*p)) (A+B*p) (n+1+(m+1+(k+1))+1):=Vq.ofQ (h:=@HQ.add _ _ (n+1) _ hr.z.hq (bX v2))
 have d4:=fR (ofQ (w:Rat)) (ofQ (A+B*p)) (hy:=v3) (by decide) (by omega)
 generalize ofQ ((w:Rat)*(A+B*p))=X4 at *
 generalize ofQ (A+B*p)=X3 at *
 generalize ofQ (B*p)=X2 at *
 generalize ofQ (w:Rat)=X1 at *
 obtain⟨az,at'⟩:=r
 try simp only at *
 refine Ret.of_pwp layOk mixed Go.Proofs.Tryz.func59 rfl (by decide) rfl rfl ?_
 repeat refine aa rfl ?_
 refine ah 10 [7,8,9,10,11,12,13,14,15,16] (by decide +kernel) ?_
 repeat refine aa rfl ?_
 refine ak rfl rfl rfl d1 rfl rfl ?_
 repeat refine aa rfl ?_
 refine ak rfl rfl rfl d2 rfl rfl ?_
 repeat refine aa rfl ?_
 refine ak rfl rfl rfl d3 rfl rfl ?_
 repeat refine aa rfl ?_
 refine ak rfl rfl rfl d4 rfl rfl ?_
 repeat refine aa rfl ?_
 exact aF rfl rfl rfl
def dI (l:List SR) (A B:Rat) (i:Nat):Rat:=A+B*xI l i
def cI (l:List SR) (i:Nat):Rat:=kI (l.getD i dS).k.S.length (l.getD i dS).k.s (l.getD i dS).k.m
def Bw (l:List SR) (i:Nat):Prop:=aI (l.getD i dS).k.m (l.getD i dS).k.S.length=0
def yT (l:List SR) (A B:Rat) (i:Nat):Rat:=if 0<A+B*xI l i then cI l i*(A+B*xI l i) else 0
def di (l:List SR) (A B:Rat) (n:Nat):Prop:=∀i,i<n→0<A+B*xI l i→Bw l i
noncomputable def Cl (l:List SR) (A B:Rat):PV:=@ite _ (di l A B l.length) (Classical.propDecidable _) (.tup [.agg (eR (ofQ (ac (yT l A B) l.length))),.bool true]) (.tup [.agg zN,.bool false])
theorem yk {c:CR} (hc:c.Lim) (h8:c.S.length≤8) (h0:aI c.m c.S.length=0):HQ (kI c.S.length c.s c.m) 200:=by
 rw[uj h0]
 exact(aK (c.S.length-1) fun k _=>pt hc k).mono (by omega)
theorem vf {l:List SR} (hl:eJ l) (hf:kF l) {A B:Rat} {n m:Nat} (hA:HQ A n) (hB:HQ B m) {i:Nat} (hi:i<l.length) (ha:0<A+B*xI l i→Bw l i):HQ (yT l A B i) (200+(n+(m+4)+1)):=by
 rw[yT]
 split
 ·rename_i h
  have hx:=(hl.1 _ (aB hi)).x
  have hx:Zb (l.getD i dS).x:=aE hx.1 hx.2
  exact @HQ.mul _ _ 200 (n+(m+4)+1) (yk (hl.1 _ (aB hi)).k (hf.2 _ (aB hi)) (ha h)) (@HQ.add _ _ n (m+4) hA (@HQ.mul _ _ m 4 hB HQ.int))
 ·exact HQ.zero.mono (by omega)
set_option maxRecDepth 20000 in
theorem xH (l:List SR) (hl:eJ l) (hf:kF l) (hck:bD l=0) (r:AR) {A B:Rat} {n m:Nat} (hr:Va r A B n m) (h2:n≤100000) (h3:m≤100000):Ret Tryz.prog .shared 58 [.sl (l.map eS),.agg (eA r)] (Cl l A B):=by
 have hw0:=a8 0 ⟨by decide,by decide⟩
 rw[show(((0:Int):Rat))=0 from rfl]at hw0
 have hml:(l.map eS).length=l.length:=by simp
 have hz:=hr.z.hq
 have ht:=hr.t.hq
 have h12:=hf.1
 generalize hR:Cl l A B=R
 rw[Cl]at hR
 obtain⟨rz,rt⟩:=r
 have hrz:=hr.z
 have hrt:=hr.t
 simp only at hrz hrt
 refine Ret.of_pwp layOk mixed Go.Proofs.Tryz.func58 rfl (by decide) rfl rfl ?_
 repeat refine aa rfl ?_
 refine ak rfl rfl rfl hw0 rfl rfl ?_
 repeat refine aa rfl ?_
 refine am (fun i:Nat=>i≤l.length∧di l A B i) (fun i=>[(3,.ptr 3 1 0 0),(4,.ptr 4 1 0 0),(6,.ptr 6 1 0 0),(14,.sl (l.map eS)),(15,I l.length),(16,I (i:Nat))])
  (fun i=>[(3,1,⟨38,8,[eA ⟨rz,rt⟩],2⟩),(4,1,⟨26,4,[zN],2⟩),(6,1,⟨26,4,[eR (ofQ (ac (yT l A B) i))],2⟩)]) (fun i=>l.length-i) 0 ⟨Nat.zero_le _,fun i hi=>by omega⟩ ⟨rfl,rfl,rfl,rfl,by rw[←hml];rfl,rfl,rfl,rfl,rfl,trivial⟩ ?_
 intro i s ⟨hi,hall⟩
 repeat refine aa rfl ?_
 refine ab rfl ?_ ?_<;>intro h
 ·have hlt:i<l.length:=by have:=of_decide_eq_true h;omega
  clear h
  have hx:=aC (d:=dS) hlt
  have hsl:=hl.1 _ (aB hlt)
  have h8:=hf.2 _ (aB hlt)
  have hkc:=bu hck _ (aB hlt)
  have hxx:=hsl.x
  have hzb:Zb (l.getD i dS).x:=aE hxx.1 hxx.2
  have hw:=gz i
  have e1:=a8 (l.getD i dS).x hxx
  rw[show((l.getD i dS).x:Rat)=xI l i from rfl]at e1
  have vx:Vq (ofQ (xI l i)) (xI l i) 4:=Vq.ofQ (h:=HQ.int)
  have e2:=fR rt (ofQ (xI l i)) (hx:=hrt) (hy:=vx) (by omega) (by decide)
  have v2:Vq (ofQ (B*xI l i)) (B*xI l i) (m+1+4):=Vq.ofQ (h:=@HQ.mul _ _ (m+1) 4 ht HQ.int)
  have e3:=et rz (ofQ (B*xI l i)) (hx:=hrz) (hy:=v2) (by omega) (by omega)
  have v3:Vq (ofQ (A+B*xI l i)) (A+B*xI l i) (n+1+(m+1+4)+1):=Vq.ofQ (h:=@HQ.add _ _ (n+1) _ hz (bX v2))
  have e4:=nA (ofQ (A+B*xI l i)) (hx:=v3) (by omega)
  have hsg:=tP (A+B*xI l i)
  by_cases hd:0<A+B*xI l i
  ·have hsn:¬sgn (A+B*xI l i)≤0:=fun h=>by have:=hsg.1 h;grind
   have e5:=pw (l.getD i dS).k hsl.k hkc
   rw[A_]at e5
   generalize sgn (A+B*xI l i)=g at *
   by_cases hlim:Bw l i
   ·rw[if_pos (show aI (l.getD i dS).k.m (l.getD i dS).k.S.length=0 from hlim)]at e5
    have hcl:=yk hsl.k h8 hlim
    rw[show kI (l.getD i dS).k.S.length (l.getD i dS).k.s (l.getD i dS).k.m=cI l i from rfl]at e5 hcl
    have vc:Vq (ofQ (cI l i)) (cI l i) 200:=Vq.ofQ (h:=hcl)
    have e6:=fR (ofQ (cI l i)) (ofQ (A+B*xI l i)) (hx:=vc) (hy:=v3) (by decide) (by omega)
    have hall':di l A B (i+1):=fun j hj hp=>by
     by_cases hje:j=i
     ·subst hje;exact hlim
     ·exact hall j (by omega) hp
    have v6:Vq (ofQ (cI l i*(A+B*xI l i))) (cI l i*(A+B*xI l i)) (200+(n+1+(m+1+4)+1)):=Vq.ofQ (h:=@HQ.mul _ _ 200 _ hcl (bX v3))
    have v7:Vq (ofQ (ac (yT l A B) i)) (ac (yT l A B) i) (i*(200+(n+1+(m+1+4)+1)+1)+4):=Vq.ofQ (h:=aK i fun k hk=>vf hl hf hz ht (by omega) (hall k hk))
    have e7:=et (ofQ (ac (yT l A B) i)) (ofQ (cI l i*(A+B*xI l i))) (hx:=v7) (hy:=v6) (by have:=Nat.mul_le_mul (show i≤12 by omega) (show 200+(n+1+(m+1+4)+1)+1≤200208 by omega);omega) (by omega)
    rw[show ac (yT l A B) i+cI l i*(A+B*xI l i)=ac (yT l A B) (i+1) by rw[ac,yT,if_pos hd]]at e7
    generalize ofQ (ac (yT l A B) i)=K0 at *
    generalize hK1:ofQ (ac (yT l A B) (i+1))=K1 at *
    generalize ofQ (cI l i*(A+B*xI l i))=P0 at *
    generalize ofQ (cI l i)=C0 at *
    generalize ofQ (A+B*xI l i)=D0 at *
    generalize ofQ (B*xI l i)=D1 at *
    generalize ofQ (xI l i)=D2 at *
    repeat refine aa rfl ?_
    refine aZ rfl rfl rfl rfl rfl rfl rfl hx rfl ?_
    (repeat ((fail_if_success (with_reducible refine aT 5 ?_));refine dh rfl ?_))
    refine ay (fE 9) ?_
    refine aU 9 1 [20,21,22,23,24,25,26,27,28,9] [] (by decide +kernel) rfl ?_
    repeat refine aa rfl ?_
    refine ak rfl rfl rfl e1 rfl rfl ?_
    repeat refine aa rfl ?_
    refine ak rfl rfl rfl e2 rfl rfl ?_
    repeat refine aa rfl ?_
    refine ak rfl rfl rfl e3 rfl rfl ?_
    repeat refine aa rfl ?_
    refine aP rfl rfl rfl e4 rfl rfl rfl ?_
    repeat refine aa rfl ?_
    refine ab rfl ?_ ?_<;>intro h
    ·exact absurd (of_decide_eq_true h) hsn
    clear h
    repeat refine aa rfl ?_
    refine ak rfl rfl rfl e5 rfl rfl ?_
    repeat refine aa rfl ?_
    refine ah 5 [42,43,44,45,46] (by decide +kernel) ?_
    repeat refine aa rfl ?_
    refine ak rfl rfl rfl e6 rfl rfl ?_
    repeat refine aa rfl ?_
    refine ak rfl rfl rfl e7 rfl rfl ?_
    repeat refine aa rfl ?_
    refine⟨i+1,⟨by omega,hall'⟩,by omega,rfl,rfl,rfl,rfl,rfl,congrArg I hw,rfl,rfl,?_,trivial⟩
    show(_:Nat × Option Cont)=(1,some (Cont.mk 26 4 [eR (ofQ (ac (yT l A B) (i+1)))] 2))
    rw[hK1]
    rfl
   ·rw[if_neg (show ¬aI (l.getD i dS).k.m (l.getD i dS).k.S.length=0 from hlim)]at e5
    rw[if_neg (fun h=>hlim (h i hlt hd))]at hR
    subst hR
    generalize ofQ (A+B*xI l i)=D0 at *
    generalize ofQ (B*xI l i)=D1 at *
    generalize ofQ (xI l i)=D2 at *
    repeat refine aa rfl ?_
    refine aZ rfl rfl rfl rfl rfl rfl rfl hx rfl ?_
    (repeat ((fail_if_success (with_reducible refine aT 5 ?_));refine dh rfl ?_))
    refine ay (fE 9) ?_
    refine aU 9 1 [20,21,22,23,24,25,26,27,28,9] [] (by decide +kernel) rfl ?_
    repeat refine aa rfl ?_
    refine ak rfl rfl rfl e1 rfl rfl ?_
    repeat refine aa rfl ?_
    refine ak rfl rfl rfl e2 rfl rfl ?_
    repeat refine aa rfl ?_
    refine ak rfl rfl rfl e3 rfl rfl ?_
    repeat refine aa rfl ?_
    refine aP rfl rfl rfl e4 rfl rfl rfl ?_
    repeat refine aa rfl ?_
    refine ab rfl ?_ ?_<;>intro h
    ·exact absurd (of_decide_eq_true h) hsn
    clear h
    repeat refine aa rfl ?_
    refine ak rfl rfl rfl e5 rfl rfl ?_
    repeat refine aa rfl ?_
    exact aF rfl rfl rfl
  ·have hsn:sgn (A+B*xI l i)≤0:=hsg.2 (by grind)
   have hall':di l A B (i+1):=fun j hj hp=>by
    by_cases hje:j=i
    ·subst hje;exact absurd hp hd
    ·exact hall j (by omega) hp
   have hsum:ac (yT l A B) (i+1)=ac (yT l A B) i:=by rw[ac,yT,if_neg hd];grind
   generalize sgn (A+B*xI l i)=g at *
   generalize ofQ (A+B*xI l i)=D0 at *
   generalize ofQ (B*xI l i)=D1 at *
   generalize ofQ (xI l i)=D2 at *
   repeat refine aa rfl ?_
   refine aZ rfl rfl rfl rfl rfl rfl rfl hx rfl ?_
   (repeat ((fail_if_success (with_reducible refine aT 5 ?_));refine dh rfl ?_))
   refine ay (fE 9) ?_
   refine aU 9 1 [20,21,22,23,24,25,26,27,28,9] [] (by decide +kernel) rfl ?_
   repeat refine aa rfl ?_
   refine ak rfl rfl rfl e1 rfl rfl ?_
   repeat refine aa rfl ?_
   refine ak rfl rfl rfl e2 rfl rfl ?_
   repeat refine aa rfl ?_
   refine ak rfl rfl rfl e3 rfl rfl ?_
   repeat refine aa rfl ?_
   refine aP rfl rfl rfl e4 rfl rfl rfl ?_
   repeat refine aa rfl ?_
   refine ab rfl ?_ ?_<;>intro h
   ·clear h
    repeat refine aa rfl ?_
    refine⟨i+1,⟨by omega,hall'⟩,by omega,rfl,rfl,rfl,rfl,rfl,congrArg I hw,rfl,rfl,?_,trivial⟩
    show(_:Nat × Option Cont)=(1,some (Cont.mk 26 4 [eR (ofQ (ac (yT l A B) (i+1)))] 2))
    rw[hsum]
    rfl
   ·exact absurd hsn (of_decide_eq_false h)
 ·have hie:i=l.length:=by have:=of_decide_eq_false h;omega
  clear h
  subst hie
  rw[if_pos hall]at hR
  subst hR
  repeat refine aa rfl ?_
  exact aF rfl rfl rfl
noncomputable def fT (b:BR) (A B:Rat):Bool:=@decide (di b.l A B b.l.length∧ac (yT b.l A B) b.l.length<(b.w:Rat)*(A+B*b.a.val)) (Classical.propDecidable _)
set_option maxRecDepth 20000 in
theorem lC (b:BR) (hb:b.Ok) (r:AR) {A B:Rat} {n m:Nat} (hr:Va r A B n m) (h2:n≤90000) (h3:m≤90000):Ret Tryz.prog .shared 96 [.agg (eB b),.agg (eA r)] (.bool (fT b A B)):=by
 have h1:=xH b.l hb.lim.l hb.few hb.chkL r hr (by omega) (by omega)
 have zw:Zb b.w:=aE hb.lim.w.1 hb.lim.w.2
 have hd:=sS b.w hb.lim.w b.a r hb.lim.a.v hr (by decide) (by omega) (by omega)
 have vd:Vq (ofQ ((b.w:Rat)*(A+B*b.a.val))) ((b.w:Rat)*(A+B*b.a.val)) (4+(n+1+(m+1+13)+1)):=Vq.ofQ (h:=@HQ.mul _ _ 4 _ HQ.int (@HQ.add _ _ (n+1) _ hr.z.hq (@HQ.mul _ _ (m+1) 13 hr.t.hq hb.lim.a.v.hq)))
 rw[Cl]at h1
 by_cases hall:di b.l A B b.l.length
 ·rw[if_pos hall]at h1
  have h12:=hb.few.1
  have hs:=aK (m:=200+(n+1+(m+1+4)+1)) b.l.length fun k hk=>vf hb.lim.l hb.few hr.z.hq hr.t.hq hk (hall k hk)
  have vs:Vq (ofQ (ac (yT b.l A B) b.l.length)) (ac (yT b.l A B) b.l.length) (b.l.length*(200+(n+1+(m+1+4)+1)+1)+4):=Vq.ofQ (h:=hs)
  have hc:=pz (ofQ (ac (yT b.l A B) b.l.length)) (ofQ ((b.w:Rat)*(A+B*b.a.val))) (hx:=vs) (hy:=vd) (by have:=Nat.mul_le_mul (show b.l.length≤12 by omega) (show 200+(n+1+(m+1+4)+1)+1≤180210 by omega);omega) (by omega)
  have hsl:=eE (ac (yT b.l A B) b.l.length-(b.w:Rat)*(A+B*b.a.val))
  have key:fT b A B=decide (sgn (ac (yT b.l A B) b.l.length-(b.w:Rat)*(A+B*b.a.val))<0):=by
   rw[fT,decide_eq_decide,hsl]
   constructor
   ·intro h;have:=h.2;grind
   ·intro h;exact⟨hall,by grind⟩
  rw[key]
  generalize sgn (ac (yT b.l A B) b.l.length-(b.w:Rat)*(A+B*b.a.val))=g at *
  generalize ofQ (ac (yT b.l A B) b.l.length)=S at *
  generalize ofQ ((b.w:Rat)*(A+B*b.a.val))=D at *
  obtain⟨w,ba,l⟩:=b
  obtain⟨rz,rt⟩:=r
  try simp only at *
  refine Ret.of_pwp layOk mixed Go.Proofs.Tryz.func96 rfl (by decide) rfl rfl ?_
  repeat refine aa rfl ?_
  refine ak rfl rfl rfl h1 rfl rfl ?_
  repeat refine aa rfl ?_
  refine ah 13 [14,15,16,17,18,19,20,21,22,23,24,25,4] (by decide +kernel) ?_
  repeat refine aa rfl ?_
  refine ak rfl rfl rfl hd rfl rfl ?_
  repeat refine aa rfl ?_
  refine aP rfl rfl rfl hc rfl rfl rfl ?_
  repeat refine aa rfl ?_
  exact bi rfl rfl rfl
 ·rw[if_neg hall]at h1
  have key:fT b A B=false:=by
   unfold fT
   exact @decide_eq_false _ (Classical.propDecidable _) (fun h=>hall h.1)
  rw[key]
  clear hd vd
  obtain⟨w,ba,l⟩:=b
  obtain⟨rz,rt⟩:=r
  try simp only at *
  refine Ret.of_pwp layOk mixed Go.Proofs.Tryz.func96 rfl (by decide) rfl rfl ?_
  repeat refine aa rfl ?_
  refine ak rfl rfl rfl h1 rfl rfl ?_
  repeat refine aa rfl ?_
  refine ah 13 [14,15,16,17,18,19,20,21,22,23,24,25,4] (by decide +kernel) ?_
  repeat refine aa rfl ?_
  exact bi rfl rfl rfl
end Go.Pv
namespace Go.Pv
open Go.RowKit Go.Sort
section
variable {P:Program} {L:Lay} {C:Ctx} {γ:Nat→Option Nat} {s:St} {a:Act} {w w':World}
structure Chg (w w':World) (b:Nat) (T:TypeId) (cur:Array Value):Prop where
 os:w'.os=w.os
 tape:w'.tape=w.tape
 output:w'.output=w.output
 size:w.heap.size≤w'.heap.size
 other:∀b',b'≠b→b'<w.heap.size→w'.heap[b']? = w.heap[b']?
 at_:w'.heap[b]? = some (.cells cur T (0,0))
theorem Ba (h:Sim C γ s a w) {k g b:Nat} {c c':Cont} {cur cur':Array Value} (ho:s.own k=(g,some c)) (hb:γ k=some b) (hh:w.heap[b]? = some (.cells cur c.ty (0,0))) (hsz:cur'.size=cur.size)
  (hc:Chg w w' b c.ty cur') (h1:c'.ty=c.ty) (h2:c'.sz=c.sz) (h3:c.rows.length≤c'.rows.length) (hs:SiteOk (ag C γ (s.setOwn k g (some c')) (w.setRow b cur')) (some b) c'):Sim C γ (s.setOwn k g (some c')) a w':=by
 refine(o7 h ho hb hh hsz h1 h2 h3 hs).ext ⟨hc.os,hc.tape,hc.output,by simpa using hc.size,fun b' hb'=>?_⟩
 have hb'':b'<w.heap.size:=by simpa using hb'
 by_cases he:b'=b
 ·subst he
  rw[hc.at_,setRow_heap w b' cur cur' c.ty (0,0) hh]
 ·rw[hc.other b' he hb'',setRow_other w b b' cur' he]
theorem um {α:Type} [Inhabited α] {e:α→Value} {q b:Nat} {d':Array α} {os:Array Obj} {T:TypeId} {cur:Array Value} (hh:w.heap[b]? = some (.cells cur T (0,0))) (hw:w'=grow (putRow e (Sort.ahead w q) b 0 d') os):Chg w w' b T (putCells e 0 d' cur):=by
 have hlt:b<w.heap.size:=(Array.getElem?_eq_some_iff.1 hh).1
 subst hw
 refine⟨rfl,rfl,rfl,by simp,fun b' hne hb'=>?_,?_⟩
 ·rw[heap_grow_old _ _ (by simpa using hb')]
  show(w.heap.modify b _)[b']? = _
  rw[Array.getElem?_modify,if_neg (Ne.symm hne)]
 ·rw[heap_grow_old _ _ (by simpa using hlt)]
  show(w.heap.modify b _)[b]? = _
  rw[Array.getElem?_modify,if_pos rfl,hh]
  rfl
theorem jb {α:Type} [Inhabited α] (e:α→Value) (off:Nat) (d:Array α) (c:Array Value):(putCells e off d c).size=c.size:=by simp[putCells]
theorem jc {α:Type} [Inhabited α] (e:α→Value) (d:Array α) (c:Array Value) (h:d.size≤c.size):(putCells e 0 d c).toList.take d.size=d.toList.map e:=by
 apply List.ext_getElem
 ·simp[putCells];omega
 intro i h1 h2
 have hi:i<d.size:=by simpa using h2
 simp[putCells,hi]
theorem tq {E:Env} {k:Nat} {c:PV} (h:gN c=true):KRep E k c (scv c):=by
 match k with
 |0=>exact(d8 h _ _).1
 |1=>exact(d8 h _ _).1
 |_+2=>exact .d (d8 h _ _).1
def gX {α:Type} (enc:α→List PV) (l:List α):List Value:=l.flatMap fun x=>(enc x).map scv
theorem vV {α:Type} {enc:α→List PV} {sz:Nat} (h:∀x,(enc x).length=sz) (l:List α):(gX enc l).length=l.length*sz:=by
 induction l with
 |nil=>simp[gX]
 |cons x l ih=>simp only[gX,List.flatMap_cons,List.length_append,List.length_map,List.length_cons,h,Nat.add_mul,Nat.one_mul]at ih ⊢;omega
theorem jW {α:Type} {enc:α→List PV} {sz:Nat} (h:∀x,(enc x).length=sz):∀(l:List α) (i j:Nat) (x:α) (c:PV),l[i]? = some x→(enc x)[j]? = some c→(gX enc l)[i*sz+j]? = some (scv c)
 |[],i,j,x,c,h1,_=>by simp at h1
 |y::l,0,j,x,c,h1,h2=>by
  simp at h1;subst h1
  have hj:=(List.getElem?_eq_some_iff.1 h2).1
  rw[gX,List.flatMap_cons,List.getElem?_append_left (by simp;omega),List.getElem?_map,Nat.zero_mul,Nat.zero_add,h2];rfl
 |y::l,i+1,j,x,c,h1,h2=>by
  have ih:=jW h l i j x c (by simpa using h1) h2
  rw[gX,List.flatMap_cons,List.getElem?_append_right (by rw[List.length_map,h,Nat.add_mul];omega),List.length_map,h]
  rw[show(i+1)*sz+j-sz=i*sz+j by rw[Nat.add_mul];omega]
  exact ih
theorem u6 {l m:List Value} {n i:Nat} {v:Value} (h:l.take n=m) (hi:m[i]? = some v):l[i]? = some v:=by
 rw[←h,List.getElem?_take]at hi
 split at hi
 ·exact hi
 ·cases hi
def ED (ro:Option Nat) (a:Option Addr) (cap:Nat):Value:=match ro with
 |none => .tuple #[]
 |some n => .slice a n cap
def EV (ro:Option Nat) (k g:Nat):PV:=match ro with
 |none => .tup []
 |some n => .als k g 0 n
variable [Globs]
theorem nC {α:Type} {enc:α→List PV} {l:List α} {d k g m sz kd f:Nat} {T ty:TypeId} {pos:String} {af:Array Edge} {x fop:Operand} {more:List Operand} {mv:List FuncId} {tys:Array TypeId} {K:St→Prop} (ro:Option Nat) (Q:List α→Prop)
  (hpl:∀x,(enc x).all gN=true) (hlen:∀x,(enc x).length=sz) (hsz:0<sz) (hf:s.ev fop = .clo f []) (hx:s.ev x = .als k g 0 m) (hm:m=l.length) (ho:s.own k=(g,some ⟨T,sz,l.map enc,kd⟩)) (hmore:more.map s.ev=mv.map fun f => .clo f []) (hcal:ef P f) (hro:∀n,ro=some n→n≤l.length)
  (h0:l=[]→Q []∧∀w:World,Globs.glob w→Calls P f (Value.slice none 0 0::mv.map fun f => .func (.func f) #[] #[]).toArray w fun e w'=>e = .returned (ED ro none 0)∧Below w.heap.size w w')
  (hcall:∀(w:World) (b cap:Nat) (cur:Array Value),w.heap[b]? = some (.cells cur T (0,0))→l.length≤cap→l.length*sz≤cur.size→cur.toList.take (l.length*sz)=gX enc l→Globs.glob w →
   Calls P f (Value.slice (some ⟨b,0,none⟩) l.length cap::mv.map fun f => .func (.func f) #[] #[]).toArray w fun e w'=>∃l' cur',Q l'∧l'.length=l.length∧e = .returned (ED ro (some ⟨b,0,none⟩) cap)∧Chg w w' b T cur'∧cur'.size=cur.size∧cur'.toList.take (l.length*sz)=gX enc l')
  (h:∀l',Q l'→l'.length=l.length→K ((s.setOwn k g (some ⟨T,sz,l'.map enc,kd⟩)).putR d (EV ro k g))):Sm P L s ⟨some d,.call ⟨.value fop,(x::more).toArray,tys⟩,ty,pos,af,none⟩ K:=by
 intro C a w Qp hG hs hN
 obtain⟨γ,hs⟩:=hs
 have hfv:=hs.ev fop
 rw[hf]at hfv
 obtain⟨vs,hv,hl,_⟩:=hfv.clo_inv
 have hvs:vs=[]:=List.eq_nil_of_length_eq_zero (by simpa using hl.symm)
 subst hvs
 have hmv:more.map a.eval=mv.map fun f=>Value.func (.func f) #[] #[]:=by
  clear h0 hcall h
  induction more generalizing mv with
  |nil=>cases mv with
   |nil=>rfl
   |cons f mv=>simp at hmore
  |cons y more ih=>cases mv with
   |nil=>simp at hmore
   |cons f mv =>
    simp only[List.map_cons,List.cons.injEq]at hmore ⊢
    have hy:=hs.ev y
    rw[hmore.1]at hy
    obtain⟨vs,hv,hl,_⟩:=hy.clo_inv
    have hvs:vs=[]:=List.eq_nil_of_length_eq_zero (by simpa using hl.symm)
    subst hvs
    exact⟨hv,ih hmore.2 hN⟩
 have hxr:=hs.ev x
 rw[hx]at hxr
 have hals:=hs.als_at hxr ho
 unfold Oper.wp
 rw[iD (f:=f) rfl hv hcal,Oper.upon_enter]
 simp only[List.map_cons,List.append_nil,hmv]
 have hglob:=hG.glob _ hs.below
 rcases hals with⟨h1,_,h3,h4⟩|⟨b,cap,cur,h1,h2,h3,h4,h5,h6,h7⟩
 ·have hnil:l=[]:=List.eq_nil_of_length_eq_zero (by omega)
  rw[h4]
  refine((h0 hnil).2 w hglob).mono ?_
  rintro e w' ⟨rfl,hbel⟩
  have hs':=hs.ext hbel
  have hst:s=s.setOwn k g (some ⟨T,sz,l.map enc,kd⟩):=by
   have:s.own=(s.setOwn k g (some ⟨T,sz,l.map enc,kd⟩)).own:=by
    funext r
    by_cases hr:r=k
    ·subst hr;rw[ae,ho]
    ·rw[au hr]
   cases s
   simp only[St.setOwn]at this ⊢
   rw[←this]
  have hKs:=h [] (h0 hnil).1 (by rw[hnil])
  rw[hnil]at hst
  rw[←hst]at hKs
  refine⟨_,⟨γ,hs'.put (d:=some d) hN ?_⟩,hKs⟩
  cases ro with
  |none=>exact .tup [] [] rfl fun i c v e=>by simp at e
  |some n =>
   have hn:=hro n rfl
   rw[hnil]at hn
   have hn0:n=0:=by simpa using hn
   subst hn0
   refine .als (by simp[ag,ho]) fun _ l2 hl2=>?_
   simp only[ag,ho,Option.map_some,Option.some.injEq]at hl2
   subst hl2
   exact .inl ⟨h1,rfl,rfl,rfl⟩
 ·subst hm
  rw[h2]
  simp only[Nat.zero_mul]
  have h3:w.heap[b]? = some (.cells cur T (0,0)):=h3
  have hz:(0+cap)*sz=cap*sz:=by rw[Nat.zero_add]
  have hcs:cur.size=cap*sz:=by rw[←hz];exact h6
  have hle:l.length*sz≤cur.size:=by rw[hcs];exact Nat.mul_le_mul_right _ h4
  obtain⟨cur0,g1,_,_,g4,g5⟩:=hs.site_at ho h1 hsz
  have g1:w.heap[b]? = some (.cells cur0 T (0,0)):=g1
  rw[h3]at g1
  simp only[Option.some.injEq,Obj.cells.injEq,and_true]at g1
  subst g1
  have hflat:cur.toList.take (l.length*sz)=gX enc l:=by
   apply List.ext_getElem?
   intro q
   by_cases hq:q<l.length*sz
   ·have hqi:q/sz<l.length:=(Nat.div_lt_iff_lt_mul hsz).2 hq
    have hqj:q%sz<sz:=Nat.mod_lt _ hsz
    have hqe:q/sz*sz+q%sz=q:=by rw[Nat.mul_comm];exact Nat.div_add_mod q sz
    have hx1:l[q/sz]? = some l[q/sz]:=List.getElem?_eq_getElem hqi
    have hx2:(enc l[q/sz])[q%sz]? = some ((enc l[q/sz])[q%sz]'(by rw[hlen];exact hqj)):=List.getElem?_eq_getElem _
    obtain⟨v,e1,_,e3⟩:=g5 (q/sz) (q%sz) (enc l[q/sz]) _ (by rw[List.getElem?_map,hx1];rfl) hx2
    have hpv:=List.all_eq_true.1 (hpl l[q/sz]) _ (List.mem_of_getElem? hx2)
    have hv:=kS hpv (e3.rep ap)
    have:=jW hlen l (q/sz) (q%sz) _ _ hx1 hx2
    rw[hqe]at this e1
    rw[this,List.getElem?_take,if_pos hq,Array.getElem?_toList,e1,hv]
   ·rw[List.getElem?_take,if_neg hq,List.getElem?_eq_none (by rw[vV hlen];omega)]
  refine(hcall w b cap cur h3 h4 hle hflat hglob).mono ?_
  rintro e w' ⟨l',cur',hQ,hl',rfl,hchg,hcz,hfl⟩
  have hsite:SiteOk (ag C γ (s.setOwn k g (some ⟨T,sz,l'.map enc,kd⟩)) (w.setRow b cur')) (some b) ⟨T,sz,l'.map enc,kd⟩:=by
   refine⟨(fun e=>by cases e),(fun b' _ hz=>by simp only at hz;omega),(fun b' _ hz=>by simp only at hz;omega),fun b' hb' _=>?_⟩
   simp at hb';subst hb'
   refine⟨cur',setRow_heap w b cur cur' T (0,0) h3,hsz,by simp only[List.length_map];rw[hl',hcz];exact hle,fun row hr=>?_,fun i j row pv e1 e2=>?_⟩
   ·simp only[List.mem_map]at hr
    obtain⟨y,_,rfl⟩:=hr
    exact hlen y
   ·simp only[List.getElem?_map,Option.map_eq_some_iff]at e1
    obtain⟨y,hy,rfl⟩:=e1
    have hpv:=List.all_eq_true.1 (hpl y) _ (List.mem_of_getElem? e2)
    have:=u6 hfl (jW hlen l' i j y pv hy e2)
    exact⟨scv pv,by rw[←Array.getElem?_toList];exact this,(d8 hpv w (fun _=>True)).2,tq hpv⟩
  have hsim:=Ba (c':=⟨T,sz,l'.map enc,kd⟩) hs ho h1 h3 hcz hchg rfl rfl (by simp[hl']) hsite
  refine⟨_,⟨γ,hsim.put (d:=some d) hN ?_⟩,h l' hQ hl'⟩
  cases ro with
  |none=>exact .tup [] [] rfl fun i c v e=>by simp at e
  |some n =>
   have hn:=hro n rfl
   refine .als (by simp[ag,ae]) fun _ l2 hl2=>?_
   simp only[ag,ae,Option.map_some,Option.some.injEq]at hl2
   subst hl2
   exact .inr ⟨b,cap,cur',h1,by simp[ED],hchg.at_,by omega,h5,by rw[hcz];exact h6,by simp;omega⟩
end
end Go.Pv
namespace Go.Proofs
open Go.Shelf
def Tryz.lays189_ren:Go.Shelf.Ren:=⟨fun|189=>170|125=>207|257=>206|128=>228|129=>229|294=>219|295=>220|296=>221|297=>222|298=>223|299=>224|216=>225|300=>226|301=>227|328=>234|329=>235|330=>236|331=>237|332=>238|215=>239|343=>241|n=>n,fun|28=>67|3=>3|46=>218|0=>0|51=>235|53=>119|4=>4|183=>244|182=>243|131=>57|5=>5|9=>9|218=>256|222=>260|228=>262|229=>263|n=>n,fun|n=>n⟩
theorem Tryz.lays189:Go.Proofs.Lays.n189 Tryz.prog Tryz.lays189_ren:={
 mixed:=by kernel_rfl
 f125:=Tryz.func207.trans (congrArg some (by kernel_rfl))
 f128:=Tryz.func228.trans (congrArg some (by kernel_rfl))
 f129:=Tryz.func229.trans (congrArg some (by kernel_rfl))
 f189:=Tryz.func170.trans (congrArg some (by kernel_rfl))
 f215:=Tryz.func239.trans (congrArg some (by kernel_rfl))
 f216:=Tryz.func225.trans (congrArg some (by kernel_rfl))
 f257:=Tryz.func206.trans (congrArg some (by kernel_rfl))
 f294:=Tryz.func219.trans (congrArg some (by kernel_rfl))
 f295:=Tryz.func220.trans (congrArg some (by kernel_rfl))
 f296:=Tryz.func221.trans (congrArg some (by kernel_rfl))
 f297:=Tryz.func222.trans (congrArg some (by kernel_rfl))
 f298:=Tryz.func223.trans (congrArg some (by kernel_rfl))
 f299:=Tryz.func224.trans (congrArg some (by kernel_rfl))
 f300:=Tryz.func226.trans (congrArg some (by kernel_rfl))
 f301:=Tryz.func227.trans (congrArg some (by kernel_rfl))
 f328:=Tryz.func234.trans (congrArg some (by kernel_rfl))
 f329:=Tryz.func235.trans (congrArg some (by kernel_rfl))
 f330:=Tryz.func236.trans (congrArg some (by kernel_rfl))
 f331:=Tryz.func237.trans (congrArg some (by kernel_rfl))
 f332:=Tryz.func238.trans (congrArg some (by kernel_rfl))
 f343:=Tryz.func241.trans (congrArg some (by kernel_rfl))
 t0:=Tryz.underlying0
 a0:=Tryz.isAgg0
 z0:=Tryz.sizeOf0
 v0:=Tryz.zeroValue0
 t3:=Tryz.underlying3
 a3:=Tryz.isAgg3
 z3:=Tryz.sizeOf3
 v3:=Tryz.zeroValue3
 t4:=Tryz.underlying4
 a4:=Tryz.isAgg4
 z4:=Tryz.sizeOf4
 v4:=Tryz.zeroValue4
 t5:=Tryz.underlying5
 a5:=Tryz.isAgg5
 z5:=Tryz.sizeOf5
 v5:=Tryz.zeroValue5
 t9:=Tryz.underlying9
 a9:=Tryz.isAgg9
 z9:=Tryz.sizeOf9
 v9:=Tryz.zeroValue9
 t28:=Tryz.underlying67
 a28:=Tryz.isAgg67
 z28:=Tryz.sizeOf67
 v28:=Tryz.zeroValue67
 t46:=Tryz.underlying218
 a46:=Tryz.isAgg218
 z46:=Tryz.sizeOf218
 v46:=Tryz.zeroValue218
 t51:=Tryz.underlying235
 a51:=Tryz.isAgg235
 z51:=Tryz.sizeOf235
 v51:=Tryz.zeroValue235
 t53:=Tryz.underlying119
 a53:=Tryz.isAgg119
 z53:=Tryz.sizeOf119
 v53:=Tryz.zeroValue119
 t131:=Tryz.underlying57
 a131:=Tryz.isAgg57
 z131:=Tryz.sizeOf57
 v131:=Tryz.zeroValue57
 t182:=Tryz.underlying243
 a182:=Tryz.isAgg243
 z182:=Tryz.sizeOf243
 v182:=Tryz.zeroValue243
 t183:=Tryz.underlying244
 a183:=Tryz.isAgg244
 z183:=Tryz.sizeOf244
 v183:=Tryz.zeroValue244
 t218:=Tryz.underlying256
 a218:=Tryz.isAgg256
 z218:=Tryz.sizeOf256
 v218:=Tryz.zeroValue256
 t222:=Tryz.underlying260
 a222:=Tryz.isAgg260
 z222:=Tryz.sizeOf260
 v222:=Tryz.zeroValue260
 t228:=Tryz.underlying262
 a228:=Tryz.isAgg262
 z228:=Tryz.sizeOf262
 v228:=Tryz.zeroValue262
 t229:=Tryz.underlying263
 a229:=Tryz.isAgg263
 z229:=Tryz.sizeOf263
 v229:=Tryz.zeroValue263 }
open Go.Sort Go.RowKit in
theorem Tryz.slices_Sort_int (blk off cap:Nat) (zs:List Int) (w:World) (hH:Holds (Value.int .i64) w blk off zs.toArray) (hblk:blk<w.heap.size) (hsz:zs.length<4611686018427387904) :
  Calls Tryz.prog 170 #[.slice (some ⟨blk,off,none⟩) zs.length cap] w fun e w' =>
   e = .returned (.tuple #[])∧∃n os,w'=grow (putRow (Value.int .i64) (Sort.ahead w n) blk off (zs.mergeSort fun x y=>decide (x≤y)).toArray) os:=Any.slices_Sort_int Tryz.lays189 blk off cap zs w hH hblk hsz
def Tryz.laysNm220_ren:Go.Shelf.Ren:=⟨fun|20=>171|n=>n,fun|22=>67|3=>3|4=>4|0=>0|n=>n,fun|n=>n⟩
theorem Tryz.laysNm220:Go.Proofs.Lays2.n20 Tryz.prog Tryz.laysNm220_ren:={
 mixed:=by kernel_rfl
 f20:=Tryz.func171.trans (congrArg some (by kernel_rfl))
 t0:=Tryz.underlying0
 a0:=Tryz.isAgg0
 z0:=Tryz.sizeOf0
 v0:=Tryz.zeroValue0
 t3:=Tryz.underlying3
 a3:=Tryz.isAgg3
 z3:=Tryz.sizeOf3
 v3:=Tryz.zeroValue3
 t4:=Tryz.underlying4
 a4:=Tryz.isAgg4
 z4:=Tryz.sizeOf4
 v4:=Tryz.zeroValue4
 t22:=Tryz.underlying67
 a22:=Tryz.isAgg67
 z22:=Tryz.sizeOf67
 v22:=Tryz.zeroValue67
 i3:=by kernel_rfl }
open Go.RowKit Go.Lib Go.Sort in
theorem Tryz.slices_Compact_int (blk off cap:Nat) (zs:List Int) (w:World) (hH:Holds (Value.int .i64) w blk off zs.toArray) (hsz:zs.length≤9223372036854775807) (hcap:zs.length≤cap) :
  Calls Tryz.prog 171 #[.slice (some ⟨blk,off,none⟩) zs.length cap] w fun e w'=>e = .returned (.slice (some ⟨blk,off,none⟩) (Lib.compact zs).length cap)∧∃q,w'=putRow (Value.int .i64) (Sort.ahead w q) blk off (Lib.compact zs++List.replicate (zs.length-(Lib.compact zs).length) 0).toArray:=Any.slices_Compact_int Tryz.laysNm220 blk off cap zs w hH hsz hcap
open Go.RowKit Go.Lib Go.Sort in
theorem Tryz.slices_Compact_int_empty (a:Option Addr) (cap:Nat) (w:World) :
  Calls Tryz.prog 171 #[.slice a 0 cap] w fun e w'=>e = .returned (.slice a 0 cap)∧w'=w:=Any.slices_Compact_int_empty Tryz.laysNm220 a cap w
open Go.RowKit Go.Sort in
theorem Tryz.slices_Sort_int_none (p:Option Addr) (cap:Nat) (w:World) :
  Calls Tryz.prog 170 #[.slice p 0 cap] w fun e w'=>e = .returned (.tuple #[])∧w'=w:=Any.slices_Sort_int_none Tryz.lays189 p cap w
end Go.Proofs
set_option maxHeartbeats 2000000
namespace Go.Pv
attribute [local irreducible] PWP POps PQuiet PSem ax ao aj ai
open Go.Proofs Go.RowKit Go.Sort
theorem Sim.cutS {C:Ctx} {γ:Nat→Option Nat} {s:St} {a:Act} {w:World} (h:Sim C γ s a w) {k g n:Nat} {c:Cont} (ho:s.own k=(g,some c)) (hz:0<c.sz):Sim C γ (s.setOwn k (g+1) (some ⟨c.ty,c.sz,c.rows.take n,c.kind⟩)) a w:=by
 have hown:∀k' c'',((s.setOwn k (g+1) (some ⟨c.ty,c.sz,c.rows.take n,c.kind⟩)).own k').2=some c''→∃c3,(s.own k').2=some c3:=by
  intro k' c'' hc
  by_cases hk:k'=k
  ·subst hk;exact⟨c,by rw[ho]⟩
  ·rw[au hk]at hc;exact⟨c'',hc⟩
 have hok:∀b',dG C γ s w b'→dG C γ (s.setOwn k (g+1) (some ⟨c.ty,c.sz,c.rows.take n,c.kind⟩)) w b':=by
  rintro b' ⟨f1,f2,f3⟩
  exact⟨f1,f2,fun k' c'' hc=>let ⟨c3,hc3⟩:=hown k' c'' hc;f3 k' c3 hc3⟩
 have hle:(ag C γ s w).Le (ag C γ (s.setOwn k (g+1) (some ⟨c.ty,c.sz,c.rows.take n,c.kind⟩)) w):=by
  refine⟨hok,fun b' hb'=>⟨hb'.1,hok b' hb'.2⟩,fun b' hb'=>hb'.2,fun b' _=>rfl,fun k'=>?_,fun k' l' hg hl=>?_,fun k' l' b' cur'' _ hl hb' hh'=>⟨cur'',hh',rfl⟩⟩
  ·show(s.own k').1≤((s.setOwn k (g+1) _).own k').1
   by_cases hk:k'=k
   ·subst hk;rw[ae,ho];exact Nat.le_succ _
   ·rw[au hk];exact Nat.le_refl _
  ·by_cases hk:k'=k
   ·subst hk
    have:((s.setOwn k' (g+1) (some ⟨c.ty,c.sz,c.rows.take n,c.kind⟩)).own k').1=(s.own k').1:=hg
    rw[ae,ho]at this
    simp at this
   ·simp only[ag,au hk]at hl
    exact⟨l',hl,rfl,rfl,rfl,Nat.le_refl _⟩
 refine⟨h.defers,h.size,fun r=>(h.regs r).mono hle,fun k' c'' hc=>?_,fun k1 k2 c1 c2 b' e1 e2 e3 e4=>?_,fun k' c'' b' e1 e2=>?_,h.below,h.top,fun c v hk=>(h.kept c v hk).mono hle⟩
 ·by_cases hk:k'=k
  ·subst hk
   rw[ae]at hc
   simp at hc;subst hc
   have hs:=h.sites k' c (by rw[ho])
   refine⟨fun hb=>by simp[hs.emp hb],(fun b' _ hz'=>by simp only at hz';omega),(fun b' _ hz'=>by simp only at hz';omega),fun b' hb' _=>?_⟩
   obtain⟨cur,h1,h2,h3,h4,h5⟩:=hs.at_ b' hb' hz
   refine⟨cur,h1,h2,?_,fun row hr=>h4 row (List.mem_of_mem_take hr),fun i j row pv e1 e2=>?_⟩
   ·simp only[List.length_take]
    exact Nat.le_trans (Nat.mul_le_mul_right _ (Nat.min_le_right _ _)) h3
   ·simp only[List.getElem?_take]at e1
    split at e1
    ·obtain⟨v,f1,f2,f3⟩:=h5 i j row pv e1 e2
     exact⟨v,f1,f2,f3.mono hle⟩
    ·cases e1
  ·rw[au hk]at hc
   exact(h.sites k' c'' hc).mono hle fun b' hb'=>rfl
 ·obtain⟨d1,f1⟩:=hown k1 c1 e1
  obtain⟨d2,f2⟩:=hown k2 c2 e2
  exact h.inj k1 k2 d1 d2 b' f1 f2 e3 e4
 ·obtain⟨d1,f1⟩:=hown k' c'' e1
  exact h.base k' d1 b' f1 e2
theorem Ghost.cut {s:St} {k g t n sz kd:Nat} {T:TypeId} {rows:List (List PV)} (ho:s.own k=(g,some ⟨T,sz,rows,kd⟩)) (hr:s.reg t = .als k g 0 n) (hn:n≤rows.length) (hz:Nat.blt 0 sz=true) :
  Ghost s ((s.setOwn k (g+1) (some ⟨T,sz,rows.take n,kd⟩)).putR t (.als k (g+1) 0 n)):=by
 intro C a w hX ⟨γ,h⟩
 have hz:0<sz:=by simpa using hz
 have h':=h.cutS (n:=n) ho hz
 have hals:=h.als_at (by rw[←hr];exact h.regs t) ho
 refine⟨γ,h'.defers,h'.size,fun r=>?_,h'.sites,h'.inj,h'.base,h'.below,h'.top,h'.kept⟩
 show Rep (ag C γ (s.setOwn k (g+1) (some ⟨T,sz,rows.take n,kd⟩)) w) (bif Nat.beq r t then _ else _) _
 by_cases hrt:r=t
 ·subst hrt
  rw[Nat.beq_refl,cond_true]
  refine .als (by simp[ag,ae]) fun _ l hl=>?_
  simp only[ag,ae,Option.map_some,Option.some.injEq]at hl
  subst hl
  rcases hals with⟨h1,h2,h3,h4⟩|⟨b,cap,cur,h1,h2,h3,h4,h5,h6,h7⟩
  ·exact .inl ⟨h1,h2,h3,h4⟩
  ·exact .inr ⟨b,cap,cur,h1,h2,h3,h4,h5,h6,by simp;omega⟩
 ·rw[aV hrt,cond_false]
  exact h'.regs r
def cB (l:List Int):List Int:=l.mergeSort fun x y=>decide (x≤y)
def pZ (l:List Int):List Int:=Lib.compact l++List.replicate (l.length-(Lib.compact l).length) 0
theorem qU (x:Int):(eN x).all gN=true:=rfl
theorem mJ {w:World} {b:Nat} {T:TypeId} {cur:Array Value} {l:List Int} (hh:w.heap[b]? = some (.cells cur T (0,0))) (hc:cur.toList.take (l.length*1)=gX eN l):Holds (Value.int .i64) w b 0 l.toArray:=fun j hj=>by
 have hj':j<l.length:=by simpa using hj
 have hx:l[j]? = some l[j]:=List.getElem?_eq_getElem hj'
 have h1:=u6 hc (jW (sz:=1) (fun _=>rfl) l j 0 l[j] (I l[j]) hx rfl)
 rw[Nat.mul_one,Nat.add_zero]at h1
 refine⟨?_,frozen_of_row w b _ cur T hh⟩
 rw[aQ hh,Nat.zero_add,←Array.getElem?_toList,h1]
 simp[hj',scv]
theorem om (l:List Int):gX eN l=l.map (Value.int .i64):=by
 induction l with
 |nil=>rfl
 |cons x l ih=>rw[gX,List.flatMap_cons,List.map_cons,←ih];rfl
theorem A7:ef Tryz.prog 170:=⟨_,Go.Proofs.Tryz.func170,by decide,rfl⟩
theorem A8:ef Tryz.prog 171:=⟨_,Go.Proofs.Tryz.func171,by decide,rfl⟩
section
variable {C:Ctx} {s:St} {d k g m kd:Nat} {ty:TypeId} {pos:String} {af:Array Edge} {x:Operand} {tys:Array TypeId} {K:St→Prop}
set_option maxRecDepth 20000 in
theorem At (l:List Int) (hl:l.length≤1000000) (hx:s.ev x = .als k g 0 m) (hm:m=l.length) (ho:s.own k=(g,some ⟨3,1,l.map eN,kd⟩))
  (h:K ((s.setOwn k g (some ⟨3,1,(cB l).map eN,kd⟩)).putR d (.tup []))):Sm Tryz.prog lay.get s ⟨some d,.call ⟨.value (.func 170),#[x],tys⟩,ty,pos,af,none⟩ K:=by
 refine nC (enc:=eN) (l:=l) (sz:=1) (more:=[]) (mv:=[]) none (fun l'=>l'=cB l) qU (fun _=>rfl) (by decide) rfl hx hm ho rfl A7 (fun n h=>by cases h) (fun hl0=>?_) (fun w b cap cur hh h1 h2 hc hg=>?_) (fun l' hQ _=>?_)
 ·subst hl0
  refine⟨by simp[cB],fun w _=>(Tryz.slices_Sort_int_none none 0 w).mono ?_⟩
  rintro e w' ⟨rfl,rfl⟩
  exact⟨rfl,Below.refl _ _⟩
 ·have hb:b<w.heap.size:=(Array.getElem?_eq_some_iff.1 hh).1
  refine(Tryz.slices_Sort_int b 0 cap l w (mJ hh hc) hb (by omega)).mono ?_
  rintro e w' ⟨rfl,n,os,hw⟩
  have hlen:(cB l).length=l.length:=by simp[cB]
  have hchg:=um (T:=3) hh hw
  refine⟨cB l,_,rfl,hlen,rfl,hchg,jb _ _ _ _,?_⟩
  have:=jc (Value.int .i64) (cB l).toArray cur (by simp[hlen];omega)
  rw[List.size_toArray,hlen]at this
  rw[Nat.mul_one,om]
  exact this
 ·subst hQ;exact h
theorem eL (l:List Int):(Lib.compact l).length≤l.length:=by
 rw[Lib.compact,Lib.compactUpTo,List.length_map]
 exact Nat.le_trans (List.length_filter_le _ _) (by simp)
theorem j5 (l:List Int):(pZ l).length=l.length:=by
 have:=eL l
 simp[pZ];omega
set_option maxRecDepth 20000 in
theorem qN (l:List Int) (hl:l.length≤1000000) (hx:s.ev x = .als k g 0 m) (hm:m=l.length) (ho:s.own k=(g,some ⟨3,1,l.map eN,kd⟩))
  (h:K ((s.setOwn k g (some ⟨3,1,(pZ l).map eN,kd⟩)).putR d (.als k g 0 (Lib.compact l).length))):Sm Tryz.prog lay.get s ⟨some d,.call ⟨.value (.func 171),#[x],tys⟩,ty,pos,af,none⟩ K:=by
 refine nC (enc:=eN) (l:=l) (sz:=1) (more:=[]) (mv:=[]) (some (Lib.compact l).length) (fun l'=>l'=pZ l) qU (fun _=>rfl) (by decide) rfl hx hm ho rfl A8 (fun n h=>by cases h;exact eL l) (fun hl0=>?_) (fun w b cap cur hh h1 h2 hc hg=>?_) (fun l' hQ _=>?_)
 ·subst hl0
  refine⟨rfl,fun w _=>(Tryz.slices_Compact_int_empty none 0 w).mono ?_⟩
  rintro e w' ⟨rfl,rfl⟩
  exact⟨rfl,Below.refl _ _⟩
 ·refine(Tryz.slices_Compact_int b 0 cap l w (mJ hh hc) (by omega) h1).mono ?_
  rintro e w' ⟨rfl,q,hw⟩
  have hchg:=um (T:=3) hh (hw.trans (Go.Sort.grow_empty _).symm)
  refine⟨pZ l,_,rfl,j5 l,rfl,hchg,jb _ _ _ _,?_⟩
  have:=jc (Value.int .i64) (pZ l).toArray cur (by simp[j5];omega)
  rw[List.size_toArray,j5]at this
  rw[Nat.mul_one,om]
  exact this
 ·subst hQ;exact h
end
open Go.Proofs
def aW (l:List SR):List Int:=Lib.compact (cB (l.map (·.x)))
set_option maxRecDepth 20000 in
theorem ni (l:List SR) (hl:eJ l) (h12:l.length≤1000):Ret Tryz.prog .shared 117 [.sl (l.map eS)] (.sl ((aW l).map eN)):=by
 have hml:(l.map eS).length=l.length:=by simp
 have hrows:∀(k:Nat) x,l[k]? = some x→((l.take (k+1)).map (·.x)).map eN=((l.take k).map (·.x)).map eN++[eN x.x]:=fun k x hx=>by rw[bY hx,List.map_append,List.map_append];rfl
 refine Ret.of_pwp layOk mixed Go.Proofs.Tryz.func117 rfl (by decide) rfl rfl ?_
 ((repeat (first|refine aJ ?_ | refine b5 ?_ | refine bJ ?_ | refine bF ?_));refine aS ?_)
 refine ia rfl trivial ?_
 ((repeat (first|refine aJ ?_ | refine b5 ?_ | refine bJ ?_ | refine bF ?_));refine aS ?_)
 (first|refine ar (fh 3 1 0 rfl rfl ?_)|refine ar (fg 3 1 0 rfl rfl ?_))
 repeat refine aa rfl ?_
 refine am (fun k=>k≤l.length) (fun k=>[(3,.als 3 (k+1) 0 (((l.take k).map (·.x)).map eN).length),(6,.sl (l.map eS)),(7,I l.length),(8,I k)]) (fun k=>[(3,k+1,⟨3,1,((l.take k).map (·.x)).map eN,0⟩)]) (fun k=>l.length-k) 0 (Nat.zero_le _) ⟨rfl,rfl,by rw[←hml];rfl,rfl,rfl,trivial⟩ ?_
 intro k s hk
 repeat refine aa rfl ?_
 refine ab rfl ?_ ?_<;>intro h
 ·have hlt:k<l.length:=by have:=of_decide_eq_true h;omega
  clear h
  obtain⟨x,hx⟩:=aL hlt
  have hw:=gz k
  repeat refine aa rfl ?_
  refine aZ rfl rfl rfl rfl rfl rfl rfl hx rfl ?_
  repeat refine aa rfl ?_
  refine ar (be 0 rfl rfl rfl rfl rfl rfl rfl rfl rfl rfl rfl (by repeat' constructor) rfl ?_)
  repeat refine aa rfl ?_
  refine ar (bE 0 rfl rfl rfl rfl rfl rfl rfl rfl rfl rfl rfl (by repeat' constructor) (by intro row hr;first|(simp at hr;subst hr;rfl)|simp at hr) rfl rfl (by simp;omega) (by simp;omega) ?_)
  repeat refine aa rfl ?_
  refine⟨k+1,hlt,by omega,?_,rfl,rfl,congrArg I hw,?_,trivial⟩
  ·rw[hrows k x hx];rfl
  ·rw[hrows k x hx];rfl
 ·have hge:k=l.length:=by have:=of_decide_eq_false h;omega
  subst hge
  clear h
  rw[List.take_length]
  have hal:(l.map (·.x)).length≤1000000:=by simp;omega
  generalize hX:l.map (·.x)=X at *
  have hsl:(cB X).length≤1000000:=by rw[cB,List.length_mergeSort];exact hal
  ((repeat ((fail_if_success (with_reducible refine aT 7 ?_));refine dh rfl ?_));refine aG 1 ?_)
  refine aa rfl ?_
  refine aJ ?_
  refine a_ rfl (At X hal rfl (by simp) rfl ?_)
  refine aM ?_
  ((repeat ((fail_if_success (with_reducible refine aT 8 ?_));refine dh rfl ?_));refine aG 1 ?_)
  refine aa rfl ?_
  refine aJ ?_
  refine a_ rfl (qN (cB X) hsl rfl (by simp[cB]) rfl ?_)
  refine aM ?_
  refine ia rfl trivial ?_
  refine aJ ?_
  refine bJ ?_
  refine ay (Ghost.cut (k:=3) (t:=2) (rows:=(pZ (cB X)).map eN) rfl rfl (by rw[List.length_map,j5];exact eL _) rfl) ?_
  have hc:((pZ (cB X)).map eN).take (Lib.compact (cB X)).length=(aW l).map eN:=by
   rw[←List.map_take,pZ,List.take_left,aW,hX]
  have hcl:(Lib.compact (cB X)).length=(aW l).length:=by rw[aW,hX]
  rw[hc]
  repeat refine aa rfl ?_
  exact fP rfl rfl rfl ⟨rfl,rfl,by show _=(List.map eN (aW l)).length;rw[List.length_map,hcl]⟩ rfl
theorem d7 {l:List SR} {x:Int} (h:x∈aW l):∃s∈l,s.x=x:=by
 have h1:x∈cB (l.map (·.x)):=by
  rw[aW,Lib.compact,Lib.compactUpTo]at h
  obtain⟨i,hi,rfl⟩:=List.mem_map.1 h
  have hi:=(List.mem_filter.1 hi).1
  have hi:i<(cB (l.map (·.x))).length:=by simpa using hi
  have e:(cB (l.map (·.x))).toArray[i]! = (cB (l.map (·.x)))[i]:=by simp[hi]
  rw[e]
  exact List.getElem_mem hi
 rw[cB,List.mem_mergeSort]at h1
 obtain⟨s,hs,rfl⟩:=List.mem_map.1 h1
 exact⟨s,hs,rfl⟩
theorem dx {l:List SR} (hc:bD l=0) {x:Int} (h:x∈aW l) : -1000000≤x∧x≤1000000:=by
 obtain⟨s,hs,rfl⟩:=d7 h
 rw[bD]at hc
 split at hc
 ·omega
 ·have:=jo hc s hs
  rw[ib]at this
  split at this
  ·omega
  ·rename_i h1
   omega
theorem fj (l:List SR):(aW l).length≤l.length:=by
 have:=eL (cB (l.map (·.x)))
 rw[aW]
 simp[cB]at this ⊢
 exact this
def iJ (x:Int):AR:=⟨ofQ ((-x:Int):Rat),ofQ ((1:Int):Rat)⟩
def nS (x:Int):AR:=⟨ofQ (x:Rat),ofQ ((-1:Int):Rat)⟩
def bI (l:List SR):List AR:=(aW l).map iJ++(aW l).map nS
set_option maxRecDepth 20000 in
theorem sw (l:List SR) (hl:eJ l) (h12:l.length≤1000) (hck:bD l=0):Ret Tryz.prog .shared 56 [.sl (l.map eS)] (.sl ((bI l).map eA)):=by
 have hp:=ni l hl h12
 have hrg:∀x∈aW l,-1000000≤x∧x≤1000000:=fun x hx=>dx hck hx
 have hpl:=fj l
 have w1:=a8 1 ⟨by decide,by decide⟩
 have w2:=a8 (-1) ⟨by decide,by decide⟩
 rw[bI]
 generalize aW l=Pl at *
 have hml:(Pl.map eN).length=Pl.length:=by simp
 have hrows:∀(k:Nat) x,Pl[k]? = some x→((Pl.take (k+1)).map iJ).map eA=((Pl.take k).map iJ).map eA++[eA (iJ x)]:=fun k x hx=>by rw[bY hx,List.map_append,List.map_append];rfl
 have hrows2:∀(k:Nat) x,Pl[k]? = some x→(Pl.map iJ++(Pl.take (k+1)).map nS).map eA=(Pl.map iJ++(Pl.take k).map nS).map eA++[eA (nS x)]:=fun k x hx=>by rw[bY hx];simp[List.map_append]
 refine Ret.of_pwp layOk mixed Go.Proofs.Tryz.func56 rfl (by decide) rfl rfl ?_
 ((repeat (first|refine aJ ?_ | refine b5 ?_ | refine bJ ?_ | refine bF ?_));refine aS ?_)
 refine ia rfl trivial ?_
 ((repeat (first|refine aJ ?_ | refine b5 ?_ | refine bJ ?_ | refine bF ?_));refine aS ?_)
 (first|refine ar (fh 38 8 1 rfl rfl ?_)|refine ar (fg 38 8 1 rfl rfl ?_))
 repeat refine aa rfl ?_
 refine ak rfl rfl rfl hp rfl rfl ?_
 repeat refine aa rfl ?_
 refine am (fun k=>k≤Pl.length) (fun k=>[(0,.sl (l.map eS)),(3,.als 3 (k+1) 0 (((Pl.take k).map iJ).map eA).length),(9,.sl (Pl.map eN)),(10,I Pl.length),(11,I k)]) (fun k=>[(3,k+1,⟨38,8,((Pl.take k).map iJ).map eA,1⟩)]) (fun k=>Pl.length-k) 0 (Nat.zero_le _) ⟨rfl,rfl,rfl,by rw[←hml];rfl,rfl,rfl,trivial⟩ ?_
 intro k s hk
 repeat refine aa rfl ?_
 refine ab rfl ?_ ?_<;>intro h
 ·have hlt:k<Pl.length:=by have:=of_decide_eq_true h;omega
  clear h
  obtain⟨x,hx⟩:=aL hlt
  have hr:=hrg x (List.mem_of_getElem? hx)
  have hnx:=a8 (-x) ⟨by omega,by omega⟩
  have hw:=gz k
  have hn:IntKind.i64.wrap (0-x) = -x:=by rw[wrap_i64 (by omega) (by omega)];omega
  repeat refine aa rfl ?_
  refine aZ rfl rfl rfl rfl rfl rfl rfl hx rfl ?_
  repeat refine aa rfl ?_
  rw[hn]
  refine ak rfl rfl rfl hnx rfl rfl ?_
  repeat refine aa rfl ?_
  refine ak rfl rfl rfl w1 rfl rfl ?_
  repeat refine aa rfl ?_
  refine ar (be 1 rfl rfl rfl rfl rfl rfl rfl rfl rfl rfl rfl (by repeat' constructor) rfl ?_)
  repeat refine aa rfl ?_
  refine ar (bE 1 rfl rfl rfl rfl rfl rfl rfl rfl rfl rfl rfl (by repeat' constructor) (by intro row hr;first|(simp at hr;subst hr;rfl)|simp at hr) rfl rfl (by simp;omega) (by simp;omega) ?_)
  repeat refine aa rfl ?_
  refine⟨k+1,hlt,by omega,rfl,?_,rfl,rfl,congrArg I hw,?_,trivial⟩
  ·rw[hrows k x hx];rfl
  ·rw[hrows k x hx];rfl
 ·have hge:k=Pl.length:=by have:=of_decide_eq_false h;omega
  subst hge
  clear h
  rw[List.take_length]
  repeat refine aa rfl ?_
  refine ak rfl rfl rfl hp rfl rfl ?_
  repeat refine aa rfl ?_
  refine am (fun k=>k≤Pl.length) (fun k=>[(3,.als 3 (Pl.length+k+1) 0 ((Pl.map iJ++(Pl.take k).map nS).map eA).length),(25,.sl (Pl.map eN)),(26,I Pl.length),(27,I k)]) (fun k=>[(3,Pl.length+k+1,⟨38,8,(Pl.map iJ++(Pl.take k).map nS).map eA,1⟩)]) (fun k=>Pl.length-k) 0 (Nat.zero_le _) ⟨by rw[List.take_zero,List.map_nil,List.append_nil];rfl,rfl,by rw[←hml];rfl,rfl,by rw[List.take_zero,List.map_nil,List.append_nil];rfl,trivial⟩ ?_
  intro k s hk
  repeat refine aa rfl ?_
  refine ab rfl ?_ ?_<;>intro h
  ·have hlt:k<Pl.length:=by have:=of_decide_eq_true h;omega
   clear h
   obtain⟨x,hx⟩:=aL hlt
   have hr:=hrg x (List.mem_of_getElem? hx)
   have hnx:=a8 x ⟨by omega,by omega⟩
   have hw:=gz k
   repeat refine aa rfl ?_
   refine aZ rfl rfl rfl rfl rfl rfl rfl hx rfl ?_
   repeat refine aa rfl ?_
   refine ak rfl rfl rfl hnx rfl rfl ?_
   repeat refine aa rfl ?_
   refine ak rfl rfl rfl w2 rfl rfl ?_
   repeat refine aa rfl ?_
   refine ar (be 1 rfl rfl rfl rfl rfl rfl rfl rfl rfl rfl rfl (by repeat' constructor) rfl ?_)
   repeat refine aa rfl ?_
   refine ar (bE 1 rfl rfl rfl rfl rfl rfl rfl rfl rfl rfl rfl (by repeat' constructor) (by intro row hr;first|(simp at hr;subst hr;rfl)|simp at hr) rfl rfl (by simp;omega) (by simp;omega) ?_)
   repeat refine aa rfl ?_
   refine⟨k+1,hlt,by omega,?_,rfl,rfl,congrArg I hw,?_,trivial⟩
   ·rw[hrows2 k x hx];rfl
   ·rw[hrows2 k x hx];rfl
  ·have hge:k=Pl.length:=by have:=of_decide_eq_false h;omega
   subst hge
   clear h
   rw[List.take_length]
   repeat refine aa rfl ?_
   exact fP rfl rfl rfl (by repeat' constructor) rfl
def bz:AR:=⟨ofQ ((1:Int):Rat),ofQ ((0:Int):Rat)⟩
noncomputable def cT (b:BR) (r:AR):Bool:=fT b r.z.val r.t.val
noncomputable def cA (b:BR):PV:=if cT b bz=true then .tup [.agg (eA bz),I 12] else match (bI b.l).find? (cT b) with
 |some r => .tup [.agg (eA r),I 13]
 |none => .tup [.agg (zN++zN),I 0]
theorem vI {z:Int} (h:i64 z):Vq (ofQ (z:Rat)) ((ofQ (z:Rat)).val) 4:=by
 have hz:Zb z:=aE h.1 h.2
 have:=Vq.ofQ (h:=HQ.int (z:=z))
 rw[ofQ_val]
 exact this
theorem l_ {l:List SR} (hck:bD l=0) {r:AR} (h:r∈bI l):Va r r.z.val r.t.val 4 4:=by
 rw[bI,List.mem_append]at h
 rcases h with h|h
 ·obtain⟨x,hx,rfl⟩:=List.mem_map.1 h
  have:=dx hck hx
  exact⟨vI ⟨by omega,by omega⟩,vI ⟨by decide,by decide⟩⟩
 ·obtain⟨x,hx,rfl⟩:=List.mem_map.1 h
  have:=dx hck hx
  exact⟨vI ⟨by omega,by omega⟩,vI ⟨by decide,by decide⟩⟩
theorem lR:Va bz bz.z.val bz.t.val 4 4:=⟨vI ⟨by decide,by decide⟩,vI ⟨by decide,by decide⟩⟩
theorem vS {α:Type} (p:α→Bool) {l:List α} {i:Nat} {x:α} (h:l[i]? = some x):(l.drop i).find? p=if p x=true then some x else(l.drop (i+1)).find? p:=by
 obtain⟨hl,rfl⟩:=List.getElem?_eq_some_iff.1 h
 rw[List.drop_eq_getElem_cons hl,List.find?_cons]
 cases p l[i]<;>simp
set_option maxRecDepth 20000 in
theorem fK (b:BR) (hb:b.Ok):Ret Tryz.prog .shared 44 [.agg (eB b)] (cA b):=by
 have w1:=a8 1 ⟨by decide,by decide⟩
 have w0:=a8 0 ⟨by decide,by decide⟩
 have hd:=lC b hb bz lR (by decide) (by decide)
 have ht:=sw b.l hb.lim.l (by have:=hb.few.1;omega) hb.chkL
 have hva:∀r∈bI b.l,Ret Tryz.prog .shared 96 [.agg (eB b),.agg (eA r)] (.bool (cT b r)):=fun r hr=>lC b hb r (l_ hb.chkL hr) (by decide) (by decide)
 rw[show fT b bz.z.val bz.t.val=cT b bz from rfl]at hd
 have htl:(bI b.l).length≤1000:=by
  have:=fj b.l
  have:=hb.few.1
  rw[bI];simp;omega
 generalize hR:cA b=R
 rw[cA]at hR
 generalize bI b.l=T at *
 have hml:(T.map eA).length=T.length:=by simp
 generalize hfn:cT b=fn at *
 clear hfn
 obtain⟨w,ba,l⟩:=b
 simp only at *
 rw[bz]at *
 by_cases h1:fn ⟨ofQ ((1:Int):Rat),ofQ ((0:Int):Rat)⟩=true
 ·rw[if_pos h1]at hR
  rw[h1]at hd
  subst hR
  refine Ret.of_pwp layOk mixed Go.Proofs.Tryz.func44 rfl (by decide) rfl rfl ?_
  repeat refine aa rfl ?_
  refine ak rfl rfl rfl w1 rfl rfl ?_
  repeat refine aa rfl ?_
  refine ak rfl rfl rfl w0 rfl rfl ?_
  repeat refine aa rfl ?_
  refine aP rfl rfl rfl hd rfl rfl rfl ?_
  repeat refine aa rfl ?_
  exact aF rfl rfl rfl
 ·rw[if_neg h1]at hR
  rw[Bool.not_eq_true]at h1
  rw[h1]at hd
  refine Ret.of_pwp layOk mixed Go.Proofs.Tryz.func44 rfl (by decide) rfl rfl ?_
  repeat refine aa rfl ?_
  refine ak rfl rfl rfl w1 rfl rfl ?_
  repeat refine aa rfl ?_
  refine ak rfl rfl rfl w0 rfl rfl ?_
  repeat refine aa rfl ?_
  refine aP rfl rfl rfl hd rfl rfl rfl ?_
  repeat refine aa rfl ?_
  refine ak rfl rfl rfl ht rfl rfl ?_
  repeat refine aa rfl ?_
  refine am (fun i=>i≤T.length∧(T.drop i).find? fn=T.find? fn) (fun i=>[(1,.ptr 1 1 0 0),(2,.ptr 2 1 0 0),(16,.sl (T.map eA)),(17,I T.length),(18,I (i:Nat))]) (fun i=>[(1,1,⟨29,6,[eB ⟨w,ba,l⟩],2⟩),(2,1,⟨38,8,[zN++zN],2⟩)]) (fun i=>T.length-i) 0 ⟨Nat.zero_le _,by rw[List.drop_zero]⟩ ⟨rfl,rfl,rfl,by rw[←hml];rfl,rfl,rfl,rfl,trivial⟩ ?_
  intro i s ⟨hi,hF⟩
  repeat refine aa rfl ?_
  refine ab rfl ?_ ?_<;>intro h
  ·have hlt:i<T.length:=by have:=of_decide_eq_true h;omega
   clear h
   obtain⟨r,hr⟩:=aL hlt
   have hrr:=hva r (List.mem_of_getElem? hr)
   have hw:=gz i
   rw[vS fn hr]at hF
   cases hfr:fn r with
   |true =>
    rw[hfr]at hrr
    rw[if_pos hfr]at hF
    rw[←hF]at hR
    simp only at hR
    subst hR
    repeat refine aa rfl ?_
    refine aZ rfl rfl rfl rfl rfl rfl rfl hr rfl ?_
    repeat refine aa rfl ?_
    refine aP rfl rfl rfl hrr rfl rfl rfl ?_
    repeat refine aa rfl ?_
    exact aF rfl rfl rfl
   |false =>
    rw[hfr]at hrr
    rw[if_neg (by rw[hfr];decide)]at hF
    repeat refine aa rfl ?_
    refine aZ rfl rfl rfl rfl rfl rfl rfl hr rfl ?_
    repeat refine aa rfl ?_
    refine aP rfl rfl rfl hrr rfl rfl rfl ?_
    repeat refine aa rfl ?_
    exact⟨i+1,⟨by omega,hF⟩,by omega,rfl,rfl,rfl,rfl,congrArg I hw,rfl,rfl,trivial⟩
  ·have hie:i=T.length:=by have:=of_decide_eq_false h;omega
   clear h
   rw[hie,List.drop_length,List.find?_nil]at hF
   rw[←hF]at hR
   simp only at hR
   subst hR
   repeat refine aa rfl ?_
   exact aF rfl rfl rfl
def nj {α:Type} (d:α→Rat) (l:List α) (x:α):Nat→Nat
 |0=>0
 |k+1=>match l[k]? with
  |some y=>if d x<d y then nj d l x k else k+1
  |none=>nj d l x k
def zF {α:Type} (d:α→Rat) (l:List α) (x:α):Nat:=nj d l x l.length
def ci {α:Type} (l:List α) (x:α) (k:Nat):List α:=l.take k++x::l.drop k
def nY {α:Type} (d:α→Rat) (l:List α) (x:α):List α:=ci l x (zF d l x)
def dC {α:Type} (d:α→Rat) (l:List α):List α:=l.foldl (nY d) []
theorem uN {α:Type} {d:α→Rat} {l:List α} {x:α} {j:Nat} (h2:j=0∨∃y,l[j-1]? = some y∧d y≤d x):∀k,j≤k→k≤l.length→(∀q y,j≤q→q<k→l[q]? = some y→d x<d y)→nj d l x k=j
 |0,hk,_,_=>by rw[nj];omega
 |k+1,hk,hl,h1=>by
  obtain⟨y,hy⟩:∃y,l[k]? = some y:=⟨l[k],List.getElem?_eq_getElem (by omega)⟩
  rw[nj,hy]
  dsimp only
  by_cases he:j=k+1
  ·subst he
   rcases h2 with h2|⟨z,hz,hd⟩
   ·omega
   ·rw[Nat.add_sub_cancel,hy]at hz
    cases hz
    rw[if_neg (by grind)]
  ·rw[if_pos (h1 k y (by omega) (by omega) hy)]
   exact uN h2 k (by omega) (by omega) fun q z hq hq2=>h1 q z hq (by omega)
theorem uO {α:Type} {d:α→Rat} {l:List α} {x:α} {j:Nat} (hj:j≤l.length) (h1:∀q y,j≤q→l[q]? = some y→d x<d y) (h2:j=0∨∃y,l[j-1]? = some y∧d y≤d x):zF d l x=j :=
 uN h2 _ hj (Nat.le_refl _) fun q y hq _=>h1 q y hq
theorem v_ {α:Type} (d:α→Rat) (l:List α) (x:α):(nY d l x).Perm (x::l):=by
 rw[nY,ci]
 exact List.perm_middle.trans (by rw[List.take_append_drop])
theorem nF {α:Type} (d:α→Rat) (l:List α) (x:α):dC d (l++[x])=nY d (dC d l) x:=by
 rw[dC,List.foldl_append];rfl
theorem gR {α:Type} (d:α→Rat) (l:List α):(dC d l).Perm l:=by
 have:∀(l acc:List α),(l.foldl (nY d) acc).Perm (acc++l):=by
  intro l
  induction l with
  |nil=>intro acc;simp
  |cons x l ih =>
   intro acc
   rw[List.foldl_cons]
   refine(ih _).trans (((v_ d acc x).append_right l).trans ?_)
   rw[List.cons_append]
   exact List.perm_middle.symm
 exact this l []
theorem kZ {α:Type} (d:α→Rat) (l:List α):(dC d l).length=l.length:=(gR d l).length_eq
theorem q_ {α:Type} {l:List α} {x:α} {k:Nat} (hk:k≤l.length):(ci l x k)[k]? = some x:=by
 rw[ci,List.getElem?_append_right (by simp;omega)]
 simp[Nat.min_eq_left hk]
theorem mP {α:Type} {l:List α} {x:α} {k q:Nat} (hk:k≤l.length) (h:q<k):(ci l x k)[q]? = l[q]? := by
 rw[ci,List.getElem?_append_left (by simp;omega),List.getElem?_take,if_pos h]
theorem s_ {α:Type} {l:List α} {x y:α} {k:Nat} (hk:k+1≤l.length) (hy:l[k]? = some y):((ci l x (k+1)).set (k+1) y).set k x=ci l x k:=by
 obtain⟨hlt,rfl⟩:=List.getElem?_eq_some_iff.1 hy
 apply List.ext_getElem?
 intro q
 have hl1:(ci l x (k+1)).length=l.length+1:=by simp[ci];omega
 simp only[List.getElem?_set,List.length_set,hl1]
 by_cases h1:k=q
 ·subst h1
  rw[if_pos rfl,if_pos (by omega),q_ (by omega)]
 ·rw[if_neg h1]
  by_cases h2:k+1=q
  ·subst h2
   rw[if_pos rfl,if_pos (by omega),ci,List.getElem?_append_right (by simp;omega)]
   simp only[List.length_take,Nat.min_eq_left (show k≤l.length by omega),Nat.add_sub_cancel_left,List.getElem?_cons_succ,List.getElem?_drop,Nat.add_zero]
   exact(List.getElem?_eq_getElem hlt).symm
  ·rw[if_neg h2]
   rcases Nat.lt_or_ge q k with h|h
   ·rw[mP (by omega) h,mP hk (by omega)]
   ·rw[ci,ci,List.getElem?_append_right (by simp;omega),List.getElem?_append_right (by simp;omega)]
    simp only[List.length_take,Nat.min_eq_left hk,Nat.min_eq_left (show k≤l.length by omega)]
    obtain⟨r,rfl⟩:∃r,q=k+2+r:=⟨q-(k+2),by omega⟩
    rw[show k+2+r-(k+1)=r+1 by omega,show k+2+r-k=r+1+1 by omega,List.getElem?_cons_succ,List.getElem?_cons_succ,List.getElem?_drop,List.getElem?_drop]
    congr 1;omega
theorem oK {α:Type} (d:α→Rat) (l:List α) (x:α):∀k,k≤l.length→(nj d l x k=0∨∃y,l[nj d l x k-1]? = some y∧d y≤d x)∧∀q y,nj d l x k≤q→q<k→l[q]? = some y→d x<d y
 |0,_=>⟨.inl rfl,fun q y _ hq=>by omega⟩
 |k+1,hk=>by
  obtain⟨y,hy⟩:∃y,l[k]? = some y:=⟨l[k],List.getElem?_eq_getElem (by omega)⟩
  obtain⟨h1,h2⟩:=oK d l x k (by omega)
  rw[nj,hy]
  dsimp only
  split
  ·rename_i hlt
   refine⟨h1,fun q z hq hqk hz=>?_⟩
   by_cases he:q=k
   ·subst he;rw[hy]at hz;cases hz;exact hlt
   ·exact h2 q z hq (by omega) hz
  ·rename_i hlt
   exact⟨.inr ⟨y,by rw[Nat.add_sub_cancel];exact hy,by grind⟩,fun q z hq hqk=>by omega⟩
theorem ra {α:Type} {d:α→Rat} {l:List α} (x:α) (h:l.Pairwise fun a b=>d a≤d b):(nY d l x).Pairwise fun a b=>d a≤d b:=by
 obtain⟨h1,h2⟩:=oK d l x l.length (Nat.le_refl _)
 rw[nY,ci,zF]
 generalize nj d l x l.length=k at *
 have hbefore:∀a∈l.take k,d a≤d x:=by
  intro a ha
  rcases h1 with h1|⟨y,hy,hyx⟩
  ·subst h1;simp at ha
  ·obtain⟨i,hi,rfl⟩:=List.getElem_of_mem ha
   have hi':i<k:=by simp at hi;omega
   have hil:i<l.length:=by simp at hi;omega
   obtain⟨hk1,hk2⟩:=List.getElem?_eq_some_iff.1 hy
   rw[List.getElem_take]
   by_cases he:i=k-1
   ·subst he;rw[hk2];exact hyx
   ·have:=List.pairwise_iff_getElem.1 h i (k-1) hil hk1 (by omega)
    rw[hk2]at this
    grind
 have hbehind:∀a∈l.drop k,d x≤d a:=by
  intro a ha
  obtain⟨i,hi,rfl⟩:=List.getElem_of_mem ha
  have hil:k+i<l.length:=by simp at hi;omega
  have:=h2 (k+i) l[k+i] (by omega) hil (List.getElem?_eq_getElem hil)
  rw[List.getElem_drop]
  grind
 refine List.pairwise_append.2 ⟨h.sublist (List.take_sublist _ _),List.pairwise_cons.2 ⟨hbehind,h.sublist (List.drop_sublist _ _)⟩,fun a ha b hb=>?_⟩
 rcases List.mem_cons.1 hb with rfl|hb
 ·exact hbefore a ha
 ·have:=hbefore a ha
  have:=hbehind b hb
  grind
theorem qs {α:Type} (d:α→Rat) (l:List α):(dC d l).Pairwise fun a b=>d a≤d b:=by
 have:∀(l acc:List α),acc.Pairwise (fun a b=>d a≤d b)→(l.foldl (nY d) acc).Pairwise fun a b=>d a≤d b:=by
  intro l
  induction l with
  |nil=>intro acc h;exact h
  |cons x l ih=>intro acc h;exact ih _ (ra x h)
 exact this l [] .nil
theorem mO {L:Lay} {fn:Func} {K:St→PV→Prop} {s:St} (h:fn.results.toList=[]) (hk:K s (.tup [])):ai L fn K .normal s:=by
 unfold ai
 exact⟨[],True,by rw[h];rfl,trivial,hk⟩
structure BN where
 at':RR
 up:RR
def dV (b:BN):List PV:=eR b.at'++eR b.up
def i8 (b:BN):Rat:=b.at'.val
theorem ym {p q:BN} (h1:p.at'.sz 7000000) (h2:q.at'.sz 7000000):Ret Tryz.prog .shared 203 [.agg (dV p),.agg (dV q)] (I (sgn (i8 p-i8 q))):=by
 have hc:=pz p.at' q.at' (hx:=h1.v) (hy:=h2.v) (by decide) (by decide)
 rw[show p.at'.val-q.at'.val=i8 p-i8 q from rfl]at hc
 generalize sgn (i8 p-i8 q)=g at *
 obtain⟨pa,pu⟩:=p
 obtain⟨qa,qu⟩:=q
 simp only at *
 refine Ret.of_pwp layOk mixed Go.Proofs.Tryz.func203 rfl (by decide) rfl rfl ?_
 repeat refine aa rfl ?_
 refine aP rfl rfl rfl hc rfl rfl rfl ?_
 repeat refine aa rfl ?_
 exact aO rfl rfl rfl
set_option maxRecDepth 20000 in
theorem Df {K:St→Prop} {s:St} {d g:Nat} {x y z c:Operand} {tys:Array TypeId} {ty:TypeId} {pos:String} {af:Array Edge} (l:List BN) (hl:l.length≤1000)
  (hx:s.ev x = .als 5 g 0 (l.map dV).length) (hy:s.ev y=I 0) (hz:s.ev z=I l.length) (hc:s.ev c = .clo 203 [])
  (hd:∀p∈l,p.at'.sz 7000000)
  (ho:FitO s [(5,g,⟨199,8,l.map dV,1⟩)])
  (hK:∀s1:St,K (({ reg:=s.reg,own:=(s1.over [] [(5,g,⟨199,8,(dC i8 l).map dV,1⟩)]).own }:St).putR d (.tup []))) :
  Sm Tryz.prog lay.get s ⟨some d,.call ⟨.value (.func 232),#[x,y,z,c],tys⟩,ty,pos,af,none⟩ K:=by
 refine cp layOk rfl rfl Tryz.func232 rfl (by decide) rfl rfl ?_
 show PWP _ _ _ _ (bC s (([x,y,z,c]:List Operand).map s.ev++[]))
 rw[show(([x,y,z,c]:List Operand).map s.ev++([]:List PV))=[.als 5 g 0 (l.map dV).length,I 0,I l.length,.clo 203 []] by simp[hx,hy,hz,hc]]
 rw[show bC s [.als 5 g 0 (l.map dV).length,I 0,I l.length,.clo 203 []]=bC (s.over [] [(5,g,⟨199,8,l.map dV,1⟩)]) [.als 5 g 0 (l.map dV).length,I 0,I l.length,.clo 203 []] by rw[Fit.over (l:=[]) ho]]
 have hen:(l.map dV).length=l.length:=by rw[List.length_map]
 have h1s:dC i8 (l.take 1)++l.drop 1=l:=by
  cases l with
  |nil=>rfl
  |cons x r=>rfl
 repeat refine aa rfl ?_
 refine am (fun i=>1≤i∧(i≤l.length∨i=1)) (fun i=>[(0,.als 5 g 0 (l.map dV).length),(1,I 0),(2,I l.length),(3,.clo 203 []),(8,I i)])
  (fun i=>[(5,g,⟨199,8,(dC i8 (l.take i)++l.drop i).map dV,1⟩)]) (fun i=>l.length+1-i) 1 ⟨Nat.le_refl _,.inr rfl⟩ ⟨rfl,rfl,rfl,rfl,rfl,by rw[h1s];rfl,trivial⟩ ?_
 rintro i s1 ⟨hi1,hi⟩
 repeat refine aa rfl ?_
 refine ab rfl ?_ ?_<;>intro h
 ·have hlt:i<l.length:=by have:=of_decide_eq_true h;omega
  clear h
  obtain⟨p,hp⟩:=aL hlt
  have hx0:=hp
  have htk:l.take (i+1)=l.take i++[p]:=bY hx0
  have hdr:l.drop i=p::l.drop (i+1):=by
   obtain⟨hl1,h2⟩:=List.getElem?_eq_some_iff.1 hx0
   rw[List.drop_eq_getElem_cons hl1,h2]
  generalize hP:dC i8 (l.take i)=P at *
  have hPl:P.length=i:=by rw[←hP,kZ,List.length_take];omega
  have hstart:P++l.drop i=ci P p i++l.drop (i+1):=by
   have hti:P.take i=P:=List.take_of_length_le (by omega)
   have hdi:P.drop i=[]:=List.drop_eq_nil_of_le (by omega)
   rw[hdr,ci,hti,hdi];simp
  repeat refine aa rfl ?_
  refine am (fun j=>j≤i∧∀q y,j≤q→P[q]? = some y→i8 p<i8 y) (fun j=>[(0,.als 5 g 0 (l.map dV).length),(1,I 0),(2,I l.length),(3,.clo 203 []),(8,I i),(9,I j)])
   (fun j=>[(5,g,⟨199,8,(ci P p j++l.drop (i+1)).map dV,1⟩)]) (fun j=>j) i ⟨Nat.le_refl _,fun q y hq hy=>by rw[List.getElem?_eq_none (by omega)]at hy;cases hy⟩ ⟨rfl,rfl,rfl,rfl,rfl,rfl,by rw[hstart];rfl,trivial⟩ ?_
  rintro j s2 ⟨hj,hpre⟩
  repeat refine aa rfl ?_
  refine ah 17 [18,19,20,21,22,23,24,25,26,27,28,29,30,31,32,33,34] (by decide +kernel) ?_
  repeat refine aa rfl ?_
  refine dr rfl rfl rfl ?_ ?_<;>intro h
  ·have hj0:0<j:=by have:=of_decide_eq_true h;omega
   clear h
   obtain⟨k,rfl⟩:∃k,j=k+1:=⟨j-1,by omega⟩
   have hrow:((ci P p (k+1)++l.drop (i+1)).map dV)[k+1]? = some (dV p):=by
    rw[List.getElem?_map,List.getElem?_append_left (by simp[ci];omega),q_ (by omega)];rfl
   obtain⟨y,hy1⟩:=aL (show k<P.length by omega)
   have hrow2:((ci P p (k+1)++l.drop (i+1)).map dV)[k]? = some (dV y):=by
    rw[List.getElem?_map,List.getElem?_append_left (by simp[ci];omega),mP (by omega) (by omega),hy1];rfl
   have hym:y∈l:=List.mem_of_mem_take ((gR i8 _).mem_iff.1 (hP▸List.mem_of_getElem? hy1))
   have hw1:IntKind.i64.wrap (((k+1:Nat):Int)-1)=(k:Nat):=by rw[wrap_i64 (by omega) (by omega)];omega
   repeat refine aa rfl ?_
   refine bH rfl rfl (bp rfl rfl rfl rfl rfl rfl rfl (by omega) (by rw[hen];omega)) ?_
   rw[Int.toNat_natCast,Nat.zero_add (k+1)]
   refine bH rfl rfl (cW rfl rfl rfl hrow rfl) ?_
   repeat refine aa rfl ?_
   rw[hw1]
   refine bH rfl rfl (bp rfl rfl rfl rfl rfl rfl rfl (by omega) (by rw[hen];omega)) ?_
   rw[Int.toNat_natCast,Nat.zero_add k]
   refine bH rfl rfl (cW rfl rfl rfl hrow2 rfl) ?_
   repeat refine aa rfl ?_
   refine aP rfl rfl rfl (ym (hd p (List.mem_of_getElem? hp)) (hd y hym)) rfl rfl rfl ?_
   repeat refine aa rfl ?_
   refine ab rfl ?_ ?_<;>intro h
   ·have hlt2:i8 p<i8 y:=by have:=(eE _).1 (of_decide_eq_true h);grind
    clear h
    repeat refine aa rfl ?_
    refine aU 15 0 [37,38,39,40,41,42,43,44,45,46,47,48,49,50,51] [2,3,4] (by decide +kernel) rfl ?_
    repeat refine aa rfl ?_
    rw[hw1]
    refine bH rfl rfl (bp rfl rfl rfl rfl rfl rfl rfl (by omega) (by rw[hen];omega)) ?_
    rw[Int.toNat_natCast,Nat.zero_add k]
    refine bH rfl rfl (cW rfl rfl rfl hrow2 rfl) ?_
    repeat refine aa rfl ?_
    refine bH rfl rfl (bp rfl rfl rfl rfl rfl rfl rfl (by omega) (by rw[hen];omega)) ?_
    rw[Int.toNat_natCast,Nat.zero_add (k+1)]
    refine bH rfl rfl (cW rfl rfl rfl hrow rfl) ?_
    repeat refine aa rfl ?_
    refine bH rfl rfl (bp rfl rfl rfl rfl rfl rfl rfl (by omega) (by rw[hen];omega)) ?_
    rw[Int.toNat_natCast,Nat.zero_add (k+1)]
    repeat refine aa rfl ?_
    refine bN (bL (kd':=1) rfl rfl rfl hrow rfl rfl (by repeat' constructor) rfl rfl rfl rfl ?_)
    refine bH rfl rfl (bp rfl rfl rfl rfl rfl rfl rfl (by omega) (by rw[hen];omega)) ?_
    rw[Int.toNat_natCast,Nat.zero_add k]
    refine bN (bL (kd':=1) rfl rfl rfl (row:=dV y) (by
     show(((ci P p (k+1)++l.drop (i+1)).map dV).set (k+1) _)[k]? = _
     rw[List.getElem?_set_ne (by omega)];exact hrow2) rfl rfl (by repeat' constructor) rfl rfl rfl rfl ?_)
    repeat refine aa rfl ?_
    refine⟨k,⟨by omega,fun q z hq hz=>?_⟩,by omega,rfl,rfl,rfl,rfl,rfl,?_,?_,trivial⟩
    ·by_cases hqk:q=k
     ·subst hqk;rw[hy1]at hz;cases hz;exact hlt2
     ·exact hpre q z (by omega) hz
    ·exact congrArg I hw1
    ·refine Eq.trans (b:=(g,some (Cont.mk 199 8 ((((ci P p (k+1)++l.drop (i+1)).map dV).set (k+1) (dV y)).set k (dV p)) 1))) rfl ?_
     rw[←List.map_set,←List.map_set,List.set_append_left _ _ (by simp[ci];omega),List.set_append_left _ _ (by simp[ci];omega),s_ (by omega) hy1]
   ·have hge2:i8 y≤i8 p:=by
     have h9:=of_decide_eq_false h
     rw[eE]at h9
     grind
    clear h
    have hpos:zF i8 P p=k+1:=uO (by omega) hpre (.inr ⟨y,hy1,hge2⟩)
    have hins:dC i8 (l.take (i+1))=ci P p (k+1):=by rw[htk,nF,hP,nY,hpos]
    repeat refine aa rfl ?_
    refine⟨i+1,⟨by omega,.inl (by omega)⟩,by omega,rfl,rfl,rfl,rfl,bV (by omega) (by omega),?_,trivial⟩
    rw[hins];rfl
  ·have hj0:j=0:=by have:=of_decide_eq_false h;omega
   subst hj0
   clear h
   have hpos:zF i8 P p=0:=uO (by omega) hpre (.inl rfl)
   have hins:dC i8 (l.take (i+1))=ci P p 0:=by rw[htk,nF,hP,nY,hpos]
   repeat refine aa rfl ?_
   refine⟨i+1,⟨by omega,.inl (by omega)⟩,by omega,rfl,rfl,rfl,rfl,bV (by omega) (by omega),?_,trivial⟩
   rw[hins];rfl
 ·have hge:l.length≤i:=by have:=of_decide_eq_false h;omega
  have hend:dC i8 (l.take i)++l.drop i=dC i8 l:=by
   rw[List.take_of_length_le hge,List.drop_eq_nil_of_le hge,List.append_nil]
  rw[hend]
  repeat refine aa rfl ?_
  exact mO rfl (hK s1)
set_option maxRecDepth 20000 in
theorem tY {K:St→Prop} {s:St} {d g:Nat} {x z c:Operand} {tys:Array TypeId} {ty:TypeId} {pos:String} {af:Array Edge} (l:List BN) (hl:l.length≤19)
  (hx:s.ev x = .als 5 g 0 (l.map dV).length) (hz:s.ev z=I l.length) (hc:s.ev c = .clo 203 [])
  (hd:∀p∈l,p.at'.sz 7000000)
  (ho:FitO s [(5,g,⟨199,8,l.map dV,1⟩)])
  (hK:∀s1:St,K (({ reg:=s.reg,own:=(s1.over [] [(5,g,⟨199,8,(dC i8 l).map dV,1⟩)]).own }:St).putR d (.tup []))) :
  Sm Tryz.prog lay.get s ⟨some d,.call ⟨.value (.func 218),#[x,z,c],tys⟩,ty,pos,af,none⟩ K:=by
 refine cp layOk rfl rfl Tryz.func218 rfl (by decide) rfl rfl ?_
 show PWP _ _ _ _ (bC s (([x,z,c]:List Operand).map s.ev++[]))
 rw[show(([x,z,c]:List Operand).map s.ev++([]:List PV))=[.als 5 g 0 (l.map dV).length,I l.length,.clo 203 []] by simp[hx,hz,hc]]
 rw[show bC s [.als 5 g 0 (l.map dV).length,I l.length,.clo 203 []]=bC (s.over [] [(5,g,⟨199,8,l.map dV,1⟩)]) [.als 5 g 0 (l.map dV).length,I l.length,.clo 203 []] by rw[Fit.over (l:=[]) ho]]
 repeat refine aa rfl ?_
 refine am (fun _:Unit=>True) (fun _=>[(0,.als 5 g 0 (l.map dV).length),(1,I l.length),(2,.clo 203 []),(6,I 20),(7,I 0),(8,I 20)])
  (fun _=>[(5,g,⟨199,8,l.map dV,1⟩)]) (fun _=>0) () trivial ⟨rfl,rfl,rfl,rfl,rfl,rfl,rfl,trivial⟩ ?_
 rintro _ s1 -
 repeat refine aa rfl ?_
 refine ab rfl ?_ ?_<;>intro h
 ·have:=of_decide_eq_true h;omega
 clear h
 ((repeat ((fail_if_success (with_reducible refine aT 6 ?_));refine dh rfl ?_));refine aG 4 ?_)
 repeat refine aa rfl ?_
 refine a_ rfl (Df l (by omega) rfl rfl rfl rfl hd ⟨rfl,trivial⟩ fun s2=>?_)
 refine aM ?_
 repeat refine aa rfl ?_
 refine am (fun _:Unit=>True) (fun _=>[(1,I l.length),(6,I 20)])
  (fun _=>[(5,g,⟨199,8,(dC i8 l).map dV,1⟩)]) (fun _=>0) () trivial ⟨rfl,rfl,rfl,trivial⟩ ?_
 rintro _ s3 -
 repeat refine aa rfl ?_
 refine ab rfl ?_ ?_<;>intro h
 ·have:=of_decide_eq_true h;omega
 clear h
 repeat refine aa rfl ?_
 exact mO rfl (hK s3)
set_option maxRecDepth 20000 in
theorem As {K:St→Prop} {s:St} {d g:Nat} {x c:Operand} {tys:Array TypeId} {ty:TypeId} {pos:String} {af:Array Edge} (l:List BN) (hl:l.length≤19)
  (hx:s.ev x = .als 5 g 0 (l.map dV).length) (hc:s.ev c = .clo 203 [])
  (hd:∀p∈l,p.at'.sz 7000000)
  (ho:FitO s [(5,g,⟨199,8,l.map dV,1⟩)])
  (hK:∀s1:St,K (({ reg:=s.reg,own:=(s1.over [] [(5,g,⟨199,8,(dC i8 l).map dV,1⟩)]).own }:St).putR d (.tup []))) :
  Sm Tryz.prog lay.get s ⟨some d,.call ⟨.value (.func 202),#[x,c],tys⟩,ty,pos,af,none⟩ K:=by
 refine cp layOk rfl rfl Tryz.func202 rfl (by decide) rfl rfl ?_
 show PWP _ _ _ _ (bC s (([x,c]:List Operand).map s.ev++[]))
 rw[show(([x,c]:List Operand).map s.ev++([]:List PV))=[.als 5 g 0 (l.map dV).length,.clo 203 []] by simp[hx,hc]]
 rw[show bC s [.als 5 g 0 (l.map dV).length,.clo 203 []]=bC (s.over [] [(5,g,⟨199,8,l.map dV,1⟩)]) [.als 5 g 0 (l.map dV).length,.clo 203 []] by rw[Fit.over (l:=[]) ho]]
 have hen:(l.map dV).length=l.length:=by rw[List.length_map]
 ((repeat ((fail_if_success (with_reducible refine aT 0 ?_));refine dh rfl ?_));refine aG 4 ?_)
 repeat refine aa rfl ?_
 refine a_ rfl (tY l hl rfl (congrArg (fun n:Nat=>I n) hen) rfl hd ⟨rfl,trivial⟩ fun s2=>?_)
 refine aM ?_
 repeat refine aa rfl ?_
 exact mO rfl (hK s2)
def jM (s:SR) (t:Rat):Rat:=s.c.val+t*(s.x:Rat)
def bn (s:SR) (t:Rat) (k:Nat):BN:=⟨ofQ (s.k.s k-jM s t),ofQ (s.k.m k-aI s.k.m k)⟩
def lq (t:Rat) (s:SR):List BN:=(List.range s.k.S.length).map (bn s t)
def i9 (l:List SR) (t:Rat):List BN:=l.flatMap (lq t)
theorem lQ (t:Rat) (s:SR):(lq t s).length=s.k.S.length:=by simp[lq]
theorem ug {s:SR} (hs:s.Lim) {t:Rat} {m:Nat} (ht:HQ t m):HQ (jM s t) (13+(m+4)+1):=by
 have hx:Zb s.x:=aE hs.x.1 hs.x.2
 exact @HQ.add _ _ 13 (m+4) hs.c.v.hq (@HQ.mul _ _ m 4 ht HQ.int)
theorem ui {s:SR} (hs:s.Lim) {t:Rat} {m:Nat} (ht:HQ t m) (k:Nat):HQ (s.k.s k-jM s t) (4+(13+(m+4)+1)+1):=by
 have hb:=km hs.k k
 have hzb:Zb (s.k.S.getD k 0):=aE hb.1 hb.2
 exact @HQ.sub _ _ 4 _ HQ.int (ug hs ht)
theorem ye {l:List SR} {t:Rat} {b:BN} (h:b∈i9 l t):∃s∈l,∃k,k<s.k.S.length∧b=bn s t k:=by
 obtain⟨s,hs,hb⟩:=List.mem_flatMap.1 h
 obtain⟨k,hk,rfl⟩:=List.mem_map.1 hb
 exact⟨s,hs,k,List.mem_range.1 hk,rfl⟩
def yd (l:List SR) (t:Rat):List BN:=dC i8 (i9 l t)
theorem tv (f:Nat→BN) (k:Nat):(List.range (k+1)).map f=(List.range k).map f++[f k]:=by rw[List.range_succ,List.map_append];rfl
set_option maxRecDepth 20000 in
structure SortC (l:List BN):Prop where
 run:∀ {K:St→Prop} {s:St} {d g:Nat} {x c:Operand} {tys:Array TypeId} {ty:TypeId} {pos:String} {af:Array Edge},s.ev x = .als 5 g 0 (l.map dV).length→s.ev c = .clo 203 []→(∀p∈l,p.at'.sz 7000000)→FitO s [(5,g,⟨199,8,l.map dV,1⟩)] →
  (∀s1:St,K (({ reg:=s.reg,own:=(s1.over [] [(5,g,⟨199,8,(dC i8 l).map dV,1⟩)]).own }:St).putR d (.tup [])))→Sm Tryz.prog lay.get s ⟨some d,.call ⟨.value (.func 202),#[x,c],tys⟩,ty,pos,af,none⟩ K
set_option maxRecDepth 20000 in
theorem u4 (l:List BN) (hl:l.length≤19):SortC l:=⟨fun hx hc hd ho hK=>As l hl hx hc hd ho hK⟩
set_option maxRecDepth 20000 in
theorem qL (l:List SR) (hl:eJ l) (hck:bD l=0) (h8:∀s∈l,s.k.S.length≤8) (h12:l.length≤12) (tr:RR) {t:Rat} {m:Nat} [ht:Vq tr t m] (hm:m≤1000000) (h40:(i9 l t).length≤40) (hS:SortC (i9 l t)) :
  Ret Tryz.prog .shared 162 [.sl (l.map eS),.agg (eR tr)] (.sl ((yd l t).map dV)):=by
 have hw0:=a8 0 ⟨by decide,by decide⟩
 have hml:(l.map eS).length=l.length:=by simp
 have hlen:∀i,i≤l.length→((l.take i).flatMap (lq t)).length≤40:=fun i hi=>by
  have:((l.take i).flatMap (lq t)).length≤(i9 l t).length:=by
   conv=>rhs;rw[i9,←List.take_append_drop i l,List.flatMap_append,List.length_append]
   omega
  omega
 refine Ret.of_pwp layOk mixed Go.Proofs.Tryz.func162 rfl (by decide) rfl rfl ?_
 repeat refine aa rfl ?_
 refine ay (Ghost.nilreg (k:=5) (t:=5) 199 8 1 rfl rfl) ?_
 refine am (fun i:Nat=>i≤l.length) (fun i=>[(3,.ptr 3 1 0 0),(5,.als 5 (((l.take i).flatMap (lq t)).length+1) 0 (((l.take i).flatMap (lq t)).map dV).length),(12,.sl (l.map eS)),(13,I l.length),(14,I (i:Nat))])
  (fun i=>[(3,1,⟨26,4,[eR tr],2⟩),(5,((l.take i).flatMap (lq t)).length+1,⟨199,8,((l.take i).flatMap (lq t)).map dV,1⟩)]) (fun i=>l.length-i) 0 (Nat.zero_le _) ⟨rfl,rfl,rfl,by rw[←hml];rfl,rfl,rfl,rfl,trivial⟩ ?_
 intro i s hi
 repeat refine aa rfl ?_
 refine ab rfl ?_ ?_<;>intro h
 ·have hlt:i<l.length:=by have:=of_decide_eq_true h;omega
  clear h
  obtain⟨x,hx⟩:=aL hlt
  have hxm:=List.mem_of_getElem? hx
  have hxl:=hl.1 x hxm
  have hkc:=bu hck x hxm
  obtain⟨h40,hSM,-,-⟩:=bP hkc
  have hk8:=h8 x hxm
  have hfl:(l.take (i+1)).flatMap (lq t)=(l.take i).flatMap (lq t)++lq t x:=by rw[bY hx,List.flatMap_append];simp
  have hA:=hlen i hi
  have hA1:=hlen (i+1) hlt
  rw[hfl,List.length_append,lQ]at hA1
  generalize (l.take i).flatMap (lq t)=A at *
  have hw:=gz i
  have hzx:Zb x.x:=aE hxl.x.1 hxl.x.2
  have e1:=a8 x.x hxl.x
  have e2:=fR tr (ofQ (x.x:Rat)) (by omega) (by decide)
  have v2:Vq (ofQ (t*(x.x:Rat))) (t*(x.x:Rat)) (m+1+4):=Vq.ofQ (h:=@HQ.mul _ _ (m+1) 4 ht.hq HQ.int)
  have e3:=et x.c (ofQ (t*(x.x:Rat))) (hx:=hxl.c.v) (hy:=v2) (by decide) (by omega)
  rw[show x.c.val+t*(x.x:Rat)=jM x t from rfl]at e3
  have vb:Vq (ofQ (jM x t)) (jM x t) (13+(m+1+4)+1):=Vq.ofQ (h:=ug hxl ht.hq)
  have hMl:(x.k.M.map eR).length=x.k.S.length:=by simp[hSM]
  repeat refine aa rfl ?_
  refine aZ rfl rfl rfl rfl rfl rfl rfl hx rfl ?_
  (repeat ((fail_if_success (with_reducible refine aT 5 ?_));refine dh rfl ?_))
  refine ay (fE 8) ?_
  refine aU 8 1 [18,19,20,21,22,23,24,25,8] [] (by decide +kernel) rfl ?_
  repeat refine aa rfl ?_
  refine ak rfl rfl rfl e1 rfl rfl ?_
  repeat refine aa rfl ?_
  refine ak rfl rfl rfl e2 rfl rfl ?_
  repeat refine aa rfl ?_
  refine ak rfl rfl rfl e3 rfl rfl ?_
  repeat refine aa rfl ?_
  refine ak rfl rfl rfl hw0 rfl rfl ?_
  repeat refine aa rfl ?_
  refine cg [(3,.ptr 3 1 0 0),(5,.als 5 (A.length+1) 0 (A.map dV).length),(7,.ptr 7 ((s.own 7).1+1) 0 0),(8,.ptr 8 ((s.own 8).1+2+1) 0 0),(9,.ptr 9 ((s.own 9).1+1) 0 0),(12,.sl (l.map eS)),(13,I l.length),(14,I (i:Nat)),(29,.sl (x.k.M.map eR)),(30,I (x.k.M.map eR).length),(31,I ((0:Nat):Int))]
   [(3,1,⟨26,4,[eR tr],2⟩),(5,A.length+1,⟨199,8,A.map dV,1⟩),(7,(s.own 7).1+1,⟨71,7,[eS x],2⟩),(8,(s.own 8).1+2+1,⟨26,4,[eR (ofQ (jM x t))],2⟩),(9,(s.own 9).1+1,⟨26,4,[eR (A5 x.k 0)],2⟩)]
   ⟨rfl,rfl,rfl,rfl,rfl,rfl,rfl,rfl,rfl,rfl,rfl,rfl,rfl,rfl,rfl,rfl,trivial⟩ ?_
  generalize (s.own 7).1+1=g7
  generalize (s.own 8).1+2+1=g8
  generalize (s.own 9).1+1=g9
  rw[hMl]
  intro s1
  refine am (fun k:Nat=>k≤x.k.S.length) (fun k=>[(3,.ptr 3 1 0 0),(5,.als 5 (A.length+k+1) 0 ((A++(List.range k).map (bn x t)).map dV).length),(7,.ptr 7 g7 0 0),(8,.ptr 8 g8 0 0),(9,.ptr 9 g9 0 0),(12,.sl (l.map eS)),(13,I l.length),(14,I (i:Nat)),(29,.sl (x.k.M.map eR)),(30,I x.k.S.length),(31,I (k:Nat))])
   (fun k=>[(3,1,⟨26,4,[eR tr],2⟩),(5,A.length+k+1,⟨199,8,(A++(List.range k).map (bn x t)).map dV,1⟩),(7,g7,⟨71,7,[eS x],2⟩),(8,g8,⟨26,4,[eR (ofQ (jM x t))],2⟩),(9,g9,⟨26,4,[eR (A5 x.k k)],2⟩)]) (fun k=>x.k.S.length-k) 0 (Nat.zero_le _)
   ⟨rfl,by rw[List.range_zero,List.map_nil,List.append_nil];rfl,rfl,rfl,rfl,rfl,rfl,rfl,rfl,rfl,rfl,rfl,by rw[List.range_zero,List.map_nil,List.append_nil];rfl,rfl,rfl,rfl,trivial⟩ ?_
  intro k s2 hk
  repeat refine aa rfl ?_
  refine ab rfl ?_ ?_<;>intro h
  ·have hlk:k<x.k.S.length:=by have:=of_decide_eq_true h;omega
   clear h
   have hsx:=aC (d:=0) hlk
   have hmx:=aC (l:=x.k.M) (i:=k) (d:=RR.zero) (by omega)
   have hxb:=km hxl.k k
   have hzb:Zb (x.k.S.getD k 0):=aE hxb.1 hxb.2
   have f1:=a8 (x.k.S.getD k 0) hxb
   rw[show((x.k.S.getD k 0:Int):Rat)=x.k.s k from rfl]at f1
   have vs:Vq (ofQ (x.k.s k)) (x.k.s k) 4:=Vq.ofQ (h:=HQ.int)
   have f2:=k7 (ofQ (x.k.s k)) (ofQ (jM x t)) (hx:=vs) (hy:=vb) (by decide) (by omega)
   have f3:=k7 (x.k.M.getD k RR.zero) (A5 x.k k) (hx:=pQ x.k hxl.k k) (hy:=lp x.k hxl.k k) (by decide) (by decide)
   have hwk:IntKind.i64.wrap (((k:Nat):Int)+1)=((k+1:Nat):Int):=by rw[wrap_i64 (by omega) (by omega)];omega
   have hrow:(A++(List.range (k+1)).map (bn x t)).map dV=(A++(List.range k).map (bn x t)).map dV++[eR (ofQ (x.k.s k-jM x t))++eR (ofQ (x.k.m k-aI x.k.m k))]:=by rw[tv,←List.append_assoc,List.map_append];rfl
   have hal:(A++(List.range k).map (bn x t)).length≤40:=by simp;omega
   generalize A++(List.range k).map (bn x t)=Ak at *
   generalize ofQ (x.k.s k-jM x t)=N1 at *
   generalize ofQ (x.k.m k-aI x.k.m k)=N2 at *
   generalize ofQ (x.k.s k)=N3 at *
   repeat refine aa rfl ?_
   refine aZ rfl rfl rfl rfl rfl rfl rfl hmx rfl ?_
   repeat refine aa rfl ?_
   refine bt [50,5] [14,15,16] (by decide +kernel) ?_
   repeat refine aa rfl ?_
   refine aZ rfl rfl rfl rfl rfl rfl rfl hsx rfl ?_
   repeat refine aa rfl ?_
   refine ak rfl rfl rfl f1 rfl rfl ?_
   repeat refine aa rfl ?_
   refine ak rfl rfl rfl f2 rfl rfl ?_
   repeat refine aa rfl ?_
   refine ak rfl rfl rfl f3 rfl rfl ?_
   repeat refine aa rfl ?_
   refine AT rfl rfl rfl (be 1 rfl rfl rfl rfl rfl rfl rfl rfl rfl rfl rfl (by repeat' constructor) rfl ⟨pW rfl,?_⟩)
   repeat refine aa rfl ?_
   refine AT rfl rfl rfl (bE 1 rfl rfl rfl rfl rfl rfl rfl rfl rfl rfl rfl (by repeat' constructor) (by intro row hr;first|(simp at hr;subst hr;rfl)|(simp at hr;obtain⟨_,_,rfl⟩:=hr;rfl)|simp at hr) rfl rfl (by simp;omega) (by simp;omega) ⟨pW rfl,?_⟩)
   repeat refine aa rfl ?_
   refine⟨k+1,hlk,by omega,rfl,?_,rfl,rfl,rfl,rfl,rfl,rfl,rfl,rfl,congrArg I hwk,rfl,?_,rfl,rfl,rfl,trivial⟩
   ·rw[hrow];rfl
   ·rw[hrow];rfl
  ·have hke:k=x.k.S.length:=by have:=of_decide_eq_false h;omega
   clear h
   subst hke
   rw[show(List.range x.k.S.length).map (bn x t)=lq t x from rfl]
   have hgl:A.length+x.k.S.length=((l.take (i+1)).flatMap (lq t)).length:=by rw[hfl,List.length_append,lQ]
   rw[←hfl,hgl]
   repeat refine aa rfl ?_
   exact⟨i+1,hlt,by omega,rfl,rfl,rfl,rfl,congrArg I hw,rfl,rfl,trivial⟩
 ·have hie:i=l.length:=by have:=of_decide_eq_false h;omega
  clear h
  subst hie
  rw[List.take_length]
  rw[show l.flatMap (lq t)=i9 l t from rfl]
  have hsz:∀p∈i9 l t,p.at'.sz 7000000:=fun p hp=>by
   obtain⟨s,hs,k,hk,rfl⟩:=ye hp
   have:=dp (ui (hl.1 s hs) ht.hq k).ok
   exact⟨by have:=this.1;show(ofQ (s.k.s k-jM s t)).n.l.length≤7000000;omega,by have:=this.2;show(ofQ (s.k.s k-jM s t)).d.l.length≤7000000;omega⟩
  ((repeat ((fail_if_success (with_reducible refine aT 14 ?_));refine dh rfl ?_));refine aG 1 ?_)
  refine aa rfl ?_
  refine aJ ?_
  refine a_ rfl (hS.run rfl rfl hsz ⟨rfl,trivial⟩ fun s1=>?_)
  rw[show dC i8 (i9 l t)=yd l t from rfl]
  have hol:(yd l t).length=(i9 l t).length:=kZ _ _
  have hol2:((i9 l t).map dV).length=((yd l t).map dV).length:=by simp[hol]
  rw[hol2]
  refine aM ?_
  repeat refine aa rfl ?_
  exact fP rfl rfl rfl (by repeat' constructor) rfl
def prB (n:BN):Rat × Rat:=(n.at'.val,n.up.val)
def fx (b:BR) (t:Rat):Rat:=xO (b.w:Rat) ((yd b.l t).map prB) 0 0 0
theorem A6 {l:List SR} {t:Rat} {n:BN} (h:n∈yd l t):∃s∈l,∃k,k<s.k.S.length∧n=bn s t k:=ye ((gR i8 _).mem_iff.1 h)
theorem rG {q:Rat}:ofQ (ofQ q).val=ofQ q:=by rw[ofQ_val]
set_option maxRecDepth 20000 in
theorem r7 (b:BR) (hb:b.Ok) {t:Rat} {m:Nat} (h40:(i9 b.l t).length≤40) (hS:SortC (i9 b.l t)) (tr:RR) [ht:Vq tr t m] (hm:m≤60000):Ret Tryz.prog .shared 98 [.agg (eB b),.agg (eR tr)] (.agg (eA ⟨ofQ (fx b t),ofQ t⟩)):=by
 have hw0:=a8 0 ⟨by decide,by decide⟩
 rw[show(((0:Int):Rat))=0 from rfl]at hw0
 have hww:=a8 b.w hb.lim.w
 have zw:Zb b.w:=aE hb.lim.w.1 hb.lim.w.2
 have vw:Vq (ofQ (b.w:Rat)) (b.w:Rat) 4:=Vq.ofQ (h:=HQ.int)
 have hbe:=qL b.l hb.lim.l hb.chkL hb.few.2 (by have:=hb.few.1;omega) tr (m:=m) (by omega) h40 hS
 have hlow:=Ey tr (by omega)
 have hol:(yd b.l t).length=(i9 b.l t).length:=kZ _ _
 have hol40:(yd b.l t).length≤40:=by omega
 have hat:∀n∈yd b.l t,n.at'=ofQ n.at'.val∧n.up=ofQ n.up.val∧HQ n.at'.val (m+30)∧HQ n.up.val 27:=fun n hn=>by
  obtain⟨s,hs,k,hk,rfl⟩:=A6 hn
  refine⟨rG.symm,rG.symm,?_,?_⟩
  ·show HQ (ofQ (s.k.s k-jM s t)).val (m+30)
   rw[ofQ_val]
   exact(ui (hb.lim.l.1 s hs) ht.hq k).mono (by omega)
  ·show HQ (ofQ (s.k.m k-aI s.k.m k)).val 27
   rw[ofQ_val]
   exact mX (hb.lim.l.1 s hs).k k
 generalize hZ:fx b t=Z
 rw[fx]at hZ
 generalize yd b.l t=B at *
 have hml:(B.map dV).length=B.length:=by simp
 obtain⟨w,ba,l⟩:=b
 simp only at *
 generalize (w:Rat)=W at *
 refine Ret.of_pwp layOk mixed Go.Proofs.Tryz.func98 rfl (by decide) rfl rfl ?_
 repeat refine aa rfl ?_
 refine ak rfl rfl rfl hw0 rfl rfl ?_
 repeat refine aa rfl ?_
 refine ak rfl rfl rfl hw0 rfl rfl ?_
 repeat refine aa rfl ?_
 refine ak rfl rfl rfl hww rfl rfl ?_
 repeat refine aa rfl ?_
 refine ak rfl rfl rfl hw0 rfl rfl ?_
 repeat refine aa rfl ?_
 refine ak rfl rfl rfl hbe rfl rfl ?_
 repeat refine aa rfl ?_
 refine am (fun q:Nat × Rat × Rat × Rat=>q.1≤B.length∧xO W ((B.drop q.1).map prB) q.2.1 q.2.2.1 q.2.2.2=Z∧HQ q.2.1 (q.1*(2*m+1300)+4)∧HQ q.2.2.1 (q.1*28+4)∧HQ q.2.2.2 (m+30)) (fun q=>[(3,.ptr 3 1 0 0),(4,.ptr 4 1 0 0),(5,.ptr 5 1 0 0),(6,.ptr 6 1 0 0),(7,.ptr 7 1 0 0),(8,.ptr 8 1 0 0),(21,.sl (B.map dV)),(22,I B.length),(23,I (q.1:Nat))])
  (fun q=>[(3,1,⟨26,4,[eR tr],2⟩),(4,1,⟨33,8,[zN++zN],2⟩),(5,1,⟨26,4,[eR (ofQ q.2.1)],2⟩),(6,1,⟨26,4,[eR (ofQ q.2.2.1)],2⟩),(7,1,⟨26,4,[eR (ofQ W)],2⟩),(8,1,⟨26,4,[eR (ofQ q.2.2.2)],2⟩)]) (fun q=>B.length-q.1) (0,0,0,0)
  ⟨Nat.zero_le _,by rw[List.drop_zero];exact hZ,HQ.zero.mono (by omega),HQ.zero.mono (by omega),HQ.zero.mono (by omega)⟩ ⟨rfl,rfl,rfl,rfl,rfl,rfl,rfl,by rw[←hml];rfl,rfl,rfl,rfl,rfl,rfl,rfl,rfl,trivial⟩ ?_
 rintro⟨i,c,k,a⟩ s ⟨hi,hS,hc,hk,ha⟩
 simp only at hi hS hc hk ha
 dsimp only
 have hcb:i*(2*m+1300)+4≤40*(2*m+1300)+4:=by have:=Nat.mul_le_mul (show i≤40 by omega) (Nat.le_refl (2*m+1300));omega
 have vk:Vq (ofQ k) k (i*28+4):=Vq.ofQ (h:=hk)
 have vc:Vq (ofQ c) c (i*(2*m+1300)+4):=Vq.ofQ (h:=hc)
 have va:Vq (ofQ a) a (m+30):=Vq.ofQ (h:=ha)
 have sgk:=nA (ofQ k) (hx:=vk) (by omega)
 have hsk:=fw k
 have t1:=k7 (ofQ W) (ofQ c) (hx:=vw) (hy:=vc) (by decide) (by omega)
 have u1:Vq (ofQ (W-c)) (W-c) (4+(i*(2*m+1300)+4)+1):=Vq.ofQ (h:=@HQ.sub _ _ 4 _ (bX vw) hc)
 generalize hgk:sgn k=gk at *
 repeat refine aa rfl ?_
 refine ab rfl ?_ ?_<;>intro h
 ·have hlt:i<B.length:=by have:=of_decide_eq_true h;omega
  clear h
  obtain⟨x,hx⟩:=aL hlt
  obtain⟨x1,x2,x3,x4⟩:=hat x (List.mem_of_getElem? hx)
  have hdr:(B.drop i).map prB=prB x::(B.drop (i+1)).map prB:=by
   obtain⟨hl1,h2⟩:=List.getElem?_eq_some_iff.1 hx
   rw[List.drop_eq_getElem_cons hl1,h2];rfl
  rw[hdr,xO]at hS
  have hw:=gz i
  obtain⟨xa,xu⟩:=x
  obtain⟨p,rfl⟩:∃p,xa=ofQ p:=⟨_,x1⟩
  obtain⟨u,rfl⟩:∃u,xu=ofQ u:=⟨_,x2⟩
  clear x1 x2
  simp only[prB,ofQ_val]at hS x3 x4
  have vp:Vq (ofQ p) p (m+30):=Vq.ofQ (h:=x3)
  have vu:Vq (ofQ u) u 27:=Vq.ofQ (h:=x4)
  have e1:=k7 (ofQ p) (ofQ a) (hx:=vp) (hy:=va) (by omega) (by omega)
  have w1:Vq (ofQ (p-a)) (p-a) (m+30+(m+30)+1):=Vq.ofQ (h:=@HQ.sub _ _ _ _ x3 ha)
  have e2:=fR (ofQ k) (ofQ (p-a)) (hx:=vk) (hy:=w1) (by omega) (by omega)
  have w2:Vq (ofQ (k*(p-a))) (k*(p-a)) (i*28+4+(m+30+(m+30)+1)):=Vq.ofQ (h:=@HQ.mul _ _ _ _ hk (bX w1))
  have e3:=et (ofQ c) (ofQ (k*(p-a))) (hx:=vc) (hy:=w2) (by omega) (by omega)
  have h3:HQ (c+k*(p-a)) ((i+1)*(2*m+1300)+4):=(@HQ.add _ _ _ _ hc (bX w2)).mono (by rw[Nat.add_mul];omega)
  have w3:Vq (ofQ (c+k*(p-a))) (c+k*(p-a)) ((i+1)*(2*m+1300)+4):=Vq.ofQ (h:=h3)
  have hcb1:(i+1)*(2*m+1300)+4≤41*(2*m+1300)+4:=by have:=Nat.mul_le_mul (show i+1≤41 by omega) (Nat.le_refl (2*m+1300));omega
  have e4:=pz (ofQ (c+k*(p-a))) (ofQ W) (hx:=w3) (hy:=vw) (by omega) (by decide)
  have hs4:=tO (c+k*(p-a)-W)
  have e5:=et (ofQ k) (ofQ u) (hx:=vk) (hy:=vu) (by omega) (by decide)
  have h5:HQ (k+u) ((i+1)*28+4):=(@HQ.add _ _ _ _ hk x4).mono (by omega)
  have h6:HQ c ((i+1)*(2*m+1300)+4):=hc.mono (by rw[Nat.add_mul];omega)
  by_cases hkp:0<k
  ·have hkg:0<gk:=by rw[←hgk];exact(fw k).2 hkp
   rw[if_pos hkp]at hS
   by_cases hr:W≤c+k*(p-a)
   ·rw[if_pos hr]at hS
    have hr4:0≤sgn (c+k*(p-a)-W):=hs4.2 (by grind)
    have t2:=rJ (ofQ (W-c)) (ofQ k) (hx:=u1) (hy:=vk) (by omega) (by omega) (by grind)
    have u2:Vq (ofQ ((W-c)/k)) ((W-c)/k) (4+(i*(2*m+1300)+4)+1+(i*28+4)):=Vq.ofQ (h:=@HQ.div _ _ _ _ (bX u1) hk)
    have t3:=et (ofQ a) (ofQ ((W-c)/k)) (hx:=va) (hy:=u2) (by omega) (by omega)
    rw[hS]at t3
    generalize sgn (c+k*(p-a)-W)=g4 at *
    generalize ofQ (c+k*(p-a))=Y1 at *
    repeat refine aa rfl ?_
    refine aZ rfl rfl rfl rfl rfl rfl rfl hx rfl ?_
    repeat refine aa rfl ?_
    refine aP rfl rfl rfl sgk rfl rfl rfl ?_
    repeat refine aa rfl ?_
    refine ab rfl ?_ ?_<;>intro h
    ·clear h
     (repeat ((fail_if_success (with_reducible refine aT 8 ?_));refine dh rfl ?_))
     refine ay (fE 11) ?_
     refine aU 8 1 [30,31,32,33,34,35,36,37,11] [] (by decide +kernel) rfl ?_
     repeat refine aa rfl ?_
     refine ak rfl rfl rfl e1 rfl rfl ?_
     repeat refine aa rfl ?_
     refine ak rfl rfl rfl e2 rfl rfl ?_
     repeat refine aa rfl ?_
     refine ak rfl rfl rfl e3 rfl rfl ?_
     repeat refine aa rfl ?_
     refine aP rfl rfl rfl e4 rfl rfl rfl ?_
     repeat refine aa rfl ?_
     refine ab rfl ?_ ?_<;>intro h
     ·clear h
      repeat refine aa rfl ?_
      refine aP rfl rfl rfl sgk rfl rfl rfl ?_
      repeat refine aa rfl ?_
      refine ab rfl ?_ ?_<;>intro h
      ·clear h
       repeat refine aa rfl ?_
       refine ah 7 [53,54,55,56,57,58,59] (by decide +kernel) ?_
       repeat refine aa rfl ?_
       refine ak rfl rfl rfl t1 rfl rfl ?_
       repeat refine aa rfl ?_
       refine ak rfl rfl rfl t2 rfl rfl ?_
       repeat refine aa rfl ?_
       refine ak rfl rfl rfl t3 rfl rfl ?_
       repeat refine aa rfl ?_
       refine ah 4 [60,61,62,63] (by decide +kernel) ?_
       repeat refine aa rfl ?_
       refine ak rfl rfl rfl hlow rfl rfl ?_
       repeat refine aa rfl ?_
       exact aF rfl rfl rfl
      ·exact absurd hkg (of_decide_eq_false h)
     ·exact absurd hr4 (of_decide_eq_false h)
    ·exact absurd hkg (of_decide_eq_false h)
   ·rw[if_neg hr]at hS
    have hr4:¬0≤sgn (c+k*(p-a)-W):=fun h=>by have:=hs4.1 h;grind
    generalize sgn (c+k*(p-a)-W)=g4 at *
    generalize hY1:ofQ (c+k*(p-a))=Y1 at *
    generalize hY2:ofQ (k+u)=Y2 at *
    repeat refine aa rfl ?_
    refine aZ rfl rfl rfl rfl rfl rfl rfl hx rfl ?_
    repeat refine aa rfl ?_
    refine aP rfl rfl rfl sgk rfl rfl rfl ?_
    repeat refine aa rfl ?_
    refine ab rfl ?_ ?_<;>intro h
    ·clear h
     (repeat ((fail_if_success (with_reducible refine aT 8 ?_));refine dh rfl ?_))
     refine ay (fE 11) ?_
     refine aU 8 1 [30,31,32,33,34,35,36,37,11] [] (by decide +kernel) rfl ?_
     repeat refine aa rfl ?_
     refine ak rfl rfl rfl e1 rfl rfl ?_
     repeat refine aa rfl ?_
     refine ak rfl rfl rfl e2 rfl rfl ?_
     repeat refine aa rfl ?_
     refine ak rfl rfl rfl e3 rfl rfl ?_
     repeat refine aa rfl ?_
     refine aP rfl rfl rfl e4 rfl rfl rfl ?_
     repeat refine aa rfl ?_
     refine ab rfl ?_ ?_<;>intro h
     ·exact absurd (of_decide_eq_true h) hr4
     ·clear h
      repeat refine aa rfl ?_
      refine ak rfl rfl rfl e5 rfl rfl ?_
      repeat refine aa rfl ?_
      refine⟨(i+1,c+k*(p-a),k+u,p),⟨hlt,hS,h3,h5,x3⟩,by simp only;omega,rfl,rfl,rfl,rfl,rfl,rfl,rfl,rfl,congrArg I hw,rfl,rfl,by rw[←hY1];rfl,by rw[←hY2];rfl,rfl,rfl,trivial⟩
    ·exact absurd hkg (of_decide_eq_false h)
  ·have hkg:¬0<gk:=fun h=>hkp (by rw[←hgk]at h;exact(fw k).1 h)
   rw[if_neg hkp]at hS
   generalize hY2:ofQ (k+u)=Y2 at *
   repeat refine aa rfl ?_
   refine aZ rfl rfl rfl rfl rfl rfl rfl hx rfl ?_
   repeat refine aa rfl ?_
   refine aP rfl rfl rfl sgk rfl rfl rfl ?_
   repeat refine aa rfl ?_
   refine ab rfl ?_ ?_<;>intro h
   ·exact absurd (of_decide_eq_true h) hkg
   ·clear h
    repeat refine aa rfl ?_
    refine ak rfl rfl rfl e5 rfl rfl ?_
    repeat refine aa rfl ?_
    refine⟨(i+1,c,k+u,p),⟨hlt,hS,h6,h5,x3⟩,by simp only;omega,rfl,rfl,rfl,rfl,rfl,rfl,rfl,rfl,congrArg I hw,rfl,rfl,rfl,by rw[←hY2];rfl,rfl,rfl,trivial⟩
 ·have hie:i=B.length:=by have:=of_decide_eq_false h;omega
  clear h
  rw[hie,List.drop_length,List.map_nil,xO]at hS
  by_cases hkp:0<k
  ·have hkg:0<gk:=by rw[←hgk];exact(fw k).2 hkp
   rw[if_pos hkp]at hS
   have t2:=rJ (ofQ (W-c)) (ofQ k) (hx:=u1) (hy:=vk) (by omega) (by omega) (by grind)
   have u2:Vq (ofQ ((W-c)/k)) ((W-c)/k) (4+(i*(2*m+1300)+4)+1+(i*28+4)):=Vq.ofQ (h:=@HQ.div _ _ _ _ (bX u1) hk)
   have t3:=et (ofQ a) (ofQ ((W-c)/k)) (hx:=va) (hy:=u2) (by omega) (by omega)
   rw[hS]at t3
   repeat refine aa rfl ?_
   refine aP rfl rfl rfl sgk rfl rfl rfl ?_
   repeat refine aa rfl ?_
   refine ab rfl ?_ ?_<;>intro h
   ·clear h
    repeat refine aa rfl ?_
    refine ah 7 [53,54,55,56,57,58,59] (by decide +kernel) ?_
    repeat refine aa rfl ?_
    refine ak rfl rfl rfl t1 rfl rfl ?_
    repeat refine aa rfl ?_
    refine ak rfl rfl rfl t2 rfl rfl ?_
    repeat refine aa rfl ?_
    refine ak rfl rfl rfl t3 rfl rfl ?_
    repeat refine aa rfl ?_
    refine ah 4 [60,61,62,63] (by decide +kernel) ?_
    repeat refine aa rfl ?_
    refine ak rfl rfl rfl hlow rfl rfl ?_
    repeat refine aa rfl ?_
    exact aF rfl rfl rfl
   ·exact absurd hkg (of_decide_eq_false h)
  ·have hkg:¬0<gk:=fun h=>hkp (by rw[←hgk]at h;exact(fw k).1 h)
   rw[if_neg hkp]at hS
   repeat refine aa rfl ?_
   refine aP rfl rfl rfl sgk rfl rfl rfl ?_
   repeat refine aa rfl ?_
   refine ab rfl ?_ ?_<;>intro h
   ·exact absurd (of_decide_eq_true h) hkg
   ·clear h
    repeat refine aa rfl ?_
    refine ah 4 [60,61,62,63] (by decide +kernel) ?_
    repeat refine aa rfl ?_
    refine ak rfl rfl rfl hlow rfl rfl ?_
    repeat refine aa rfl ?_
    exact sZ rfl (by repeat' constructor) rfl (by repeat' constructor) (by rw[←hS];rfl)
end Go.Pv
