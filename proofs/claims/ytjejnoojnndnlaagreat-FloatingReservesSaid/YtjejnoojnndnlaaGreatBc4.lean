/- Texts of one hand, gathered: FbN, FbO, FbP, FbQ, FrA, FrB, FrC, FrD, FrE, FrF, FrG, FrH, FaE, FmA, FmB, FcA, PvRg, FcB, FcC, FmC, FmD, FmE, FmF, FmG, FmH, FmI, FcD, FcE, FcF, FcG, FcH, FcI, FcJ, FcK, FcL, FcM, FcN. -/
import Derived.Test.YtjejnoojnndnlaaGreatBc3
set_option linter.unusedSectionVars false
set_option linter.unusedSimpArgs false
set_option linter.unusedVariables false
set_option linter.unnecessarySimpa false
set_option maxHeartbeats 2000000
namespace Go.Pv
attribute [local irreducible] PWP POps PQuiet PSem XThen XBlock RetPost InlPost
open Go.Proofs
theorem ofZ_l (z : Int) : (ofZ z).l = limbs z.natAbs := rfl
theorem RI.lt (a : RI) : a.val.natAbs < 65536 ^ a.l.length := by rw [RI.val_abs];exact nv_lt _
theorem ofZ_lenM (a b : RI) : (ofZ (a.val * b.val)).l.length ≤ a.l.length + b.l.length := by
 rw [ofZ_l,Int.natAbs_mul]
 exact limbs_len (mul_pw a.lt b.lt)
theorem ofZ_lenA (a b : RI) {n : Nat} (ha : a.l.length ≤ n) (hb : b.l.length ≤ n) : (ofZ (a.val + b.val)).l.length ≤ n + 1 := by
 rw [ofZ_l]
 refine limbs_len ?_
 have h1 := a.lt
 have h2 := b.lt
 have h3 := pw_mono ha
 have h4 := pw_mono hb
 rw [Nat.pow_succ]
 omega
theorem add_lenL {A B : List UInt16} {n : Nat} (hA : A.length ≤ n) (hB : B.length ≤ n) : (limbs (nv A + nv B)).length ≤ n + 1 := by
 refine limbs_len ?_
 have h1 := nv_lt A
 have h2 := nv_lt B
 have h3 := pw_mono hA
 have h4 := pw_mono hB
 rw [Nat.pow_succ]
 omega
set_option maxRecDepth 20000 in
theorem mulI_ret (a b : RI) (ha : a.l.length ≤ 90000000) (hb : b.l.length ≤ 90000000) : Ret Tryz.prog .shared 156 [.agg (eI a),.agg (eI b)] (.agg (eI (ofZ (a.val * b.val)))) := by
 have e : a.val * b.val = sgz (a.neg != b.neg) (nv a.l * nv b.l) := by
  rw [a.val_sgz,b.val_sgz]
  cases a.neg <;> cases b.neg <;> simp [sgz,Int.neg_mul,Int.mul_neg]
 have hl := ofZ_lenM a b
 rw [e] at hl ⊢
 have hta := trim_ret a.l (by omega)
 have htb := trim_ret b.l (by omega)
 have hla := trimL_len a.l
 have hlb := trimL_len b.l
 have ht := times_ret (trimL a.l) (trimL b.l) (by omega) (by omega)
 rw [trimL_nv,trimL_nv] at ht
 have hs := signed_ret (a.neg != b.neg) (limbs (nv a.l * nv b.l)) (by
  have := limbs_len (mul_pw (nv_lt a.l) (nv_lt b.l));omega)
 rw [nv_limbs] at hs
 obtain ⟨an,al⟩ := a
 obtain ⟨bn,bl⟩ := b
 simp only at *
 generalize trimL al = A at *
 generalize trimL bl = B at *
 generalize limbs (nv al * nv bl) = C at *
 generalize ofZ (sgz (an != bn) (nv al * nv bl)) = X at *
 refine Ret.of_pwp layOk mixed Go.Proofs.Tryz.func156 rfl (by decide) rfl rfl ?_
 repeat refine stq rfl ?_
 refine pw_draw 13 [5,6,7,8,9,10,11,12,13,14,15,16,17] (by decide +kernel) ?_
 repeat refine stq rfl ?_
 refine qst rfl rfl (q_cs rfl hta rfl rfl) ?_
 repeat refine stq rfl ?_
 refine qst rfl rfl (q_cs rfl htb rfl rfl) ?_
 repeat refine stq rfl ?_
 refine qst rfl rfl (q_cs rfl ht rfl rfl) ?_
 repeat refine stq rfl ?_
 refine qst rfl rfl (q_cs rfl hs rfl rfl) ?_
 repeat refine stq rfl ?_
 exact endm rfl (by repeat' constructor) rfl (by repeat' constructor) rfl
set_option maxRecDepth 20000 in
theorem addI_ret (a b : RI) (ha : a.l.length ≤ 90000000) (hb : b.l.length ≤ 90000000) : Ret Tryz.prog .shared 160 [.agg (eI a),.agg (eI b)] (.agg (eI (ofZ (a.val + b.val)))) := by
 have hta := trim_ret a.l (by omega)
 have htb := trim_ret b.l (by omega)
 have hla := trimL_len a.l
 have hlb := trimL_len b.l
 have hA := trimL_trm a.l
 have hB := trimL_trm b.l
 have hnA := trimL_nv a.l
 have hnB := trimL_nv b.l
 rw [a.val_sgz,b.val_sgz]
 obtain ⟨an,al⟩ := a
 obtain ⟨bn,bl⟩ := b
 simp only at *
 rw [← hnA,← hnB]
 generalize trimL al = A at *
 generalize trimL bl = B at *
 have hp := plus_ret A B (by omega) (by omega)
 have hcm := compare_ret A B (by omega) (by omega)
 have hcs := (cmpL_sign hA hB).1
 have hlA := limbs_lenL A
 have hlB := limbs_lenL B
 have hlp : (limbs (nv A + nv B)).length ≤ 300000000 := by
  have := add_lenL (n := 100000000) (A := A) (B := B) (by omega) (by omega)
  omega
 by_cases hs : an = bn
 ·subst hs
  have hd := signed_ret an (limbs (nv A + nv B)) hlp
  rw [nv_limbs] at hd
  have e : sgz an (nv A) + sgz an (nv B) = sgz an (nv A + nv B) := by cases an <;> simp only [sgz,Bool.false_eq_true,if_false,if_true] <;> omega
  rw [e]
  generalize limbs (nv A + nv B) = C at *
  generalize ofZ (sgz an (nv A + nv B)) = X at *
  refine Ret.of_pwp layOk mixed Go.Proofs.Tryz.func160 rfl (by decide) rfl rfl ?_
  repeat refine stq rfl ?_
  refine pw_draw 8 [7,8,9,10,11,12,5,6] (by decide +kernel) ?_
  repeat refine stq rfl ?_
  refine qst rfl rfl (q_cs rfl hta rfl rfl) ?_
  repeat refine stq rfl ?_
  refine qst rfl rfl (q_cs rfl htb rfl rfl) ?_
  repeat refine stq rfl ?_
  refine pw_cond rfl (fun h => ?_) (fun h => ?_)
  ·clear h
   repeat refine stq rfl ?_
   refine pw_draw 6 [18,19,20,21,22,23] (by decide +kernel) ?_
   repeat refine stq rfl ?_
   refine qst rfl rfl (q_cs rfl hp rfl rfl) ?_
   repeat refine stq rfl ?_
   refine qst rfl rfl (q_cs rfl hd rfl rfl) ?_
   repeat refine stq rfl ?_
   exact endm rfl (by repeat' constructor) rfl (by repeat' constructor) rfl
  ·exfalso
   simp at h
 ·have hmA : nv B ≤ nv A → Ret Tryz.prog .shared 190 [.sl (A.map eU),.sl (B.map eU)] (.sl ((limbs (nv A - nv B)).map eU)) := minus_ret A B (by omega) (by omega)
  have hmB : nv A ≤ nv B → Ret Tryz.prog .shared 190 [.sl (B.map eU),.sl (A.map eU)] (.sl ((limbs (nv B - nv A)).map eU)) := minus_ret B A (by omega) (by omega)
  have hlm : (limbs (nv A - nv B)).length ≤ 300000000 := by have := limbs_le (Nat.sub_le (nv A) (nv B));omega
  have hlm2 : (limbs (nv B - nv A)).length ≤ 300000000 := by have := limbs_le (Nat.sub_le (nv B) (nv A));omega
  have hdA := signed_ret an (limbs (nv A - nv B)) hlm
  have hdB := signed_ret bn (limbs (nv B - nv A)) hlm2
  rw [nv_limbs] at hdA hdB
  have eA : nv B ≤ nv A → sgz an (nv A) + sgz bn (nv B) = sgz an (nv A - nv B) := by intro h;cases an <;> cases bn <;> simp_all only [sgz,Bool.false_eq_true,if_false,if_true,not_true_eq_false,reduceCtorEq,not_false_eq_true] <;> omega
  have eB : nv A ≤ nv B → sgz an (nv A) + sgz bn (nv B) = sgz bn (nv B - nv A) := by intro h;cases an <;> cases bn <;> simp_all only [sgz,Bool.false_eq_true,if_false,if_true,not_true_eq_false,reduceCtorEq,not_false_eq_true] <;> omega
  generalize sgz an (nv A) + sgz bn (nv B) = Z at *
  generalize limbs (nv A - nv B) = C at *
  generalize limbs (nv B - nv A) = D at *
  generalize hX : ofZ (sgz an (nv A - nv B)) = X at *
  generalize hY : ofZ (sgz bn (nv B - nv A)) = Y at *
  refine Ret.of_pwp layOk mixed Go.Proofs.Tryz.func160 rfl (by decide) rfl rfl ?_
  repeat refine stq rfl ?_
  refine pw_draw 8 [7,8,9,10,11,12,5,6] (by decide +kernel) ?_
  repeat refine stq rfl ?_
  refine qst rfl rfl (q_cs rfl hta rfl rfl) ?_
  repeat refine stq rfl ?_
  refine qst rfl rfl (q_cs rfl htb rfl rfl) ?_
  repeat refine stq rfl ?_
  refine pw_cond rfl (fun h => ?_) (fun h => ?_)
  ·exfalso
   simp at h
   exact hs h
  ·clear h
   repeat refine stq rfl ?_
   refine qst rfl rfl (q_cp rfl hcm rfl rfl rfl) ?_
   repeat refine stq rfl ?_
   refine pw_cond rfl (fun h => ?_) (fun h => ?_)
   ·have hge : nv B ≤ nv A := by
     have h1 := of_decide_eq_true h
     omega
    clear h
    repeat refine stq rfl ?_
    refine pw_draw 6 [28,29,30,31,32,33] (by decide +kernel) ?_
    repeat refine stq rfl ?_
    refine qst rfl rfl (q_cs rfl (hmA hge) rfl rfl) ?_
    repeat refine stq rfl ?_
    refine qst rfl rfl (q_cs rfl hdA rfl rfl) ?_
    repeat refine stq rfl ?_
    exact endm rfl (by repeat' constructor) rfl (by repeat' constructor) (by rw [eA hge,hX];rfl)
   ·have hge : nv A ≤ nv B := by
     have h1 := of_decide_eq_false h
     omega
    clear h
    repeat refine stq rfl ?_
    refine pw_draw 6 [34,35,36,37,38,39] (by decide +kernel) ?_
    repeat refine stq rfl ?_
    refine qst rfl rfl (q_cs rfl (hmB hge) rfl rfl) ?_
    repeat refine stq rfl ?_
    refine qst rfl rfl (q_cs rfl hdB rfl rfl) ?_
    repeat refine stq rfl ?_
    exact endm rfl (by repeat' constructor) rfl (by repeat' constructor) (by rw [eB hge,hY];rfl)
end Go.Pv


set_option maxHeartbeats 2000000
namespace Go.Pv
attribute [local irreducible] PWP POps PQuiet PSem XThen XBlock RetPost InlPost
open Go.Proofs
theorem dn_len1 {x : RR} {n : Nat} (h : x.d.l.length ≤ n) : (dn x).l.length ≤ n + 1 := dn_len (by omega) (by omega)
theorem dn_int (x : RR) : (dn x).val ≠ 0 := by rw [Ne,RI.val_zero];exact dn_ne x
theorem ofZ_ne {z : Int} (h : z ≠ 0) : nv (ofZ z).l ≠ 0 := by rw [ofZ_l,nv_limbs];omega
theorem opposite_ret (a : RI) : Ret Tryz.prog .shared 183 [.agg (eI a)] (.agg (eI ⟨!a.neg,a.l⟩)) := by
 obtain ⟨an,al⟩ := a
 refine Ret.of_pwp layOk mixed Go.Proofs.Tryz.func183 rfl (by decide) rfl rfl ?_
 repeat refine stq rfl ?_
 exact endm rfl (by repeat' constructor) rfl (by repeat' constructor) rfl
theorem lowest_ret (x : RR) (hn : x.n.l.length ≤ 80000000) (hd : x.d.l.length ≤ 80000000) : Ret Tryz.prog .shared 159 [.agg (eR x)] (.agg (eR (ofQ x.val))) := by
 have hb := below_ret x (by omega)
 have hf := fraction_ret x.n (dn x) (by omega) (by have := dn_len1 hd;omega) (dn_ne x)
 rw [← RR.val_dn] at hf
 generalize dn x = D at *
 generalize ofQ x.val = X at *
 refine Ret.of_pwp layOk mixed Go.Proofs.Tryz.func159 rfl (by decide) rfl rfl ?_
 repeat refine stq rfl ?_
 refine pw_draw 5 [3,4,5,6,7] (by decide +kernel) ?_
 repeat refine stq rfl ?_
 refine qst rfl rfl (q_cs rfl hb rfl rfl) ?_
 repeat refine stq rfl ?_
 refine qst rfl rfl (q_cs rfl hf rfl rfl) ?_
 repeat refine stq rfl ?_
 exact endm rfl (by repeat' constructor) rfl (by repeat' constructor) rfl
theorem negative_ret (x : RR) (hn : x.n.l.length ≤ 80000000) (hd : x.d.l.length ≤ 80000000) : Ret Tryz.prog .shared 154 [.agg (eR x)] (.agg (eR (ofQ (-x.val)))) := by
 have hb := below_ret x (by omega)
 have ho := opposite_ret x.n
 have hf := fraction_ret ⟨!x.n.neg,x.n.l⟩ (dn x) (by simp only;omega) (by have := dn_len1 hd;omega) (dn_ne x)
 have e : (RI.mk (!x.n.neg) x.n.l).val = -x.n.val := by unfold RI.val;cases x.n.neg <;> simp
 rw [e,← quo_neg,← RR.val_dn] at hf
 generalize dn x = D at *
 generalize ofQ (-x.val) = X at *
 generalize RI.mk (!x.n.neg) x.n.l = N at *
 refine Ret.of_pwp layOk mixed Go.Proofs.Tryz.func154 rfl (by decide) rfl rfl ?_
 repeat refine stq rfl ?_
 refine pw_draw 6 [3,4,5,6,7,8] (by decide +kernel) ?_
 repeat refine stq rfl ?_
 refine qst rfl rfl (q_cs rfl ho rfl rfl) ?_
 repeat refine stq rfl ?_
 refine qst rfl rfl (q_cs rfl hb rfl rfl) ?_
 repeat refine stq rfl ?_
 refine qst rfl rfl (q_cs rfl hf rfl rfl) ?_
 repeat refine stq rfl ?_
 exact endm rfl (by repeat' constructor) rfl (by repeat' constructor) rfl
theorem addR_ret (x y : RR) (hxn : x.n.l.length ≤ 20000000) (hxd : x.d.l.length ≤ 20000000) (hyn : y.n.l.length ≤ 20000000) (hyd : y.d.l.length ≤ 20000000) : Ret Tryz.prog .shared 106 [.agg (eR x),.agg (eR y)] (.agg (eR (ofQ (x.val + y.val)))) := by
 have hzx := isZero_ret x (by omega)
 have hzy := isZero_ret y (by omega)
 have hlx := lowest_ret x (by omega) (by omega)
 have hly := lowest_ret y (by omega) (by omega)
 have hbx := below_ret x (by omega)
 have hby := below_ret y (by omega)
 have hdx := dn_len1 hxd
 have hdy := dn_len1 hyd
 have l1 := ofZ_lenM x.n (dn y)
 have l2 := ofZ_lenM y.n (dn x)
 have l3 := ofZ_lenM (dn x) (dn y)
 have m1 := mulI_ret x.n (dn y) (by omega) (by omega)
 have m2 := mulI_ret y.n (dn x) (by omega) (by omega)
 have m3 := mulI_ret (dn x) (dn y) (by omega) (by omega)
 have l4 := ofZ_lenA (ofZ (x.n.val * (dn y).val)) (ofZ (y.n.val * (dn x).val)) (n := 45000000) (by omega) (by omega)
 have m4 := addI_ret (ofZ (x.n.val * (dn y).val)) (ofZ (y.n.val * (dn x).val)) (by omega) (by omega)
 rw [ofZ_val,ofZ_val] at m4 l4
 have m5 := fraction_ret (ofZ (x.n.val * (dn y).val + y.n.val * (dn x).val)) (ofZ ((dn x).val * (dn y).val)) (by omega) (by omega) (ofZ_ne (Int.mul_ne_zero (dn_int x) (dn_int y)))
 rw [ofZ_val,ofZ_val,← quo_add _ _ _ _ (dn_int x) (dn_int y),← RR.val_dn,← RR.val_dn] at m5
 have e0 : x.val = 0 → ofQ (x.val + y.val) = ofQ y.val := fun h => by rw [h,Rat.zero_add]
 have e1 : y.val = 0 → ofQ (x.val + y.val) = ofQ x.val := fun h => by rw [h,Rat.add_zero]
 generalize ofZ (x.n.val * (dn y).val + y.n.val * (dn x).val) = W5 at *
 generalize ofZ (x.n.val * (dn y).val) = W1 at *
 generalize ofZ (y.n.val * (dn x).val) = W2 at *
 generalize ofZ ((dn x).val * (dn y).val) = W3 at *
 generalize dn x = A at *
 generalize dn y = B at *
 generalize ofQ (x.val + y.val) = X at *
 generalize ofQ x.val = X1 at *
 generalize ofQ y.val = X2 at *
 generalize x.val = xv at *
 generalize y.val = yv at *
 refine Ret.of_pwp layOk mixed Go.Proofs.Tryz.func106 rfl (by decide) rfl rfl ?_
 repeat refine stq rfl ?_
 refine qst rfl rfl (q_cp rfl hzx rfl rfl rfl) ?_
 repeat refine stq rfl ?_
 refine pw_cond rfl (fun h => ?_) (fun h => ?_)
 ·have e := e0 (of_decide_eq_true h)
  subst e
  clear h
  repeat refine stq rfl ?_
  refine qst rfl rfl (q_cs rfl hly rfl rfl) ?_
  repeat refine stq rfl ?_
  exact endm rfl (by repeat' constructor) rfl (by repeat' constructor) rfl
 clear h
 repeat refine stq rfl ?_
 refine qst rfl rfl (q_cp rfl hzy rfl rfl rfl) ?_
 repeat refine stq rfl ?_
 refine pw_cond rfl (fun h => ?_) (fun h => ?_)
 ·have e := e1 (of_decide_eq_true h)
  subst e
  clear h
  repeat refine stq rfl ?_
  refine qst rfl rfl (q_cs rfl hlx rfl rfl) ?_
  repeat refine stq rfl ?_
  exact endm rfl (by repeat' constructor) rfl (by repeat' constructor) rfl
 clear h
 repeat refine stq rfl ?_
 refine pw_draw2 4 2 [15,16,17,18,5,6] [] (by decide +kernel) rfl ?_
 repeat refine stq rfl ?_
 refine qst rfl rfl (q_cs rfl hbx rfl rfl) ?_
 repeat refine stq rfl ?_
 refine qst rfl rfl (q_cs rfl hby rfl rfl) ?_
 repeat refine stq rfl ?_
 refine pw_draw 13 [19,20,21,22,23,24,25,26,27,28,29,30,31] (by decide +kernel) ?_
 repeat refine stq rfl ?_
 refine qst rfl rfl (q_cs rfl m1 rfl rfl) ?_
 repeat refine stq rfl ?_
 refine qst rfl rfl (q_cs rfl m2 rfl rfl) ?_
 repeat refine stq rfl ?_
 refine qst rfl rfl (q_cs rfl m4 rfl rfl) ?_
 repeat refine stq rfl ?_
 refine qst rfl rfl (q_cs rfl m3 rfl rfl) ?_
 repeat refine stq rfl ?_
 refine qst rfl rfl (q_cs rfl m5 rfl rfl) ?_
 repeat refine stq rfl ?_
 exact endm rfl (by repeat' constructor) rfl (by repeat' constructor) rfl
end Go.Pv


set_option maxHeartbeats 2000000
namespace Go.Pv
attribute [local irreducible] PWP POps PQuiet PSem XThen XBlock RetPost InlPost
open Go.Proofs
theorem hq_len {q : Rat} {n : Nat} (h : hq q n) : (ofQ q).n.l.length ≤ n ∧ (ofQ q).d.l.length ≤ n := (hq_sz h).ok
theorem addR (x y : RR) {p q : Rat} {n m : Nat} [hx : Vq x p n] [hy : Vq y q m] (hn : n ≤ 20000000) (hm : m ≤ 20000000) : Ret Tryz.prog .shared 106 [.agg (eR x),.agg (eR y)] (.agg (eR (ofQ (p + q)))) := by
 have h1 := hx.sz
 have h2 := hy.sz
 have := addR_ret x y (by omega) (by omega) (by omega) (by omega)
 rwa [hx.val,hy.val] at this
theorem ofQ_lenN {x : RR} {n : Nat} (h1 : x.n.l.length ≤ n) (h2 : x.d.l.length ≤ n) : (ofQ (-x.val)).n.l.length ≤ n + 1 ∧ (ofQ (-x.val)).d.l.length ≤ n + 1 :=
 hq_len (hq_neg (SZ.hq (x := x) ⟨h1,h2⟩))
theorem subR_ret (x y : RR) (hxn : x.n.l.length ≤ 10000000) (hxd : x.d.l.length ≤ 10000000) (hyn : y.n.l.length ≤ 10000000) (hyd : y.d.l.length ≤ 10000000) : Ret Tryz.prog .shared 100 [.agg (eR x),.agg (eR y)] (.agg (eR (ofQ (x.val - y.val)))) := by
 have hneg := negative_ret y (by omega) (by omega)
 have hl := ofQ_lenN hyn hyd
 have ha := addR_ret x (ofQ (-y.val)) (by omega) (by omega) (by omega) (by omega)
 rw [ofQ_val,← Rat.sub_eq_add_neg] at ha
 generalize ofQ (-y.val) = Y at *
 generalize ofQ (x.val - y.val) = X at *
 refine Ret.of_pwp layOk mixed Go.Proofs.Tryz.func100 rfl (by decide) rfl rfl ?_
 repeat refine stq rfl ?_
 refine pw_draw 4 [5,6,7,8] (by decide +kernel) ?_
 repeat refine stq rfl ?_
 refine qst rfl rfl (q_cs rfl hneg rfl rfl) ?_
 repeat refine stq rfl ?_
 refine qst rfl rfl (q_cs rfl ha rfl rfl) ?_
 repeat refine stq rfl ?_
 exact endm rfl (by repeat' constructor) rfl (by repeat' constructor) rfl
theorem subR (x y : RR) {p q : Rat} {n m : Nat} [hx : Vq x p n] [hy : Vq y q m] (hn : n ≤ 10000000) (hm : m ≤ 10000000) : Ret Tryz.prog .shared 100 [.agg (eR x),.agg (eR y)] (.agg (eR (ofQ (p - q)))) := by
 have h1 := hx.sz
 have h2 := hy.sz
 have := subR_ret x y (by omega) (by omega) (by omega) (by omega)
 rwa [hx.val,hy.val] at this
theorem mulR_ret (x y : RR) (hxn : x.n.l.length ≤ 20000000) (hxd : x.d.l.length ≤ 20000000) (hyn : y.n.l.length ≤ 20000000) (hyd : y.d.l.length ≤ 20000000) : Ret Tryz.prog .shared 105 [.agg (eR x),.agg (eR y)] (.agg (eR (ofQ (x.val * y.val)))) := by
 have hbx := below_ret x (by omega)
 have hby := below_ret y (by omega)
 have hdx := dn_len1 hxd
 have hdy := dn_len1 hyd
 have l1 := ofZ_lenM x.n y.n
 have l3 := ofZ_lenM (dn x) (dn y)
 have m1 := mulI_ret x.n y.n (by omega) (by omega)
 have m3 := mulI_ret (dn x) (dn y) (by omega) (by omega)
 have m5 := fraction_ret (ofZ (x.n.val * y.n.val)) (ofZ ((dn x).val * (dn y).val)) (by omega) (by omega) (ofZ_ne (Int.mul_ne_zero (dn_int x) (dn_int y)))
 rw [ofZ_val,ofZ_val,← quo_mul,← RR.val_dn,← RR.val_dn] at m5
 generalize ofZ (x.n.val * y.n.val) = W1 at *
 generalize ofZ ((dn x).val * (dn y).val) = W3 at *
 generalize dn x = A at *
 generalize dn y = B at *
 generalize ofQ (x.val * y.val) = X at *
 refine Ret.of_pwp layOk mixed Go.Proofs.Tryz.func105 rfl (by decide) rfl rfl ?_
 repeat refine stq rfl ?_
 refine pw_draw 11 [5,6,7,8,9,10,11,12,13,14,15] (by decide +kernel) ?_
 repeat refine stq rfl ?_
 refine qst rfl rfl (q_cs rfl m1 rfl rfl) ?_
 repeat refine stq rfl ?_
 refine qst rfl rfl (q_cs rfl hbx rfl rfl) ?_
 repeat refine stq rfl ?_
 refine qst rfl rfl (q_cs rfl hby rfl rfl) ?_
 repeat refine stq rfl ?_
 refine qst rfl rfl (q_cs rfl m3 rfl rfl) ?_
 repeat refine stq rfl ?_
 refine qst rfl rfl (q_cs rfl m5 rfl rfl) ?_
 repeat refine stq rfl ?_
 exact endm rfl (by repeat' constructor) rfl (by repeat' constructor) rfl
theorem mulR (x y : RR) {p q : Rat} {n m : Nat} [hx : Vq x p n] [hy : Vq y q m] (hn : n ≤ 20000000) (hm : m ≤ 20000000) : Ret Tryz.prog .shared 105 [.agg (eR x),.agg (eR y)] (.agg (eR (ofQ (p * q)))) := by
 have h1 := hx.sz
 have h2 := hy.sz
 have := mulR_ret x y (by omega) (by omega) (by omega) (by omega)
 rwa [hx.val,hy.val] at this
theorem overR_ret (x y : RR) (hxn : x.n.l.length ≤ 20000000) (hxd : x.d.l.length ≤ 20000000) (hyn : y.n.l.length ≤ 20000000) (hyd : y.d.l.length ≤ 20000000) (h0 : y.val ≠ 0) : Ret Tryz.prog .shared 175 [.agg (eR x),.agg (eR y)] (.agg (eR (ofQ (x.val / y.val)))) := by
 have hbx := below_ret x (by omega)
 have hby := below_ret y (by omega)
 have hdx := dn_len1 hxd
 have hdy := dn_len1 hyd
 have hy0 : y.n.val ≠ 0 := by rw [Ne,RI.val_zero,← RR.zero_iff];exact h0
 have l1 := ofZ_lenM x.n (dn y)
 have l3 := ofZ_lenM (dn x) y.n
 have m1 := mulI_ret x.n (dn y) (by omega) (by omega)
 have m3 := mulI_ret (dn x) y.n (by omega) (by omega)
 have m5 := fraction_ret (ofZ (x.n.val * (dn y).val)) (ofZ ((dn x).val * y.n.val)) (by omega) (by omega) (ofZ_ne (Int.mul_ne_zero (dn_int x) hy0))
 rw [ofZ_val,ofZ_val,← quo_div,← RR.val_dn,← RR.val_dn] at m5
 generalize ofZ (x.n.val * (dn y).val) = W1 at *
 generalize ofZ ((dn x).val * y.n.val) = W3 at *
 generalize dn x = A at *
 generalize dn y = B at *
 generalize ofQ (x.val / y.val) = X at *
 refine Ret.of_pwp layOk mixed Go.Proofs.Tryz.func175 rfl (by decide) rfl rfl ?_
 repeat refine stq rfl ?_
 refine pw_draw 11 [5,6,7,8,9,10,11,12,13,14,15] (by decide +kernel) ?_
 repeat refine stq rfl ?_
 refine qst rfl rfl (q_cs rfl hby rfl rfl) ?_
 repeat refine stq rfl ?_
 refine qst rfl rfl (q_cs rfl m1 rfl rfl) ?_
 repeat refine stq rfl ?_
 refine qst rfl rfl (q_cs rfl hbx rfl rfl) ?_
 repeat refine stq rfl ?_
 refine qst rfl rfl (q_cs rfl m3 rfl rfl) ?_
 repeat refine stq rfl ?_
 refine qst rfl rfl (q_cs rfl m5 rfl rfl) ?_
 repeat refine stq rfl ?_
 exact endm rfl (by repeat' constructor) rfl (by repeat' constructor) rfl
theorem overR (x y : RR) {p q : Rat} {n m : Nat} [hx : Vq x p n] [hy : Vq y q m] (hn : n ≤ 20000000) (hm : m ≤ 20000000) (h0 : q ≠ 0) : Ret Tryz.prog .shared 175 [.agg (eR x),.agg (eR y)] (.agg (eR (ofQ (p / q)))) := by
 have h1 := hx.sz
 have h2 := hy.sz
 have := overR_ret x y (by omega) (by omega) (by omega) (by omega) (by rw [hy.val];exact h0)
 rwa [hx.val,hy.val] at this
theorem signOf_ret (x : RR) (hn : x.n.l.length ≤ 20000000) (hd : x.d.l.length ≤ 20000000) : Ret Tryz.prog .shared 135 [.agg (eR x)] (I (sgn x.val)) := by
 have hb := below_ret x (by omega)
 have h1 := sign_ret x.n (by omega)
 have h2 := sign_ret (dn x) (by have := dn_len1 hd;omega)
 rw [sgn_sgi]
 have hw : IntKind.i64.wrap (sgi x.n.val * sgi (dn x).val) = sgi x.n.val * sgi (dn x).val := by
  refine wrap_i64 ?_ ?_ <;> (unfold sgi;split <;> split <;> (try split) <;> (try split) <;> omega)
 generalize sgi x.n.val = s1 at *
 generalize sgi (dn x).val = s2 at *
 generalize dn x = D at *
 refine Ret.of_pwp layOk mixed Go.Proofs.Tryz.func135 rfl (by decide) rfl rfl ?_
 repeat refine stq rfl ?_
 refine pw_draw 8 [3,4,5,6,7,8,9,2] (by decide +kernel) ?_
 repeat refine stq rfl ?_
 refine qst rfl rfl (q_cp rfl h1 rfl rfl rfl) ?_
 repeat refine stq rfl ?_
 refine qst rfl rfl (q_cs rfl hb rfl rfl) ?_
 repeat refine stq rfl ?_
 refine qst rfl rfl (q_cp rfl h2 rfl rfl rfl) ?_
 repeat refine stq rfl ?_
 rw [hw]
 exact end1i rfl rfl rfl
theorem signR (x : RR) {p : Rat} {n : Nat} [hx : Vq x p n] (hn : n ≤ 20000000) : Ret Tryz.prog .shared 135 [.agg (eR x)] (I (sgn p)) := by
 have h1 := hx.sz
 have := signOf_ret x (by omega) (by omega)
 rwa [hx.val] at this
theorem isZeroR (x : RR) {p : Rat} {n : Nat} [hx : Vq x p n] (hn : n ≤ 20000000) : Ret Tryz.prog .shared 158 [.agg (eR x)] (.bool (decide (p = 0))) := by
 have h1 := hx.sz
 have := isZero_ret x (by omega)
 rwa [hx.val] at this
theorem cmpR (x y : RR) {p q : Rat} {n m : Nat} [hx : Vq x p n] [hy : Vq y q m] (hn : n ≤ 8000000) (hm : m ≤ 8000000) : Ret Tryz.prog .shared 65 [.agg (eR x),.agg (eR y)] (I (sgn (p - q))) := by
 have h1 := hx.sz
 have h2 := hy.sz
 have hs := subR x y (by omega) (by omega)
 have hh : hq (p - q) (n + 1 + (m + 1) + 1) := (HQ.sub (h1 := hx.hq) (h2 := hy.hq)).ok
 have hl := hq_len hh
 have hg := signOf_ret (ofQ (p - q)) (by omega) (by omega)
 rw [ofQ_val] at hg
 generalize ofQ (p - q) = X at *
 generalize sgn (p - q) = g at *
 refine Ret.of_pwp layOk mixed Go.Proofs.Tryz.func65 rfl (by decide) rfl rfl ?_
 repeat refine stq rfl ?_
 refine qst rfl rfl (q_cs rfl hs rfl rfl) ?_
 repeat refine stq rfl ?_
 refine qst rfl rfl (q_cp rfl hg rfl rfl rfl) ?_
 repeat refine stq rfl ?_
 exact end1i rfl rfl rfl
theorem quoR_ret (x y : RR) {p q : Rat} {n m : Nat} [hx : Vq x p n] [hy : Vq y q m] (hn : n ≤ 20000000) (hm : m ≤ 20000000) : Ret Tryz.prog .shared 132 [.agg (eR x),.agg (eR y)] (if q = 0 then .tup [.agg (eR RR.zero),I 9] else .tup [.agg (eR (ofQ (p / q))),I 0]) := by
 have hz := isZeroR y hm
 by_cases h0 : q = 0
 ·rw [if_pos h0]
  rw [decide_eq_true h0] at hz
  refine Ret.of_pwp layOk mixed Go.Proofs.Tryz.func132 rfl (by decide) rfl rfl ?_
  repeat refine stq rfl ?_
  refine qst rfl rfl (q_cp rfl hz rfl rfl rfl) ?_
  ((repeat ((fail_if_success (with_reducible refine pw_rt2 ?_));refine stx rfl ?_));refine pw_ghost (Ghost.nilcell (k := 1007) (k0 := 4) (i := 0) (j := 1) 180 1 0 rfl rfl rfl rfl (row := [.bool false,.nil,.bool false,.nil]) rfl rfl rfl) ?_;refine pw_ghost (Ghost.nilcell (k := 1021) (k0 := 4) (i := 0) (j := 3) 180 1 0 rfl rfl rfl rfl (row := [.bool false,_,.bool false,.nil]) rfl rfl rfl) ?_)
  repeat refine stq rfl ?_
  exact endm rfl (by repeat' constructor) rfl (by repeat' constructor) rfl
 ·rw [if_neg h0]
  rw [decide_eq_false h0] at hz
  have ho := overR x y hn hm h0
  generalize ofQ (p / q) = X at *
  refine Ret.of_pwp layOk mixed Go.Proofs.Tryz.func132 rfl (by decide) rfl rfl ?_
  repeat refine stq rfl ?_
  refine qst rfl rfl (q_cp rfl hz rfl rfl rfl) ?_
  repeat refine stq rfl ?_
  refine qst rfl rfl (q_cs rfl ho rfl rfl) ?_
  repeat refine stq rfl ?_
  exact endm rfl (by repeat' constructor) rfl (by repeat' constructor) rfl
end Go.Pv


set_option maxHeartbeats 2000000
namespace Go.Pv
attribute [local irreducible] PWP POps PQuiet PSem XThen XBlock RetPost InlPost
open Go.Proofs
theorem ofZ_len4 {z : Int} (h : z.natAbs < 18446744073709551616) : (ofZ z).l.length ≤ 4 := by
 rw [ofZ_l]
 refine limbs_len ?_
 have : (65536 : Nat) ^ 4 = 18446744073709551616 := by decide
 omega
theorem wrap_u64mod (z : Int) : IntKind.u64.wrap z = z % 18446744073709551616 := by
 have e : (2 : Int) ^ 64 = 18446744073709551616 := by decide
 simp only [IntKind.wrap,IntKind.bits,IntKind.signed,Bool.false_and,Bool.false_eq_true,if_false,e]
theorem wrap_u64neg {z : Int} (h0 : -9223372036854775808 ≤ z) (h1 : z < 0) : IntKind.u64.wrap (0 - (IntKind.u64.wrap z)) = ((z.natAbs : Nat) : Int) := by
 rw [wrap_u64mod,wrap_u64mod]
 omega
set_option maxRecDepth 20000 in
theorem of_ret (z : Int) (h0 : -9223372036854775808 ≤ z) (h1 : z ≤ 9223372036854775807) : Ret Tryz.prog .shared 153 [I z] (.agg (eI (ofZ z))) := by
 have hn := natural_ret z.natAbs (by omega)
 have hl := ofZ_len4 (z := z) (by omega)
 rw [ofZ_l] at hl
 have hs := signed_ret (decide (z < 0)) (limbs z.natAbs) (by omega)
 rw [nv_limbs] at hs
 have e : sgz (decide (z < 0)) z.natAbs = z := by
  by_cases h : z < 0
  ·rw [decide_eq_true h,sgz,if_pos rfl];omega
  ·rw [decide_eq_false h,sgz,if_neg (by decide)];omega
 rw [e] at hs
 generalize ofZ z = X at *
 by_cases hz : z < 0
 ·have hw := wrap_u64neg h0 hz
  rw [decide_eq_true hz] at hs
  generalize limbs z.natAbs = A at *
  refine Ret.of_pwp layOk mixed Go.Proofs.Tryz.func153 rfl (by decide) rfl rfl ?_
  repeat refine stq rfl ?_
  refine pw_cond rfl (fun h => ?_) (fun h => ?_)
  ·clear h
   repeat refine stq rfl ?_
   rw [hw]
   refine qst rfl rfl (q_cs rfl hn rfl rfl) ?_
   repeat refine stq rfl ?_
   refine qst rfl rfl (q_cs rfl hs rfl rfl) ?_
   repeat refine stq rfl ?_
   exact endm rfl (by repeat' constructor) rfl (by repeat' constructor) rfl
  ·exact absurd hz (of_decide_eq_false h)
 ·have hw : IntKind.u64.wrap z = ((z.natAbs : Nat) : Int) := by
   rw [wrap_u64 (by omega) (by omega)];omega
  rw [decide_eq_false hz] at hs
  generalize limbs z.natAbs = A at *
  refine Ret.of_pwp layOk mixed Go.Proofs.Tryz.func153 rfl (by decide) rfl rfl ?_
  repeat refine stq rfl ?_
  refine pw_cond rfl (fun h => ?_) (fun h => ?_)
  ·exact absurd (of_decide_eq_true h) hz
  ·clear h
   repeat refine stq rfl ?_
   rw [hw]
   refine qst rfl rfl (q_cs rfl hn rfl rfl) ?_
   repeat refine stq rfl ?_
   refine qst rfl rfl (q_cs rfl hs rfl rfl) ?_
   repeat refine stq rfl ?_
   exact endm rfl (by repeat' constructor) rfl (by repeat' constructor) rfl
theorem whole_ret (a : RI) (ha : a.l.length ≤ 90000000) : Ret Tryz.prog .shared 152 [.agg (eI a)] (.agg (eR (ofQ (a.val : Rat)))) := by
 have hf := fraction_ret a ⟨false,[1]⟩ ha (by decide) (by decide)
 rw [show (RI.mk false [1]).val = 1 by rfl] at hf
 rw [show ((a.val : Rat) / ((1 : Int) : Rat)) = (a.val : Rat) by grind] at hf
 generalize ofQ (a.val : Rat) = X at *
 refine Ret.of_pwp layOk mixed Go.Proofs.Tryz.func152 rfl (by decide) rfl rfl ?_
 repeat refine stq rfl ?_
 refine qst rfl rfl (q_slit rfl rfl rfl rfl rfl rfl rfl rfl rfl rfl (by repeat' constructor) rfl) ?_
 repeat refine stq rfl ?_
 refine qst rfl rfl (q_cs rfl hf rfl rfl) ?_
 repeat refine stq rfl ?_
 exact endm rfl (by repeat' constructor) rfl (by repeat' constructor) rfl
theorem number_ret (z : Int) (h0 : -9223372036854775808 ≤ z) (h1 : z ≤ 9223372036854775807) : Ret Tryz.prog .shared 161 [I z] (.agg (eR (ofQ (z : Rat)))) := by
 have ho := of_ret z h0 h1
 have hw := whole_ret (ofZ z) (by have := ofZ_len4 (z := z) (by omega);omega)
 rw [ofZ_val] at hw
 generalize ofQ (z : Rat) = X at *
 generalize ofZ z = Z at *
 refine Ret.of_pwp layOk mixed Go.Proofs.Tryz.func161 rfl (by decide) rfl rfl ?_
 repeat refine stq rfl ?_
 refine qst rfl rfl (q_cs rfl ho rfl rfl) ?_
 repeat refine stq rfl ?_
 refine qst rfl rfl (q_cs rfl hw rfl rfl) ?_
 repeat refine stq rfl ?_
 exact endm rfl (by repeat' constructor) rfl (by repeat' constructor) rfl
end Go.Pv


namespace Go.Pv
def dgN (l : List UInt16) (i : Nat) : Nat := (l.getD i 0).toNat
theorem dgN_lt (l : List UInt16) (i : Nat) : dgN l i < 65536 := u16_lt _
theorem dgN_ge {l : List UInt16} {i : Nat} (h : l.length ≤ i) : dgN l i = 0 := by
 rw [dgN,List.getD_eq_getElem?_getD,List.getElem?_eq_none h];rfl
theorem nv_dg (l : List UInt16) (i : Nat) : nv (l.take (i + 1)) = nv (l.take i) + 65536 ^ i * dgN l i := by
 rcases Nat.lt_or_ge i l.length with h | h
 ·exact nv_get (getD_at h)
 ·rw [dgN_ge h,List.take_of_length_le h,List.take_of_length_le (by omega)];omega
structure RPlus (A B : List UInt16) (q : Nat × List UInt16 × Nat) : Prop where
 l : q.2.1.length = q.1
 c : q.2.2 ≤ 1
 k : q.1 ≤ A.length + B.length + 1
 v : nv q.2.1 + 65536 ^ q.1 * q.2.2 = nv (A.take q.1) + nv (B.take q.1)
theorem rplus_step {A B : List UInt16} {k : Nat} {L : List UInt16} {c : Nat} (h : RPlus A B (k,L,c)) (hk : k < A.length ∨ k < B.length ∨ 0 < c) :
  RPlus A B (k + 1,L ++ [UInt16.ofNat (dgN A k + dgN B k + c)],(dgN A k + dgN B k + c) / 65536) ∧ k < A.length + B.length + 1 := by
 obtain ⟨h1,h2,h3,h4⟩ := h
 simp only at h1 h2 h3 h4
 have hx := dgN_lt A k
 have hy := dgN_lt B k
 have hkk : k < A.length + B.length + 1 := by
  rcases Nat.lt_or_ge k (A.length + B.length + 1) with g | g
  ·exact g
  ·exfalso
   have hc : 0 < c := by omega
   have e1 := nv_lt A
   have e2 := nv_lt B
   rw [List.take_of_length_le (l := A) (by omega),List.take_of_length_le (l := B) (by omega)] at h4
   have p1 : 65536 ^ A.length * 65536 ≤ 65536 ^ k := by rw [← Nat.pow_succ];exact Nat.pow_le_pow_right (by decide) (by omega)
   have p2 : 65536 ^ B.length * 65536 ≤ 65536 ^ k := by rw [← Nat.pow_succ];exact Nat.pow_le_pow_right (by decide) (by omega)
   have p3 : 65536 ^ k * 1 ≤ 65536 ^ k * c := Nat.mul_le_mul_left _ hc
   omega
 refine ⟨⟨by simp [h1],by simp only;omega,by simp only;omega,?_⟩,hkk⟩
 simp only
 rw [nv_snoc,nv_dg A,nv_dg B,h1,u16_nat,Nat.pow_succ]
 have e : (dgN A k + dgN B k + c) % 65536 + 65536 * ((dgN A k + dgN B k + c) / 65536) = dgN A k + dgN B k + c := Nat.mod_add_div _ _
 generalize (dgN A k + dgN B k + c) % 65536 = m at *
 generalize (dgN A k + dgN B k + c) / 65536 = d at *
 generalize 65536 ^ k = W at *
 have : W * (m + 65536 * d) = W * (dgN A k + dgN B k + c) := by rw [e]
 simp only [Nat.mul_add] at this
 rw [Nat.mul_assoc]
 omega
theorem rplus_end {A B : List UInt16} {k : Nat} {L : List UInt16} {c : Nat} (h : RPlus A B (k,L,c)) (hk : ¬ (k < A.length ∨ k < B.length ∨ 0 < c)) : nv L = nv A + nv B := by
 obtain ⟨h1,h2,h3,h4⟩ := h
 simp only at h1 h2 h3 h4
 rw [List.take_of_length_le (l := A) (by omega),List.take_of_length_le (l := B) (by omega),show c = 0 by omega] at h4
 omega
structure RMin (A B : List UInt16) (q : Nat × List UInt16 × Nat) : Prop where
 l : q.2.1.length = q.1
 c : q.2.2 ≤ 1
 k : q.1 ≤ A.length
 v : nv q.2.1 + nv (B.take q.1) = nv (A.take q.1) + 65536 ^ q.1 * q.2.2
def sbD (x y c : Nat) : Nat := if x < y + c then x + 65536 - y - c else x - y - c
def sbC (x y c : Nat) : Nat := if x < y + c then 1 else 0
theorem sb_eq {x y c : Nat} (hx : x < 65536) (hy : y < 65536) (hc : c ≤ 1) : sbD x y c + y + c = x + 65536 * sbC x y c ∧ sbD x y c < 65536 ∧ sbC x y c ≤ 1 := by
 unfold sbD sbC;split <;> omega
theorem rmin_step {A B : List UInt16} {k : Nat} {L : List UInt16} {c : Nat} (h : RMin A B (k,L,c)) (hk : k < A.length) :
  RMin A B (k + 1,L ++ [UInt16.ofNat (sbD (dgN A k) (dgN B k) c)],sbC (dgN A k) (dgN B k) c) := by
 obtain ⟨h1,h2,h3,h4⟩ := h
 simp only at h1 h2 h3 h4
 obtain ⟨e,e2,e3⟩ := sb_eq (dgN_lt A k) (dgN_lt B k) h2
 refine ⟨by simp [h1],e3,hk,?_⟩
 simp only
 rw [nv_snoc,nv_dg A,nv_dg B,h1,u16_nat,Nat.mod_eq_of_lt e2,Nat.pow_succ]
 generalize sbD (dgN A k) (dgN B k) c = m at *
 generalize sbC (dgN A k) (dgN B k) c = d at *
 generalize 65536 ^ k = W at *
 have : W * (m + dgN B k + c) = W * (dgN A k + 65536 * d) := by rw [e]
 simp only [Nat.mul_add] at this
 rw [Nat.mul_assoc]
 omega
theorem rmin_end {A B L : List UInt16} {c : Nat} (h : RMin A B (A.length,L,c)) (hle : nv B ≤ nv A) : nv L = nv A - nv B := by
 obtain ⟨h1,h2,h3,h4⟩ := h
 simp only at h1 h2 h3 h4
 rw [List.take_length] at h4
 have e1 := nv_lt L
 rw [h1] at e1
 have e2 := nv_le_take B A.length
 have e3 : nv (B.take A.length) = nv B ∧ c = 0 := by
  have e4 : 65536 ^ A.length ≠ 0 := Nat.ne_of_gt (pw_pos _)
  have hc : c = 0 := by
   rcases Nat.eq_zero_or_pos c with g | g
   ·exact g
   ·have : c = 1 := by omega
    subst this
    have := nv_take_lt B A.length
    omega
  refine ⟨?_,hc⟩
  subst hc
  rcases Nat.lt_or_ge A.length B.length with g | g
  ·have e5 := nv_split B A.length (by omega)
   have e6 := nv_lt A
   rcases Nat.eq_zero_or_pos (nv (B.drop A.length)) with g2 | g2
   ·rw [g2] at e5;omega
   ·have : 65536 ^ A.length * 1 ≤ 65536 ^ A.length * nv (B.drop A.length) := Nat.mul_le_mul_left _ g2
    omega
  ·rw [List.take_of_length_le g]
 rw [e3.1,e3.2] at h4
 omega
structure RTimO (A B : List UInt16) (q : Nat × List UInt16) : Prop where
 i : q.1 ≤ A.length
 l : q.2.length = A.length + B.length + 1
 v : nv q.2 = nv (A.take q.1) * nv B
structure RTimI (A B : List UInt16) (i : Nat) (q : Nat × List UInt16 × Nat) : Prop where
 k : q.1 ≤ B.length + 1
 l : q.2.1.length = A.length + B.length + 1
 c : q.2.2 < 65536
 v : nv q.2.1 + 65536 ^ (i + q.1) * q.2.2 = nv (A.take i) * nv B + 65536 ^ i * (dgN A i * nv (B.take q.1))
theorem rtim_first {A B : List UInt16} {i : Nat} {R : List UInt16} (h : RTimO A B (i,R)) : RTimI A B i (0,R,0) := ⟨Nat.zero_le _,h.l,Nat.zero_lt_succ _,by
 have := h.v
 simp only at this ⊢
 rw [List.take_zero,nv];omega⟩
theorem rtim_k {A B : List UInt16} {i k : Nat} {R : List UInt16} {c : Nat} (h : RTimI A B i (k,R,c)) (hk : k < B.length ∨ 0 < c) : k ≤ B.length := by
 rcases hk with hk | hk
 ·omega
 ·obtain ⟨h1,h2,h3,h4⟩ := h
  simp only at h1 h2 h3 h4
  rcases Nat.lt_or_ge B.length k with g | g
  ·exfalso
   rw [List.take_of_length_le (l := B) (by omega)] at h4
   have e1 := nv_take_lt A i
   have e2 := dgN_lt A i
   have e3 := nv_lt B
   have e4 : nv (A.take i) * nv B + 65536 ^ i * (dgN A i * nv B) = (nv (A.take i) + 65536 ^ i * dgN A i) * nv B := by rw [Nat.add_mul,Nat.mul_assoc]
   have e5 : nv (A.take i) + 65536 ^ i * dgN A i < 65536 ^ (i + 1) := by
    have : 65536 ^ i * dgN A i ≤ 65536 ^ i * 65535 := Nat.mul_le_mul_left _ (by omega)
    rw [Nat.pow_succ];omega
   have e6 : (nv (A.take i) + 65536 ^ i * dgN A i) * nv B < 65536 ^ (i + 1 + B.length) := mul_pw e5 e3
   have e7 : 65536 ^ (i + 1 + B.length) ≤ 65536 ^ (i + k) := Nat.pow_le_pow_right (by decide) (by omega)
   have e8 : 65536 ^ (i + k) * 1 ≤ 65536 ^ (i + k) * c := Nat.mul_le_mul_left _ hk
   omega
  ·exact g
theorem rtim_step {A B : List UInt16} {i k : Nat} {R : List UInt16} {c : Nat} {r : UInt16} (h : RTimI A B i (k,R,c)) (hkB : k ≤ B.length) (hr : R[i + k]? = some r) :
  RTimI A B i (k + 1,R.set (i + k) (UInt16.ofNat (r.toNat + dgN A i * dgN B k + c)),(r.toNat + dgN A i * dgN B k + c) / 65536) := by
 obtain ⟨h1,h2,h3,h4⟩ := h
 simp only at h1 h2 h3 h4
 have hx := dgN_lt A i
 have hyl := dgN_lt B k
 have hrl := u16_lt r
 have hm := mul16 hx hyl
 refine ⟨by simp only;omega,by simp [h2],by simp only;omega,?_⟩
 simp only
 have hs := nv_set hr (UInt16.ofNat (r.toNat + dgN A i * dgN B k + c))
 rw [u16_nat] at hs
 rw [nv_dg B,show i + (k + 1) = (i + k) + 1 by omega,Nat.pow_succ]
 have e := Nat.mod_add_div (r.toNat + dgN A i * dgN B k + c) 65536
 generalize (r.toNat + dgN A i * dgN B k + c) % 65536 = m at *
 generalize (r.toNat + dgN A i * dgN B k + c) / 65536 = d at *
 have e2 : 65536 ^ i * (dgN A i * (nv (B.take k) + 65536 ^ k * dgN B k)) = 65536 ^ i * (dgN A i * nv (B.take k)) + 65536 ^ (i + k) * (dgN A i * dgN B k) := by
  rw [Nat.mul_add,Nat.mul_add,Nat.pow_add]
  congr 1
  simp only [Nat.mul_assoc,Nat.mul_left_comm,Nat.mul_comm]
 rw [e2]
 generalize 65536 ^ (i + k) = W at *
 have e3 : W * (m + 65536 * d) = W * (r.toNat + dgN A i * dgN B k + c) := by rw [e]
 simp only [Nat.mul_add] at e3
 rw [Nat.mul_assoc]
 omega
theorem rtim_next {A B : List UInt16} {i k : Nat} {R : List UInt16} {c : Nat} (h : RTimI A B i (k,R,c)) (hi : i < A.length) (hk : ¬ (k < B.length ∨ 0 < c)) : RTimO A B (i + 1,R) := by
 obtain ⟨h1,h2,h3,h4⟩ := h
 simp only at h1 h2 h3 h4
 rw [List.take_of_length_le (l := B) (by omega),show c = 0 by omega] at h4
 refine ⟨hi,h2,?_⟩
 simp only
 rw [nv_dg A,Nat.add_mul,Nat.mul_assoc]
 omega
structure ROvr (A B : List UInt16) (q : Nat × List UInt16 × Nat) : Prop where
 i : q.1 ≤ A.length
 l : q.2.1.length = A.length
 u : nv (q.2.1.drop q.1) = nv (A.drop q.1) / nv B
 r : q.2.2 = nv (A.drop q.1) % nv B
theorem rovr_first {A B : List UInt16} : ROvr A B (A.length,List.replicate A.length 0,0) :=
 ⟨Nat.le_refl _,by simp,by simp [nv],by simp [nv]⟩
theorem rovr_step {A B : List UInt16} {i : Nat} {Q : List UInt16} {r : Nat} {x : UInt16} (hb : 0 < nv B) (h : ROvr A B (i + 1,Q,r)) (hx : A[i]? = some x) :
  (x.toNat + 65536 * r) / nv B < 65536 ∧ ROvr A B (i,Q.set i (UInt16.ofNat ((x.toNat + 65536 * r) / nv B)),(x.toNat + 65536 * r) % nv B) := by
 obtain ⟨h1,h2,h3,h4⟩ := h
 simp only at h1 h2 h3 h4
 have hxl := u16_lt x
 have hrb : r < nv B := by rw [h4];exact Nat.mod_lt _ hb
 have hq : (x.toNat + 65536 * r) / nv B < 65536 := by
  refine Nat.div_lt_of_lt_mul ?_
  have : 65536 * (r + 1) ≤ 65536 * nv B := Nat.mul_le_mul_left _ hrb
  rw [Nat.mul_comm (nv B)]
  omega
 refine ⟨hq,by simp only;omega,by simp [h2],?_,?_⟩
 ·simp only
  have hget : (Q.set i (UInt16.ofNat ((x.toNat + 65536 * r) / nv B)))[i]? = some (UInt16.ofNat ((x.toNat + 65536 * r) / nv B)) := List.getElem?_set_self (by omega)
  rw [nv_drop hget,nv_drop hx,u16_nat,Nat.mod_eq_of_lt hq]
  have e2 : (Q.set i (UInt16.ofNat ((x.toNat + 65536 * r) / nv B))).drop (i + 1) = Q.drop (i + 1) := by
   apply List.ext_getElem?;intro j
   rw [List.getElem?_drop,List.getElem?_drop,List.getElem?_set_ne (by omega)]
  rw [e2,h3]
  generalize nv (A.drop (i + 1)) = D at *
  have e3 := Nat.mod_add_div D (nv B)
  rw [← h4] at e3
  have e4 : x.toNat + 65536 * D = (x.toNat + 65536 * r) + nv B * (65536 * (D / nv B)) := by
   have e5 : nv B * (65536 * (D / nv B)) = 65536 * (nv B * (D / nv B)) := by rw [Nat.mul_left_comm]
   rw [e5];omega
  rw [e4,Nat.add_mul_div_left _ _ hb]
 ·simp only
  rw [nv_drop hx]
  generalize nv (A.drop (i + 1)) = D at *
  have e3 := Nat.mod_add_div D (nv B)
  rw [← h4] at e3
  have e4 : x.toNat + 65536 * D = (x.toNat + 65536 * r) + nv B * (65536 * (D / nv B)) := by
   have e5 : nv B * (65536 * (D / nv B)) = 65536 * (nv B * (D / nv B)) := by rw [Nat.mul_left_comm]
   rw [e5];omega
  rw [e4,Nat.add_mul_mod_self_left]
theorem rovr_end {A B Q : List UInt16} {r : Nat} (h : ROvr A B (0,Q,r)) : nv Q = nv A / nv B ∧ r = nv A % nv B := by
 have h1 := h.u
 have h2 := h.r
 simp only [List.drop_zero] at h1 h2
 exact ⟨h1,h2⟩
end Go.Pv


set_option maxHeartbeats 2000000
namespace Go.Pv
attribute [local irreducible] PWP POps PQuiet PSem XThen XBlock RetPost InlPost
open Go.Proofs
def eD (x : UInt16) : List PV := [I x.toNat]
theorem digit_ret (a : List UInt16) (i : Nat) (ha : a.length ≤ 1000000000) (hi : i ≤ 4000000000) : Ret Tryz.prog .shared 178 [.sl (a.map eD),I i] (I (dgN a i)) := by
 have hal : (a.map eD).length = a.length := by simp
 by_cases hlt : i < a.length
 ·have hx := getD_at (l := a) (i := i) hlt
  rw [dgN]
  generalize a.getD i 0 = x at *
  refine Ret.of_pwp layOk mixed Go.Proofs.Tryz.func178 rfl (by decide) rfl rfl ?_
  repeat refine stq rfl ?_
  refine pw_cond rfl (fun h => ?_) (fun h => ?_)
  ·clear h
   repeat refine stq rfl ?_
   refine qst rfl rfl (q_idxm rfl rfl rfl rfl rfl (by omega) hx rfl) ?_
   repeat refine stq rfl ?_
   exact end1i rfl rfl rfl
  ·have := of_decide_eq_false h;omega
 ·rw [dgN_ge (by omega)]
  refine Ret.of_pwp layOk mixed Go.Proofs.Tryz.func178 rfl (by decide) rfl rfl ?_
  repeat refine stq rfl ?_
  refine pw_cond rfl (fun h => ?_) (fun h => ?_)
  ·have := of_decide_eq_true h;omega
  ·repeat refine stq rfl ?_
   exact end1i rfl rfl rfl
theorem rtrim_ret (l : List UInt16) (hl : l.length ≤ 1000000000) : Ret Tryz.prog .shared 177 [.sl (l.map eD)] (.sl ((trimL l).map eD)) := by
 have hml : (l.map eD).length = l.length := by simp
 refine Ret.of_pwp layOk mixed Go.Proofs.Tryz.func177 rfl (by decide) rfl rfl ?_
 repeat refine stq rfl ?_
 refine pw_loop (fun k => k ≤ l.length ∧ nv (l.take k) = nv l) (fun k => [(0,.sl (l.map eD)),(3,I (k : Nat))]) (fun _ => []) (fun k => k) l.length ⟨Nat.le_refl _,by rw [List.take_length]⟩ ⟨rfl,by rw [← hml];rfl,trivial⟩ ?_
 rintro k s ⟨hk,hv⟩
 have hkl : (l.take k).length = k := by rw [List.length_take];omega
 have fin : (∀ j,k = j + 1 → ∀ x,l[j]? = some x → x.toNat ≠ 0) → l.take k = trimL l := by
  intro h0
  rw [trimL,← hv]
  refine (limbs_nv fun y hy => ?_).symm
  rw [List.getLast?_eq_getElem?,hkl] at hy
  have hk0 : 0 < k := by
   rcases Nat.eq_zero_or_pos k with h | h
   ·subst h;rw [List.take_zero] at hy;cases hy
   ·exact h
  rw [List.getElem?_take,if_pos (by omega)] at hy
  exact h0 (k - 1) (by omega) y hy
 have ending : (l.take k).map eD = (l.map eD).take k := by rw [List.map_take]
 repeat refine stq rfl ?_
 (first|refine ps_split rfl rfl ?_ ?_|refine pq_split rfl rfl ?_ ?_|refine p3_split rfl rfl ?_ ?_)<;>intro h
 ·have hk0 : 0 < k := by have := of_decide_eq_true h;omega
  clear h
  obtain ⟨j,rfl⟩ : ∃ j,k = j + 1 := ⟨k - 1,by omega⟩
  obtain ⟨x,hx⟩ := get_lt (show j < l.length by omega)
  have hw1 : IntKind.i64.wrap (((j + 1 : Nat) : Int) - 1) = (j : Nat) := by rw [wrap_i64 (by omega) (by omega)];omega
  repeat refine stq rfl ?_
  rw [hw1]
  refine qst rfl rfl (q_idxm rfl rfl rfl rfl rfl (by omega) hx rfl) ?_
  repeat refine stq rfl ?_
  refine pw_cond rfl (fun h => ?_) (fun h => ?_)
  ·have hx0 : x.toNat = 0 := by have := of_decide_eq_true h;omega
   clear h
   repeat refine stq rfl ?_
   refine ⟨j,⟨by omega,?_⟩,by omega,rfl,congrArg I hw1,trivial⟩
   rw [← hv,nv_get hx,hx0];omega
  ·have hx0 : x.toNat ≠ 0 := by have := of_decide_eq_false h;omega
   clear h
   have ht := fin fun j' hj' x' hx' => by
    obtain rfl : j = j' := by omega
    rw [hx] at hx';cases hx';exact hx0
   rw [ht] at ending
   have htl : ((trimL l).map eD).length = j + 1 := by rw [List.length_map,← ht,hkl]
   repeat refine stq rfl ?_
   refine ps_run (o_slit 0 rfl rfl rfl rfl rfl rfl rfl rfl rfl rfl rfl (by repeat' constructor) rfl ?_)
   repeat refine stq rfl ?_
   refine qst rfl rfl (q_slh2 (n := ((j + 1 : Nat) : Int)) rfl rfl rfl rfl rfl (by omega) (by omega) (fun _ => rfl)) ?_
   rw [Int.toNat_natCast,List.map_take,← ending]
   repeat refine stq rfl ?_
   refine ps_run (o_app 1 rfl rfl rfl rfl rfl rfl rfl rfl rfl rfl rfl (by repeat' constructor) (by intro row hr;obtain ⟨p,_,rfl⟩ := List.mem_map.1 hr;rfl) rfl rfl (by simp;have := trimL_len l;omega) (by simp;have := trimL_len l;omega) ?_)
   repeat refine stq rfl ?_
   exact endm rfl (by repeat' constructor) rfl (by repeat' constructor) rfl
 ·have hk0 : k = 0 := by have := of_decide_eq_false h;omega
  subst hk0
  clear h
  have ht := fin fun j' hj' => by omega
  rw [ht] at ending
  repeat refine stq rfl ?_
  refine ps_run (o_slit 0 rfl rfl rfl rfl rfl rfl rfl rfl rfl rfl rfl (by repeat' constructor) rfl ?_)
  repeat refine stq rfl ?_
  refine qst rfl rfl (q_slh2 (n := ((0 : Nat) : Int)) rfl rfl rfl rfl rfl (by omega) (by omega) (fun _ => rfl)) ?_
  rw [Int.toNat_natCast,List.map_take,← ending]
  repeat refine stq rfl ?_
  refine ps_run (o_app 1 rfl rfl rfl rfl rfl rfl rfl rfl rfl rfl rfl (by repeat' constructor) (by intro row hr;obtain ⟨p,_,rfl⟩ := List.mem_map.1 hr;rfl) rfl rfl (by simp;have := trimL_len l;omega) (by simp;have := trimL_len l;omega) ?_)
  repeat refine stq rfl ?_
  exact endm rfl (by repeat' constructor) rfl (by repeat' constructor) rfl
theorem take_snocU {α : Type} {l : List α} {k : Nat} {x : α} (h : l[k]? = some x) : l.take (k + 1) = l.take k ++ [x] := by
 rw [List.take_add_one,h];rfl
set_option maxRecDepth 20000 in
theorem read_ret (l : List UInt16) (hl : l.length ≤ 900000000) : Ret Tryz.prog .shared 141 [.sl (l.map eU)] (.sl ((trimL l).map eD)) := by
 have hml : (l.map eU).length = l.length := by simp
 have ht := rtrim_ret l (by omega)
 refine Ret.of_pwp layOk mixed Go.Proofs.Tryz.func141 rfl (by decide) rfl rfl ?_
 ((repeat (first | refine ps_nil ?_ | refine pq_nil ?_ | refine x_norm ?_ | refine pw_seq ?_));refine pw_region ?_)
 refine ps_v rfl trivial ?_
 ((repeat (first | refine ps_nil ?_ | refine pq_nil ?_ | refine x_norm ?_ | refine pw_seq ?_));refine pw_region ?_)
 (first | refine ps_run (o_nilm 3 1 0 rfl rfl ?_) | refine ps_run (o_nila 3 1 0 rfl rfl ?_))
 repeat refine stq rfl ?_
 refine pw_loop (fun k => k ≤ l.length) (fun k => [(0,.sl (l.map eU)),(3,.als 3 (k + 1) 0 ((l.take k).map eD).length),(4,I (k : Nat))]) (fun k => [(3,k + 1,⟨3,1,(l.take k).map eD,0⟩)]) (fun k => l.length - k) 0 (Nat.zero_le _) ⟨rfl,rfl,rfl,rfl,trivial⟩ ?_
 intro k s hk
 repeat refine stq rfl ?_
 refine pw_cond rfl (fun h => ?_) (fun h => ?_)
 ·have hlt : k < l.length := by have := of_decide_eq_true h;omega
  clear h
  obtain ⟨x,hx⟩ := get_lt hlt
  have hxl := u16_lt x
  have hkl : (l.take k).length = k := by rw [List.length_take];omega
  have hw : IntKind.i64.wrap (((k : Nat) : Int) + 1) = ((k + 1 : Nat) : Int) := by rw [wrap_i64 (by omega) (by omega)];omega
  have hcx : IntKind.i64.wrap (x.toNat : Int) = (x.toNat : Int) := wrap_i64 (by omega) (by omega)
  repeat refine stq rfl ?_
  refine qst rfl rfl (q_idxm rfl rfl rfl rfl rfl (by omega) hx rfl) ?_
  repeat refine stq rfl ?_
  rw [hcx]
  refine ps_run (o_slit 0 rfl rfl rfl rfl rfl rfl rfl rfl rfl rfl rfl (by repeat' constructor) rfl ?_)
  repeat refine stq rfl ?_
  refine ps_run (o_app 0 rfl rfl rfl rfl rfl rfl rfl rfl rfl rfl rfl (by repeat' constructor) (by intro row hr;first | (simp at hr;subst hr;rfl) | simp at hr) rfl rfl (by simp;omega) (by simp;omega) ?_)
  repeat refine stq rfl ?_
  refine ⟨k + 1,hlt,by omega,rfl,?_,congrArg I hw,?_,trivial⟩
  ·rw [take_snocU hx,List.map_append];rfl
  ·rw [take_snocU hx,List.map_append];rfl
 ·have hge : k = l.length := by have := of_decide_eq_false h;omega
  subst hge
  clear h
  rw [List.take_length]
  ((repeat ((fail_if_success (with_reducible refine pw_at 6 ?_));refine stx rfl ?_));refine pw_regionS 1 ?_)
  refine stq rfl ?_
  refine ps_nil ?_
  refine psem_sm rfl (sm_gop (Ghost.takeF (enc := eD) (t := 19) (l) rfl rfl (rfl) rfl (fun _ => rfl)) ?_)
  (refine op_q (q_call rfl (ht) rfl ?_ rfl) ?_;·repeat' constructor)
  refine psem_ops ?_
  repeat refine stq rfl ?_
  exact end1 rfl rfl rfl trivial rfl
theorem rcompare_ret (a b : List UInt16) (ha : a.length ≤ 1000000000) (hb : b.length ≤ 1000000000) : Ret Tryz.prog .shared 147 [.sl (a.map eD),.sl (b.map eD)] (I (cmpL a b)) := by
 have hal : (a.map eD).length = a.length := by simp
 have hbl : (b.map eD).length = b.length := by simp
 by_cases he : a.length = b.length
 ·rw [cmpL,if_pos he]
  have hw0 : IntKind.i64.wrap (((((a.map eD).length : Nat) : Int)) - 1) = (a.length : Int) - 1 := by rw [hal,wrap_i64 (by omega) (by omega)]
  refine Ret.of_pwp layOk mixed Go.Proofs.Tryz.func147 rfl (by decide) rfl rfl ?_
  repeat refine stq rfl ?_
  refine pw_cond rfl (fun h => ?_) (fun h => ?_)
  ·simp at h;omega
  clear h
  repeat refine stq rfl ?_
  rw [hw0]
  refine pw_loop (fun k : Nat => k ≤ a.length ∧ cmpK a b k = cmpK a b a.length) (fun k => [(0,.sl (a.map eD)),(1,.sl (b.map eD)),(5,I ((k : Int) - 1))]) (fun _ => []) (fun k => k) a.length ⟨Nat.le_refl _,rfl⟩ ⟨rfl,rfl,rfl,trivial⟩ ?_
  rintro k s ⟨hk,hc⟩
  rw [← hc]
  repeat refine stq rfl ?_
  refine pw_cond rfl (fun h => ?_) (fun h => ?_)
  ·have hk0 : 0 < k := by have := of_decide_eq_true h;omega
   clear h
   obtain ⟨j,rfl⟩ : ∃ j,k = j + 1 := ⟨k - 1,by omega⟩
   have e1 : (((j + 1 : Nat) : Int) - 1) = (j : Nat) := by omega
   rw [e1]
   have hx := getD_at (l := a) (i := j) (by omega)
   have hy := getD_at (l := b) (i := j) (by omega)
   have hc1 : cmpK a b (j + 1) = if (a.getD j 0).toNat = (b.getD j 0).toNat then cmpK a b j else ((a.getD j 0).toNat : Int) - (b.getD j 0).toNat := rfl
   have hxl := u16_lt (a.getD j 0)
   have hyl := u16_lt (b.getD j 0)
   generalize a.getD j 0 = x at *
   generalize b.getD j 0 = y at *
   repeat refine stq rfl ?_
   refine pw_draw 9 [23,24,25,26,27,28,29,30,31] (by decide +kernel) ?_
   repeat refine stq rfl ?_
   refine qst rfl rfl (q_idxm rfl rfl rfl rfl rfl (by omega) hx rfl) ?_
   repeat refine stq rfl ?_
   refine qst rfl rfl (q_idxm rfl rfl rfl rfl rfl (by omega) hy rfl) ?_
   repeat refine stq rfl ?_
   refine pw_cond rfl (fun h => ?_) (fun h => ?_)
   ·have hne : ¬ x.toNat = y.toNat := by simp at h;intro he;apply h;omega
    clear h
    rw [if_neg hne] at hc1
    rw [hc1]
    repeat refine stq rfl ?_
    refine pw_draw 10 [32,33,34,35,36,37,38,39,40,4] (by decide +kernel) ?_
    repeat refine stq rfl ?_
    refine qst rfl rfl (q_idxm rfl rfl rfl rfl rfl (by omega) hx rfl) ?_
    repeat refine stq rfl ?_
    refine qst rfl rfl (q_idxm rfl rfl rfl rfl rfl (by omega) hy rfl) ?_
    repeat refine stq rfl ?_
    rw [wrap_i64 (n := (x.toNat : Int) - (y.toNat : Int)) (by omega) (by omega)]
    repeat refine stq rfl ?_
    exact end1i rfl rfl rfl
   ·have hne : x.toNat = y.toNat := by simp at h;omega
    clear h
    rw [if_pos hne] at hc1
    repeat refine stq rfl ?_
    refine ⟨j,⟨by omega,by rw [← hc1,hc]⟩,by omega,rfl,rfl,?_,trivial⟩
    exact congrArg I (wrap_i64 (by omega) (by omega))
  ·have hk0 : k = 0 := by have := of_decide_eq_false h;omega
   subst hk0
   clear h
   repeat refine stq rfl ?_
   exact end1i rfl rfl rfl
 ·rw [cmpL,if_neg he]
  refine Ret.of_pwp layOk mixed Go.Proofs.Tryz.func147 rfl (by decide) rfl rfl ?_
  repeat refine stq rfl ?_
  refine pw_cond rfl (fun h => ?_) (fun h => ?_)
  ·repeat refine stq rfl ?_
   rw [hal,hbl,wrap_i64 (by omega) (by omega)]
   exact end1i rfl rfl rfl
  ·simp at h;omega
end Go.Pv


set_option maxHeartbeats 2000000
namespace Go.Pv
attribute [local irreducible] PWP POps PQuiet PSem XThen XBlock RetPost InlPost
open Go.Proofs
theorem rem_nat (a : Nat) : Int.tmod (a : Int) 65536 = ((UInt16.ofNat a).toNat : Int) := by
 rw [u16_nat,Int.tmod_eq_emod_of_nonneg (by omega)];omega
theorem quo_nat (a : Nat) : Int.tdiv (a : Int) 65536 = ((a / 65536 : Nat) : Int) := by
 rw [Int.tdiv_eq_ediv_of_nonneg (by omega)];omega
theorem als_snD (k : Nat) (l : List UInt16) (a : UInt16) : PV.als k (l.length + 1 + 1) 0 (l.map eD ++ [eD a]).length = PV.als k ((l ++ [a]).length + 1) 0 ((l ++ [a]).map eD).length := by simp
theorem cont_snD (T sz kd : Nat) (l : List UInt16) (a : UInt16) : (l.length + 1 + 1,some (Cont.mk T sz (l.map eD ++ [eD a]) kd)) = ((l ++ [a]).length + 1,some (Cont.mk T sz ((l ++ [a]).map eD) kd)) := by simp
set_option maxRecDepth 20000 in
theorem rplus_ret (a b : List UInt16) (ha : a.length ≤ 400000000) (hb : b.length ≤ 400000000) : Ret Tryz.prog .shared 146 [.sl (a.map eD),.sl (b.map eD)] (.sl ((limbs (nv a + nv b)).map eD)) := by
 have hal : (a.map eD).length = a.length := by simp
 have hbl : (b.map eD).length = b.length := by simp
 refine Ret.of_pwp layOk mixed Go.Proofs.Tryz.func146 rfl (by decide) rfl rfl ?_
 ((repeat (first | refine ps_nil ?_ | refine pq_nil ?_ | refine x_norm ?_ | refine pw_seq ?_));refine pw_region ?_)
 refine ps_v rfl trivial ?_
 ((repeat (first | refine ps_nil ?_ | refine pq_nil ?_ | refine x_norm ?_ | refine pw_seq ?_));refine pw_region ?_)
 (first | refine ps_run (o_nilm 3 1 0 rfl rfl ?_) | refine ps_run (o_nila 3 1 0 rfl rfl ?_))
 repeat refine stq rfl ?_
 refine pw_loop (RPlus a b) (fun q => [(0,.sl (a.map eD)),(1,.sl (b.map eD)),(5,.als 5 (q.2.1.length + 1) 0 (q.2.1.map eD).length),(6,I (q.2.2 : Nat)),(7,I (q.1 : Nat))]) (fun q => [(5,q.2.1.length + 1,⟨3,1,q.2.1.map eD,0⟩)]) (fun q => a.length + b.length + 1 - q.1) (0,[],0)
  ⟨rfl,by decide,by simp only;omega,by simp [nv]⟩ ⟨rfl,rfl,rfl,rfl,rfl,rfl,trivial⟩ ?_
 rintro ⟨k,L,c⟩ s hI
 have hc := hI.c
 have hLl := hI.l
 have hkk := hI.k
 simp only at hc hLl hkk
 dsimp only
 have hstep := fun h => rplus_step hI h
 have hend := fun h => rplus_end hI h
 have e1 := digit_ret a k (by omega) (by omega)
 have e2 := digit_ret b k (by omega) (by omega)
 have hxl := dgN_lt a k
 have hyl := dgN_lt b k
 have hw : IntKind.i64.wrap (((k : Nat) : Int) + 1) = ((k + 1 : Nat) : Int) := by rw [wrap_i64 (by omega) (by omega)];omega
 have s1 : IntKind.i64.wrap ((dgN a k : Int) + (dgN b k : Int)) = ((dgN a k + dgN b k : Nat) : Int) := by rw [wrap_i64 (by omega) (by omega)];omega
 have s2 : IntKind.i64.wrap (((dgN a k + dgN b k : Nat) : Int) + (c : Int)) = ((dgN a k + dgN b k + c : Nat) : Int) := by rw [wrap_i64 (by omega) (by omega)];omega
 generalize dgN a k = x at *
 generalize dgN b k = y at *
 have hr : Int.tmod ((x + y + c : Nat) : Int) 65536 = ((UInt16.ofNat (x + y + c)).toNat : Int) := rem_nat _
 have hq : IntKind.i64.wrap (Int.tdiv ((x + y + c : Nat) : Int) 65536) = (((x + y + c) / 65536 : Nat) : Int) := by rw [quo_nat,wrap_i64] <;> omega
 repeat refine stq rfl ?_
 (first|refine ps_split rfl rfl ?_ ?_|refine pq_split rfl rfl ?_ ?_|refine p3_split rfl rfl ?_ ?_)<;>intro h
 ·have hyes : k < a.length ∨ k < b.length ∨ 0 < c := .inl (by have := of_decide_eq_true h;rw [hal] at this;omega)
  clear h
  have hst := (hstep hyes).1
  have hlt := (hstep hyes).2
  repeat refine stq rfl ?_
  refine qst rfl rfl (q_cp rfl e1 rfl rfl rfl) ?_
  repeat refine stq rfl ?_
  refine qst rfl rfl (q_cp rfl e2 rfl rfl rfl) ?_
  repeat refine stq rfl ?_
  rw [s1]
  repeat refine stq rfl ?_
  rw [s2]
  repeat refine stq rfl ?_
  refine qst rfl rfl (QOp.v rfl (show ¬ (65536 : Int) = 0 by decide)) ?_
  rw [hr]
  refine ps_run (o_slit 0 rfl rfl rfl rfl rfl rfl rfl rfl rfl rfl rfl (by repeat' constructor) rfl ?_)
  repeat refine stq rfl ?_
  refine ps_run (o_app 0 rfl rfl rfl rfl rfl rfl rfl rfl rfl rfl rfl (by repeat' constructor) (by intro row hr;first | (simp at hr;subst hr;rfl) | simp at hr) rfl rfl (by simp;omega) (by simp;omega) ?_)
  repeat refine stq rfl ?_
  refine qst rfl rfl (QOp.v rfl (show ¬ (65536 : Int) = 0 by decide)) ?_
  rw [hq]
  repeat refine stq rfl ?_
  refine ⟨(k + 1,L ++ [UInt16.ofNat (x + y + c)],(x + y + c) / 65536),hst,by simp only;omega,rfl,rfl,?_,rfl,congrArg I hw,?_,trivial⟩
  ·exact als_snD 5 L (UInt16.ofNat (x + y + c))
  ·exact cont_snD 3 1 0 L (UInt16.ofNat (x + y + c))
 ·have h1 : ¬ k < a.length := by have := of_decide_eq_false h;rw [hal] at this;omega
  clear h
  repeat refine stq rfl ?_
  (first|refine ps_split rfl rfl ?_ ?_|refine pq_split rfl rfl ?_ ?_|refine p3_split rfl rfl ?_ ?_)<;>intro h
  ·have hyes : k < a.length ∨ k < b.length ∨ 0 < c := .inr (.inl (by have := of_decide_eq_true h;rw [hbl] at this;omega))
   clear h
   have hst := (hstep hyes).1
   have hlt := (hstep hyes).2
   repeat refine stq rfl ?_
   refine qst rfl rfl (q_cp rfl e1 rfl rfl rfl) ?_
   repeat refine stq rfl ?_
   refine qst rfl rfl (q_cp rfl e2 rfl rfl rfl) ?_
   repeat refine stq rfl ?_
   rw [s1]
   repeat refine stq rfl ?_
   rw [s2]
   repeat refine stq rfl ?_
   refine qst rfl rfl (QOp.v rfl (show ¬ (65536 : Int) = 0 by decide)) ?_
   rw [hr]
   refine ps_run (o_slit 0 rfl rfl rfl rfl rfl rfl rfl rfl rfl rfl rfl (by repeat' constructor) rfl ?_)
   repeat refine stq rfl ?_
   refine ps_run (o_app 0 rfl rfl rfl rfl rfl rfl rfl rfl rfl rfl rfl (by repeat' constructor) (by intro row hr;first | (simp at hr;subst hr;rfl) | simp at hr) rfl rfl (by simp;omega) (by simp;omega) ?_)
   repeat refine stq rfl ?_
   refine qst rfl rfl (QOp.v rfl (show ¬ (65536 : Int) = 0 by decide)) ?_
   rw [hq]
   repeat refine stq rfl ?_
   refine ⟨(k + 1,L ++ [UInt16.ofNat (x + y + c)],(x + y + c) / 65536),hst,by simp only;omega,rfl,rfl,?_,rfl,congrArg I hw,?_,trivial⟩
   ·exact als_snD 5 L (UInt16.ofNat (x + y + c))
   ·exact cont_snD 3 1 0 L (UInt16.ofNat (x + y + c))
  ·have h2 : ¬ k < b.length := by have := of_decide_eq_false h;rw [hbl] at this;omega
   clear h
   repeat refine stq rfl ?_
   refine pw_cond rfl (fun h => ?_) (fun h => ?_)
   ·have hyes : k < a.length ∨ k < b.length ∨ 0 < c := .inr (.inr (by have := of_decide_eq_true h;omega))
    clear h
    have hst := (hstep hyes).1
    have hlt := (hstep hyes).2
    repeat refine stq rfl ?_
    refine qst rfl rfl (q_cp rfl e1 rfl rfl rfl) ?_
    repeat refine stq rfl ?_
    refine qst rfl rfl (q_cp rfl e2 rfl rfl rfl) ?_
    repeat refine stq rfl ?_
    rw [s1]
    repeat refine stq rfl ?_
    rw [s2]
    repeat refine stq rfl ?_
    refine qst rfl rfl (QOp.v rfl (show ¬ (65536 : Int) = 0 by decide)) ?_
    rw [hr]
    refine ps_run (o_slit 0 rfl rfl rfl rfl rfl rfl rfl rfl rfl rfl rfl (by repeat' constructor) rfl ?_)
    repeat refine stq rfl ?_
    refine ps_run (o_app 0 rfl rfl rfl rfl rfl rfl rfl rfl rfl rfl rfl (by repeat' constructor) (by intro row hr;first | (simp at hr;subst hr;rfl) | simp at hr) rfl rfl (by simp;omega) (by simp;omega) ?_)
    repeat refine stq rfl ?_
    refine qst rfl rfl (QOp.v rfl (show ¬ (65536 : Int) = 0 by decide)) ?_
    rw [hq]
    repeat refine stq rfl ?_
    refine ⟨(k + 1,L ++ [UInt16.ofNat (x + y + c)],(x + y + c) / 65536),hst,by simp only;omega,rfl,rfl,?_,rfl,congrArg I hw,?_,trivial⟩
    ·exact als_snD 5 L (UInt16.ofNat (x + y + c))
    ·exact cont_snD 3 1 0 L (UInt16.ofNat (x + y + c))
   ·have h3 : ¬ 0 < c := by have := of_decide_eq_false h;omega
    clear h
    have hfin := hend (by omega)
    have ht := rtrim_ret L (by omega)
    rw [trimL,hfin] at ht
    ((repeat ((fail_if_success (with_reducible refine pw_at 9 ?_));refine stx rfl ?_));refine pw_regionS 1 ?_)
    refine stq rfl ?_
    refine ps_nil ?_
    refine psem_sm rfl (sm_gop (Ghost.takeF (enc := eD) (t := 41) (L) rfl rfl (rfl) rfl (fun _ => rfl)) ?_)
    (refine op_q (q_call rfl (ht) rfl ?_ rfl) ?_;·repeat' constructor)
    refine psem_ops ?_
    repeat refine stq rfl ?_
    exact end1 rfl rfl rfl trivial rfl
end Go.Pv


set_option maxHeartbeats 2000000
namespace Go.Pv
attribute [local irreducible] PWP POps PQuiet PSem XThen XBlock RetPost InlPost
open Go.Proofs
set_option maxRecDepth 20000 in
theorem rminus_ret (a b : List UInt16) (ha : a.length ≤ 900000000) (hb : b.length ≤ 900000000) (hle : nv b ≤ nv a) : Ret Tryz.prog .shared 148 [.sl (a.map eD),.sl (b.map eD)] (.sl ((limbs (nv a - nv b)).map eD)) := by
 have hal : (a.map eD).length = a.length := by simp
 refine Ret.of_pwp layOk mixed Go.Proofs.Tryz.func148 rfl (by decide) rfl rfl ?_
 ((repeat (first | refine ps_nil ?_ | refine pq_nil ?_ | refine x_norm ?_ | refine pw_seq ?_));refine pw_region ?_)
 refine ps_v rfl trivial ?_
 ((repeat (first | refine ps_nil ?_ | refine pq_nil ?_ | refine x_norm ?_ | refine pw_seq ?_));refine pw_region ?_)
 (first | refine ps_run (o_nilm 3 1 0 rfl rfl ?_) | refine ps_run (o_nila 3 1 0 rfl rfl ?_))
 repeat refine stq rfl ?_
 refine pw_loop (RMin a b) (fun q => [(0,.sl (a.map eD)),(1,.sl (b.map eD)),(5,.als 5 (q.2.1.length + 1) 0 (q.2.1.map eD).length),(6,I (q.2.2 : Nat)),(7,I (q.1 : Nat))]) (fun q => [(5,q.2.1.length + 1,⟨3,1,q.2.1.map eD,0⟩)]) (fun q => a.length - q.1) (0,[],0)
  ⟨rfl,by decide,Nat.zero_le _,by simp [nv]⟩ ⟨rfl,rfl,rfl,rfl,rfl,rfl,trivial⟩ ?_
 rintro ⟨k,L,c⟩ s hI
 have hc := hI.c
 have hLl := hI.l
 have hkk := hI.k
 simp only at hc hLl hkk
 dsimp only
 repeat refine stq rfl ?_
 refine pw_cond rfl (fun h => ?_) (fun h => ?_)
 ·have hlt : k < a.length := by have := of_decide_eq_true h;omega
  clear h
  have hst := rmin_step hI hlt
  have hx := getD_at (l := a) (i := k) hlt
  have e2 := digit_ret b k (by omega) (by omega)
  have hxl := dgN_lt a k
  have hyl := dgN_lt b k
  have hw : IntKind.i64.wrap (((k : Nat) : Int) + 1) = ((k + 1 : Nat) : Int) := by rw [wrap_i64 (by omega) (by omega)];omega
  have hX : (a.getD k 0).toNat = dgN a k := rfl
  generalize dgN b k = y at *
  generalize dgN a k = X at *
  generalize a.getD k 0 = x at *
  subst hX
  have s1 : IntKind.i64.wrap ((x.toNat : Int) - (y : Int)) = (x.toNat : Int) - (y : Int) := by rw [wrap_i64 (by omega) (by omega)]
  have s2 : IntKind.i64.wrap ((x.toNat : Int) - (y : Int) - (c : Int)) = (x.toNat : Int) - (y : Int) - (c : Int) := by rw [wrap_i64 (by omega) (by omega)]
  have hlen : (L.map eD).length = L.length := by simp
  have hsd := sb_eq hxl hyl hc
  have hrow : ∀ m : Nat,m < 65536 → eD (UInt16.ofNat m) = [I (m : Nat)] := fun m hm => by rw [eD,u16_nat,Nat.mod_eq_of_lt hm]
  by_cases hn : x.toNat < y + c
  ·have hd : (x.toNat : Int) - (y : Int) - (c : Int) + 65536 = ((sbD x.toNat y c : Nat) : Int) := by rw [sbD,if_pos hn];omega
   have s3 : IntKind.i64.wrap ((x.toNat : Int) - (y : Int) - (c : Int) + 65536) = ((sbD x.toNat y c : Nat) : Int) := by rw [hd,wrap_i64 (by omega) (by omega)]
   have hcc : sbC x.toNat y c = 1 := by rw [sbC,if_pos hn]
   rw [hcc] at hst
   have hrw := hrow _ hsd.2.1
   generalize sbD x.toNat y c = D at *
   repeat refine stq rfl ?_
   refine pw_draw 11 [15,16,17,18,19,20,21,22,23,24,8] (by decide +kernel) ?_
   repeat refine stq rfl ?_
   refine qst rfl rfl (q_idxm rfl rfl rfl rfl rfl (by omega) hx rfl) ?_
   repeat refine stq rfl ?_
   refine qst rfl rfl (q_cp rfl e2 rfl rfl rfl) ?_
   repeat refine stq rfl ?_
   rw [s1]
   repeat refine stq rfl ?_
   rw [s2]
   repeat refine stq rfl ?_
   refine pw_cond rfl (fun h => ?_) (fun h => ?_)
   ·clear h
    repeat refine stq rfl ?_
    rw [s3]
    repeat refine stq rfl ?_
    refine ps_run (o_slit 0 rfl rfl rfl rfl rfl rfl rfl rfl rfl rfl rfl (by repeat' constructor) rfl ?_)
    repeat refine stq rfl ?_
    refine ps_run (o_app 0 rfl rfl rfl rfl rfl rfl rfl rfl rfl rfl rfl (by repeat' constructor) (by intro row hr;first | (simp at hr;subst hr;rfl) | simp at hr) rfl rfl (by simp;omega) (by simp;omega) ?_)
    repeat refine stq rfl ?_
    refine ⟨(k + 1,L ++ [UInt16.ofNat D],1),hst,by simp only;omega,rfl,rfl,?_,rfl,congrArg I hw,?_,trivial⟩
    ·have := als_snD 5 L (UInt16.ofNat D);rw [hrw] at this;exact this
    ·have := cont_snD 3 1 0 L (UInt16.ofNat D);rw [hrw] at this;exact this
   ·have := of_decide_eq_false h;omega
  ·have hd : (x.toNat : Int) - (y : Int) - (c : Int) = ((sbD x.toNat y c : Nat) : Int) := by rw [sbD,if_neg hn];omega
   rw [hd] at s2
   have hcc : sbC x.toNat y c = 0 := by rw [sbC,if_neg hn]
   rw [hcc] at hst
   have hrw := hrow _ hsd.2.1
   generalize sbD x.toNat y c = D at *
   repeat refine stq rfl ?_
   refine pw_draw 11 [15,16,17,18,19,20,21,22,23,24,8] (by decide +kernel) ?_
   repeat refine stq rfl ?_
   refine qst rfl rfl (q_idxm rfl rfl rfl rfl rfl (by omega) hx rfl) ?_
   repeat refine stq rfl ?_
   refine qst rfl rfl (q_cp rfl e2 rfl rfl rfl) ?_
   repeat refine stq rfl ?_
   rw [s1]
   repeat refine stq rfl ?_
   rw [hd,s2]
   repeat refine stq rfl ?_
   refine ps_run (o_slit 0 rfl rfl rfl rfl rfl rfl rfl rfl rfl rfl rfl (by repeat' constructor) rfl ?_)
   repeat refine stq rfl ?_
   refine ps_run (o_app 0 rfl rfl rfl rfl rfl rfl rfl rfl rfl rfl rfl (by repeat' constructor) (by intro row hr;first | (simp at hr;subst hr;rfl) | simp at hr) rfl rfl (by simp;omega) (by simp;omega) ?_)
   repeat refine stq rfl ?_
   refine ⟨(k + 1,L ++ [UInt16.ofNat D],0),hst,by simp only;omega,rfl,rfl,?_,rfl,congrArg I hw,?_,trivial⟩
   ·have := als_snD 5 L (UInt16.ofNat D);rw [hrw] at this;exact this
   ·have := cont_snD 3 1 0 L (UInt16.ofNat D);rw [hrw] at this;exact this
 ·have hge : k = a.length := by have := of_decide_eq_false h;omega
  subst hge
  clear h
  have hfin := rmin_end hI hle
  have ht := rtrim_ret L (by omega)
  rw [trimL,hfin] at ht
  ((repeat ((fail_if_success (with_reducible refine pw_at 12 ?_));refine stx rfl ?_));refine pw_regionS 1 ?_)
  refine stq rfl ?_
  refine ps_nil ?_
  refine psem_sm rfl (sm_gop (Ghost.takeF (enc := eD) (t := 33) (L) rfl rfl (rfl) rfl (fun _ => rfl)) ?_)
  (refine op_q (q_call rfl (ht) rfl ?_ rfl) ?_;·repeat' constructor)
  refine psem_ops ?_
  repeat refine stq rfl ?_
  exact end1 rfl rfl rfl trivial rfl
theorem rep_eD (n : Nat) : List.replicate n [PV.int .i64 0] = (List.replicate n (0 : UInt16)).map eD := by rw [List.map_replicate];rfl
theorem als_setD (k g i : Nat) (R : List UInt16) (y : UInt16) : PV.als k g 0 (((R.map eD).set i (eD y))).length = PV.als k g 0 ((R.set i y).map eD).length := by simp
theorem cont_setD (g T sz kd i : Nat) (R : List UInt16) (y : UInt16) : (g,some (Cont.mk T sz ((R.map eD).set i (eD y)) kd)) = (g,some (Cont.mk T sz ((R.set i y).map eD) kd)) := by rw [List.map_set]
set_option maxRecDepth 20000 in
theorem rtimes_ret (a b : List UInt16) (ha : a.length ≤ 400000000) (hb : b.length ≤ 400000000) : Ret Tryz.prog .shared 149 [.sl (a.map eD),.sl (b.map eD)] (.sl ((limbs (nv a * nv b)).map eD)) := by
 have hal : (a.map eD).length = a.length := by simp
 have hbl : (b.map eD).length = b.length := by simp
 have hw0 : IntKind.i64.wrap ((((a.map eD).length : Nat) : Int) + (((b.map eD).length : Nat) : Int)) = ((a.length + b.length : Nat) : Int) := by rw [hal,hbl,wrap_i64 (by omega) (by omega)];omega
 have hw1 : IntKind.i64.wrap (((a.length + b.length : Nat) : Int) + 1) = ((a.length + b.length + 1 : Nat) : Int) := by rw [wrap_i64 (by omega) (by omega)];omega
 refine Ret.of_pwp layOk mixed Go.Proofs.Tryz.func149 rfl (by decide) rfl rfl ?_
 repeat refine stq rfl ?_
 rw [hw0]
 repeat refine stq rfl ?_
 rw [hw1]
 refine ps_run (o_make rfl rfl rfl rfl rfl rfl rfl rfl (by omega) (by show (8 : Int) * _ ≤ _;omega) (by omega) ?_)
 rw [Int.toNat_natCast,rep_eD]
 repeat refine stq rfl ?_
 refine pw_loop (RTimO a b) (fun q => [(0,.sl (a.map eD)),(1,.sl (b.map eD)),(5,.als 16 1 0 (q.2.map eD).length),(6,I q.1)])
  (fun q => [(16,1,⟨3,1,q.2.map eD,0⟩)]) (fun q => a.length - q.1) (0,List.replicate (a.length + b.length + 1) 0) ⟨Nat.zero_le _,by simp,by simp [nv];exact nv_zero _⟩ ⟨rfl,rfl,rfl,rfl,rfl,trivial⟩ ?_
 rintro ⟨i,R⟩ s1 hO
 have hi := hO.i
 have hRl := hO.l
 simp only at hi hRl
 dsimp only
 repeat refine stq rfl ?_
 refine pw_cond rfl (fun h => ?_) (fun h => ?_)
 ·have hlt : i < a.length := by have := of_decide_eq_true h;omega
  clear h
  repeat refine stq rfl ?_
  refine pw_loop (RTimI a b i) (fun q => [(0,.sl (a.map eD)),(1,.sl (b.map eD)),(5,.als 16 1 0 (q.2.1.map eD).length),(6,I i),(7,I (q.2.2 : Nat)),(8,I (q.1 : Nat))])
   (fun q => [(16,1,⟨3,1,q.2.1.map eD,0⟩)]) (fun q => b.length + 1 - q.1) (0,R,0) (rtim_first hO) ⟨rfl,rfl,rfl,rfl,rfl,rfl,rfl,trivial⟩ ?_
  rintro ⟨k,Q,c⟩ s2 hI
  have hk := hI.k
  have hc := hI.c
  have hQl := hI.l
  simp only at hk hc hQl
  dsimp only
  have hQm : (Q.map eD).length = Q.length := by simp
  have body : ∀ _ : k < b.length ∨ 0 < c,True := fun _ => trivial
  clear body
  have hkB := fun h => rtim_k hI h
  have hstep := fun h => rtim_step (r := Q.getD (i + k) 0) hI h
  have hnext := fun h => rtim_next hI hlt h
  repeat refine stq rfl ?_
  (first|refine ps_split rfl rfl ?_ ?_|refine pq_split rfl rfl ?_ ?_|refine p3_split rfl rfl ?_ ?_)<;>intro h
  ·have hyes : k < b.length ∨ 0 < c := .inl (by have := of_decide_eq_true h;omega)
   clear h
   have hkb := hkB hyes
   have hr := getD_at (l := Q) (i := i + k) (by omega)
   have hst := hstep hkb hr
   have hx := getD_at (l := a) (i := i) hlt
   have hX : (a.getD i 0).toNat = dgN a i := rfl
   have hxl := dgN_lt a i
   have hyl := dgN_lt b k
   have e2 := digit_ret b k (by omega) (by omega)
   have hm := mul16 hxl hyl
   have hrl := u16_lt (Q.getD (i + k) 0)
   have hr2 : (Q.map eD)[i + k]? = some (eD (Q.getD (i + k) 0)) := by rw [List.getElem?_map,hr];rfl
   have ei : IntKind.i64.wrap ((i : Int) + (k : Int)) = ((i + k : Nat) : Int) := by rw [wrap_i64 (by omega) (by omega)];omega
   generalize Q.getD (i + k) 0 = r at *
   generalize dgN b k = y at *
   generalize dgN a i = X at *
   generalize a.getD i 0 = x at *
   subst hX
   have s1 : IntKind.i64.wrap ((x.toNat : Int) * (y : Int)) = ((x.toNat * y : Nat) : Int) := by rw [← Int.natCast_mul,wrap_i64 (by omega) (by omega)]
   have s2 : IntKind.i64.wrap ((r.toNat : Int) + ((x.toNat * y : Nat) : Int)) = ((r.toNat + x.toNat * y : Nat) : Int) := by rw [wrap_i64 (by omega) (by omega)];omega
   have s3 : IntKind.i64.wrap (((r.toNat + x.toNat * y : Nat) : Int) + (c : Int)) = ((r.toNat + x.toNat * y + c : Nat) : Int) := by rw [wrap_i64 (by omega) (by omega)];omega
   generalize x.toNat * y = P at *
   have hrm : Int.tmod ((r.toNat + P + c : Nat) : Int) 65536 = ((UInt16.ofNat (r.toNat + P + c)).toNat : Int) := rem_nat _
   have hq : IntKind.i64.wrap (Int.tdiv ((r.toNat + P + c : Nat) : Int) 65536) = (((r.toNat + P + c) / 65536 : Nat) : Int) := by rw [quo_nat,wrap_i64] <;> omega
   generalize hsm : r.toNat + P + c = sm at *
   repeat refine stq rfl ?_
   refine pw_draw 18 [33,34,35,36,37,38,39,40,41,42,43,44,45,46,47,48,49,9] (by decide +kernel) ?_
   repeat refine stq rfl ?_
   rw [ei]
   refine qst rfl rfl (q_idxA rfl rfl rfl rfl rfl rfl rfl (by omega) (by rw [List.length_map];omega)) ?_
   rw [Int.toNat_natCast,Nat.zero_add (i + k)]
   refine qst rfl rfl (q_ldp rfl rfl rfl hr2 rfl) ?_
   repeat refine stq rfl ?_
   refine qst rfl rfl (q_idxm rfl rfl rfl rfl rfl (by omega) hx rfl) ?_
   repeat refine stq rfl ?_
   refine qst rfl rfl (q_cp rfl e2 rfl rfl rfl) ?_
   repeat refine stq rfl ?_
   rw [s1]
   repeat refine stq rfl ?_
   rw [s2]
   repeat refine stq rfl ?_
   rw [s3]
   repeat refine stq rfl ?_
   rw [ei]
   repeat refine stq rfl ?_
   refine qst rfl rfl (QOp.v rfl (show ¬ (65536 : Int) = 0 by decide)) ?_
   rw [hrm]
   repeat refine stq rfl ?_
   refine qst rfl rfl (q_idxA rfl rfl rfl rfl rfl rfl rfl (by omega) (by rw [List.length_map];omega)) ?_
   rw [Int.toNat_natCast,Nat.zero_add (i + k)]
   refine ps_run0 (o_store (kd' := 0) rfl rfl rfl hr2 rfl rfl (by repeat' constructor) rfl rfl rfl rfl ?_)
   repeat refine stq rfl ?_
   refine qst rfl rfl (QOp.v rfl (show ¬ (65536 : Int) = 0 by decide)) ?_
   rw [hq]
   repeat refine stq rfl ?_
   refine ⟨(k + 1,_,_),hst,by simp only;omega,rfl,rfl,?_,rfl,rfl,i64_next (by omega) (by omega),?_,trivial⟩
   ·show PV.als 16 1 0 (Q.map eD).length = _
    rw [← als_setD 16 1 (i + k) Q (UInt16.ofNat sm),List.length_set]
   ·exact cont_setD 1 3 1 0 (i + k) Q (UInt16.ofNat sm)
  ·have h1 : ¬ k < b.length := by have := of_decide_eq_false h;omega
   clear h
   repeat refine stq rfl ?_
   refine pw_cond rfl (fun h => ?_) (fun h => ?_)
   ·have hyes : k < b.length ∨ 0 < c := .inr (by have := of_decide_eq_true h;omega)
    clear h
    have hkb := hkB hyes
    have hr := getD_at (l := Q) (i := i + k) (by omega)
    have hst := hstep hkb hr
    have hx := getD_at (l := a) (i := i) hlt
    have hX : (a.getD i 0).toNat = dgN a i := rfl
    have hxl := dgN_lt a i
    have hyl := dgN_lt b k
    have e2 := digit_ret b k (by omega) (by omega)
    have hm := mul16 hxl hyl
    have hrl := u16_lt (Q.getD (i + k) 0)
    have hr2 : (Q.map eD)[i + k]? = some (eD (Q.getD (i + k) 0)) := by rw [List.getElem?_map,hr];rfl
    have ei : IntKind.i64.wrap ((i : Int) + (k : Int)) = ((i + k : Nat) : Int) := by rw [wrap_i64 (by omega) (by omega)];omega
    generalize Q.getD (i + k) 0 = r at *
    generalize dgN b k = y at *
    generalize dgN a i = X at *
    generalize a.getD i 0 = x at *
    subst hX
    have s1 : IntKind.i64.wrap ((x.toNat : Int) * (y : Int)) = ((x.toNat * y : Nat) : Int) := by rw [← Int.natCast_mul,wrap_i64 (by omega) (by omega)]
    have s2 : IntKind.i64.wrap ((r.toNat : Int) + ((x.toNat * y : Nat) : Int)) = ((r.toNat + x.toNat * y : Nat) : Int) := by rw [wrap_i64 (by omega) (by omega)];omega
    have s3 : IntKind.i64.wrap (((r.toNat + x.toNat * y : Nat) : Int) + (c : Int)) = ((r.toNat + x.toNat * y + c : Nat) : Int) := by rw [wrap_i64 (by omega) (by omega)];omega
    generalize x.toNat * y = P at *
    have hrm : Int.tmod ((r.toNat + P + c : Nat) : Int) 65536 = ((UInt16.ofNat (r.toNat + P + c)).toNat : Int) := rem_nat _
    have hq : IntKind.i64.wrap (Int.tdiv ((r.toNat + P + c : Nat) : Int) 65536) = (((r.toNat + P + c) / 65536 : Nat) : Int) := by rw [quo_nat,wrap_i64] <;> omega
    generalize hsm : r.toNat + P + c = sm at *
    repeat refine stq rfl ?_
    refine pw_draw 18 [33,34,35,36,37,38,39,40,41,42,43,44,45,46,47,48,49,9] (by decide +kernel) ?_
    repeat refine stq rfl ?_
    rw [ei]
    refine qst rfl rfl (q_idxA rfl rfl rfl rfl rfl rfl rfl (by omega) (by rw [List.length_map];omega)) ?_
    rw [Int.toNat_natCast,Nat.zero_add (i + k)]
    refine qst rfl rfl (q_ldp rfl rfl rfl hr2 rfl) ?_
    repeat refine stq rfl ?_
    refine qst rfl rfl (q_idxm rfl rfl rfl rfl rfl (by omega) hx rfl) ?_
    repeat refine stq rfl ?_
    refine qst rfl rfl (q_cp rfl e2 rfl rfl rfl) ?_
    repeat refine stq rfl ?_
    rw [s1]
    repeat refine stq rfl ?_
    rw [s2]
    repeat refine stq rfl ?_
    rw [s3]
    repeat refine stq rfl ?_
    rw [ei]
    repeat refine stq rfl ?_
    refine qst rfl rfl (QOp.v rfl (show ¬ (65536 : Int) = 0 by decide)) ?_
    rw [hrm]
    repeat refine stq rfl ?_
    refine qst rfl rfl (q_idxA rfl rfl rfl rfl rfl rfl rfl (by omega) (by rw [List.length_map];omega)) ?_
    rw [Int.toNat_natCast,Nat.zero_add (i + k)]
    refine ps_run0 (o_store (kd' := 0) rfl rfl rfl hr2 rfl rfl (by repeat' constructor) rfl rfl rfl rfl ?_)
    repeat refine stq rfl ?_
    refine qst rfl rfl (QOp.v rfl (show ¬ (65536 : Int) = 0 by decide)) ?_
    rw [hq]
    repeat refine stq rfl ?_
    refine ⟨(k + 1,_,_),hst,by simp only;omega,rfl,rfl,?_,rfl,rfl,i64_next (by omega) (by omega),?_,trivial⟩
    ·show PV.als 16 1 0 (Q.map eD).length = _
     rw [← als_setD 16 1 (i + k) Q (UInt16.ofNat sm),List.length_set]
    ·exact cont_setD 1 3 1 0 (i + k) Q (UInt16.ofNat sm)
   ·have h2 : ¬ 0 < c := by have := of_decide_eq_false h;omega
    clear h
    have hst := hnext (by omega)
    repeat refine stq rfl ?_
    refine ⟨(i + 1,Q),hst,by simp only;omega,rfl,rfl,rfl,i64_next (by omega) (by omega),rfl,trivial⟩
 ·have hge : i = a.length := by have := of_decide_eq_false h;omega
  subst hge
  clear h
  have hv := hO.v
  simp only [List.take_length] at hv
  have ht := rtrim_ret R (by omega)
  rw [trimL,hv] at ht
  ((repeat ((fail_if_success (with_reducible refine pw_at 12 ?_));refine stx rfl ?_));refine pw_regionS 1 ?_)
  refine stq rfl ?_
  refine ps_nil ?_
  refine psem_sm rfl (sm_gop (Ghost.takeF (enc := eD) (t := 59) (R) rfl rfl (rfl) rfl (fun _ => rfl)) ?_)
  (refine op_q (q_call rfl (ht) rfl ?_ rfl) ?_;·repeat' constructor)
  refine psem_ops ?_
  repeat refine stq rfl ?_
  exact end1 rfl rfl rfl trivial rfl
end Go.Pv


set_option maxHeartbeats 2000000
namespace Go.Pv
attribute [local irreducible] PWP POps PQuiet PSem XThen XBlock RetPost InlPost
open Go.Proofs
theorem one_dg {m : Nat} (h : m < 65536) : nv [UInt16.ofNat m] = m := by simp [nv];omega
theorem eD_of {m : Nat} (h : m < 65536) : eD (UInt16.ofNat m) = [I (m : Nat)] := by rw [eD,u16_nat,Nat.mod_eq_of_lt h]
theorem nv_cons (x : UInt16) (l : List UInt16) : nv (x :: l) = x.toNat + 65536 * nv l := rfl
theorem limbs_len2 {n : Nat} {L : List UInt16} (h : n ≤ nv L) : (limbs n).length ≤ L.length := limbs_len (Nat.lt_of_le_of_lt h (nv_lt L))
def dvD (a b : List UInt16) : PV := .tup [.sl ((limbs (nv a / nv b)).map eD),.sl ((limbs (nv a % nv b)).map eD)]
structure RHalf (q lo hi : Nat) : Prop where
 l : lo ≤ q
 h : q ≤ hi
 m : hi ≤ 65535
set_option maxRecDepth 20000 in
theorem rover_ret (a b : List UInt16) (ha : a.length ≤ 200000000) (hb : b.length ≤ 200000000) (hb0 : nv b ≠ 0) : Ret Tryz.prog .shared 145 [.sl (a.map eD),.sl (b.map eD)] (dvD a b) := by
 have hal : (a.map eD).length = a.length := by simp
 have hbp : 0 < nv b := Nat.pos_of_ne_zero hb0
 rw [dvD]
 have hw0 : IntKind.i64.wrap ((((a.map eD).length : Nat) : Int) - 1) = ((a.length : Nat) : Int) - 1 := by rw [hal,wrap_i64 (by omega) (by omega)]
 refine Ret.of_pwp layOk mixed Go.Proofs.Tryz.func145 rfl (by decide) rfl rfl ?_
 (repeat ((fail_if_success (with_reducible refine pw_at 2 ?_));refine stx rfl ?_))
 refine pw_ghost (Ghost.nilsl (t := 6) rfl) ?_
 repeat refine stq rfl ?_
 refine ps_run (o_make rfl rfl rfl rfl rfl rfl rfl rfl (by omega) (by show (8 : Int) * _ ≤ _;omega) (by omega) ?_)
 rw [hal,Int.toNat_natCast,rep_eD]
 repeat refine stq rfl ?_
 rw [hw0]
 refine pw_loop (ROvr a b) (fun q => [(0,.sl (a.map eD)),(1,.sl (b.map eD)),(6,.sl ((limbs q.2.2).map eD)),(7,.als 14 1 0 (q.2.1.map eD).length),(8,I ((q.1 : Int) - 1))])
  (fun q => [(14,1,⟨3,1,q.2.1.map eD,0⟩)]) (fun q => q.1) (a.length,List.replicate a.length 0,0) rovr_first ⟨rfl,rfl,by rw [limbs_zero];rfl,rfl,rfl,rfl,trivial⟩ ?_
 rintro ⟨k,Q,r⟩ s1 hO
 have hk := hO.i
 have hQl := hO.l
 simp only at hk hQl
 dsimp only
 repeat refine stq rfl ?_
 refine pw_cond rfl (fun h => ?_) (fun h => ?_)
 ·have hk0 : 0 < k := by have := of_decide_eq_true h;omega
  clear h
  obtain ⟨i,rfl⟩ : ∃ i,k = i + 1 := ⟨k - 1,by omega⟩
  have e1 : (((i + 1 : Nat) : Int) - 1) = (i : Nat) := by omega
  rw [e1]
  obtain ⟨x,hx⟩ := get_lt (show i < a.length by omega)
  have hxl := u16_lt x
  obtain ⟨hq,hst⟩ := rovr_step hbp hO hx
  have hrb : r < nv b := by have := hO.r;simp only at this;rw [this];exact Nat.mod_lt _ hbp
  have hrl : (limbs r).length ≤ 200000000 := by have := limbs_len2 (L := b) (Nat.le_of_lt hrb);omega
  have htr := rtrim_ret (x :: limbs r) (by simp;omega)
  rw [trimL,nv_cons,nv_limbs] at htr
  have hRl : (limbs (x.toNat + 65536 * r)).length ≤ 200000001 := by
   have := limbs_lenL (x :: limbs r)
   rw [nv_cons,nv_limbs] at this
   simp at this;omega
  generalize hR : x.toNat + 65536 * r = R at *
  have hRm : R % nv b = R - nv b * (R / nv b) := by have := Nat.mod_add_div R (nv b);omega
  have hQm : (Q.map eD).length = Q.length := by simp
  have hQi := getD_at (l := Q) (i := i) (by omega)
  have hQ2 : (Q.map eD)[i]? = some (eD (Q.getD i 0)) := by rw [List.getElem?_map,hQi];rfl
  have hrow : (x :: limbs r).map eD = [eD x] ++ (limbs r).map eD := rfl
  ((repeat ((fail_if_success (with_reducible refine pw_at 6 ?_));refine stx rfl ?_));refine pw_regionS 7 ?_)
  iterate 2 refine stq rfl ?_
  refine qst rfl rfl (q_idxm rfl rfl rfl rfl rfl (by omega) hx rfl) ?_
  refine stq rfl ?_
  refine ps_run (o_slit 0 rfl rfl rfl rfl rfl rfl rfl rfl rfl rfl rfl (by repeat' constructor) rfl ?_)
  refine stq rfl ?_
  refine ps_run (o_app 1 rfl rfl rfl rfl rfl rfl rfl rfl rfl rfl rfl (by repeat' constructor) (by intro row hr;obtain ⟨p,_,rfl⟩ := List.mem_map.1 hr;rfl) rfl rfl (by simp;omega) (by simp;omega) ?_)
  refine ps_nil ?_
  refine psem_sm rfl (sm_gop (Ghost.takeF (enc := eD) (t := 28) (x :: limbs r) rfl rfl (rfl) rfl (fun _ => rfl)) ?_)
  (refine op_q (q_call rfl (htr) rfl ?_ rfl) ?_;·repeat' constructor)
  refine psem_ops ?_
  repeat refine stq rfl ?_
  refine pw_loop (fun q : Nat × Nat => RHalf (R / nv b) q.1 q.2) (fun q => [(0,.sl (a.map eD)),(1,.sl (b.map eD)),(6,.sl ((limbs R).map eD)),(7,.als 14 1 0 (Q.map eD).length),(8,I (i : Nat)),(9,I (q.1 : Nat)),(10,I (q.2 : Nat))])
   (fun q => [(14,1,⟨3,1,Q.map eD,0⟩)]) (fun q => q.2 - q.1) (0,65535) ⟨Nat.zero_le _,by simp only;omega,Nat.le_refl _⟩ ⟨rfl,rfl,rfl,rfl,rfl,rfl,rfl,rfl,trivial⟩ ?_
  rintro ⟨lo,hi⟩ s2 ⟨hl,hh,hm⟩
  simp only at hl hh hm
  dsimp only
  repeat refine stq rfl ?_
  refine pw_cond rfl (fun h => ?_) (fun h => ?_)
  ·have hlt : lo < hi := by have := of_decide_eq_true h;omega
   clear h
   have w1 : IntKind.i64.wrap ((lo : Int) + (hi : Int)) = ((lo + hi : Nat) : Int) := by rw [wrap_i64 (by omega) (by omega)];omega
   have w2 : IntKind.i64.wrap (((lo + hi : Nat) : Int) + 1) = ((lo + hi + 1 : Nat) : Int) := by rw [wrap_i64 (by omega) (by omega)];omega
   have w3 : IntKind.i64.wrap (Int.tdiv ((lo + hi + 1 : Nat) : Int) 2) = (((lo + hi + 1) / 2 : Nat) : Int) := by rw [Int.tdiv_eq_ediv_of_nonneg (by omega),wrap_i64] <;> omega
   generalize hmm : (lo + hi + 1) / 2 = m at *
   have w4 : IntKind.i64.wrap ((m : Int) - 1) = ((m - 1 : Nat) : Int) := by rw [wrap_i64 (by omega) (by omega)];omega
   have hm1 : m < 65536 := by omega
   have ht := rtimes_ret b [UInt16.ofNat m] (by omega) (by simp)
   rw [one_dg hm1,show [UInt16.ofNat m].map eD = [eD (UInt16.ofNat m)] from rfl,eD_of hm1] at ht
   have hbm : (limbs (nv b * m)).length ≤ 300000000 := by
    have h1 : nv b * m < 65536 ^ (b.length + 1) := by
     have := mul_pw (nv_lt b) (show m < 65536 ^ 1 by omega)
     exact this
    have := limbs_len h1
    omega
   have hc := rcompare_ret (limbs (nv b * m)) (limbs R) (by omega) (by omega)
   have hcs := cmpL_sign (limbs_trm (nv b * m)) (limbs_trm R)
   rw [nv_limbs,nv_limbs] at hcs
   have hle : cmpL (limbs (nv b * m)) (limbs R) ≤ 0 ↔ m ≤ R / nv b := by
    rw [Nat.le_div_iff_mul_le hbp,Nat.mul_comm m]
    omega
   generalize cmpL (limbs (nv b * m)) (limbs R) = cv at *
   generalize limbs (nv b * m) = BM at *
   repeat refine stq rfl ?_
   rw [w1]
   repeat refine stq rfl ?_
   rw [w2]
   repeat refine stq rfl ?_
   refine qst rfl rfl (QOp.v rfl (show ¬ (2 : Int) = 0 by decide)) ?_
   rw [w3]
   repeat refine stq rfl ?_
   refine qst rfl rfl (q_slit rfl rfl rfl rfl rfl rfl rfl rfl rfl rfl (by repeat' constructor) rfl) ?_
   repeat refine stq rfl ?_
   refine qst rfl rfl (q_cs rfl ht rfl rfl) ?_
   repeat refine stq rfl ?_
   refine qst rfl rfl (q_cp rfl hc rfl rfl rfl) ?_
   repeat refine stq rfl ?_
   refine pw_cond rfl (fun h => ?_) (fun h => ?_)
   ·have h1 := hle.1 (of_decide_eq_true h)
    clear h
    repeat refine stq rfl ?_
    exact ⟨(m,hi),⟨h1,hh,hm⟩,by simp only;omega,rfl,rfl,rfl,rfl,rfl,rfl,rfl,rfl,trivial⟩
   ·have h1 : ¬ m ≤ R / nv b := fun h2 => (of_decide_eq_false h) (hle.2 h2)
    clear h
    repeat refine stq rfl ?_
    exact ⟨(lo,m - 1),⟨hl,by simp only;omega,by simp only;omega⟩,by simp only;omega,rfl,rfl,rfl,rfl,rfl,rfl,congrArg I w4,rfl,trivial⟩
  ·have hge : lo = R / nv b := by have := of_decide_eq_false h;omega
   clear h
   have hw : IntKind.i64.wrap ((i : Int) - 1) = (i : Int) - 1 := wrap_i64 (by omega) (by omega)
   rw [← hge] at hst hRm
   have hlo : lo < 65536 := by omega
   have hlb : nv b * lo ≤ R := by rw [hge];exact Nat.mul_div_le R (nv b)
   have hbl : (limbs (nv b * lo)).length ≤ 200000001 := by have := limbs_le hlb;omega
   have ht := rtimes_ret b [UInt16.ofNat lo] (by omega) (by simp)
   rw [one_dg hlo,show [UInt16.ofNat lo].map eD = [eD (UInt16.ofNat lo)] from rfl,eD_of hlo] at ht
   have hmn := rminus_ret (limbs R) (limbs (nv b * lo)) (by omega) (by omega) (by rw [nv_limbs,nv_limbs];exact hlb)
   rw [nv_limbs,nv_limbs,← hRm] at hmn
   have hset : (Q.map eD).set i [I (lo : Nat)] = (Q.set i (UInt16.ofNat lo)).map eD := by rw [List.map_set,eD_of hlo]
   have hsetl : (Q.map eD).length = ((Q.set i (UInt16.ofNat lo)).map eD).length := by simp
   generalize limbs (nv b * lo) = BL at *
   repeat refine stq rfl ?_
   refine qst rfl rfl (q_idxA rfl rfl rfl rfl rfl rfl rfl (by omega) (by rw [List.length_map];omega)) ?_
   rw [Int.toNat_natCast,Nat.zero_add i]
   refine ps_run0 (o_store (kd' := 0) rfl rfl rfl hQ2 rfl rfl (by repeat' constructor) rfl rfl rfl rfl ?_)
   repeat refine stq rfl ?_
   refine pw_cond rfl (fun h => ?_) (fun h => ?_)
   ·have h1 : 0 < lo := by have := of_decide_eq_true h;omega
    clear h
    repeat refine stq rfl ?_
    refine qst rfl rfl (q_slit rfl rfl rfl rfl rfl rfl rfl rfl rfl rfl (by repeat' constructor) rfl) ?_
    repeat refine stq rfl ?_
    refine qst rfl rfl (q_cs rfl ht rfl rfl) ?_
    repeat refine stq rfl ?_
    refine qst rfl rfl (q_cs rfl hmn rfl rfl) ?_
    repeat refine stq rfl ?_
    refine ⟨(i,Q.set i (UInt16.ofNat lo),R % nv b),hst,by simp only;omega,rfl,rfl,rfl,?_,congrArg I hw,?_,trivial⟩
    ·exact congrArg (PV.als 14 1 0) hsetl
    ·show (1,some (Cont.mk 3 1 ((Q.map eD).set i [I (lo : Nat)]) 0)) = _
     rw [hset]
   ·have h1 : lo = 0 := by have := of_decide_eq_false h;omega
    clear h
    have hRR : R % nv b = R := by rw [hRm,h1];omega
    repeat refine stq rfl ?_
    refine ⟨(i,Q.set i (UInt16.ofNat lo),R % nv b),hst,by simp only;omega,rfl,rfl,by rw [hRR];rfl,?_,congrArg I hw,?_,trivial⟩
    ·exact congrArg (PV.als 14 1 0) hsetl
    ·show (1,some (Cont.mk 3 1 ((Q.map eD).set i [I (lo : Nat)]) 0)) = _
     rw [hset]
 ·have hk0 : k = 0 := by have := of_decide_eq_false h;omega
  subst hk0
  clear h
  obtain ⟨hv,hr⟩ := rovr_end hO
  subst hr
  have ht := rtrim_ret Q (by omega)
  rw [trimL,hv] at ht
  ((repeat ((fail_if_success (with_reducible refine pw_at 16 ?_));refine stx rfl ?_));refine pw_regionS 1 ?_)
  refine stq rfl ?_
  refine ps_nil ?_
  refine psem_sm rfl (sm_gop (Ghost.takeF (enc := eD) (t := 60) (Q) rfl rfl (rfl) rfl (fun _ => rfl)) ?_)
  (refine op_q (q_call rfl (ht) rfl ?_ rfl) ?_;·repeat' constructor)
  refine psem_ops ?_
  repeat refine stq rfl ?_
  exact end2 rfl rfl rfl rfl rfl trivial trivial rfl
set_option maxRecDepth 20000 in
theorem rgcd_ret (a b : List UInt16) (ha : a.length ≤ 100000000) (hb : b.length ≤ 100000000) (hta : Trm a) (htb : Trm b) : Ret Tryz.prog .shared 144 [.sl (a.map eD),.sl (b.map eD)] (.sl ((limbs (Nat.gcd (nv a) (nv b))).map eD)) := by
 generalize hg : Nat.gcd (nv a) (nv b) = g
 refine Ret.of_pwp layOk mixed Go.Proofs.Tryz.func144 rfl (by decide) rfl rfl ?_
 repeat refine stq rfl ?_
 refine pw_loop (fun q : List UInt16 × List UInt16 => q.1.length ≤ 100000000 ∧ q.2.length ≤ 100000000 ∧ Trm q.1 ∧ Trm q.2 ∧ Nat.gcd (nv q.1) (nv q.2) = g) (fun q => [(0,.sl (q.1.map eD)),(1,.sl (q.2.map eD))]) (fun _ => []) (fun q => nv q.2) (a,b) ⟨ha,hb,hta,htb,hg⟩ ⟨rfl,rfl,trivial⟩ ?_
 rintro ⟨A,B⟩ s ⟨hA,hB,htA,htB,hG⟩
 simp only at hA hB htA htB hG
 dsimp only
 have hBm : (B.map eD).length = B.length := by simp
 repeat refine stq rfl ?_
 refine pw_cond rfl (fun h => ?_) (fun h => ?_)
 ·have hB0 : 0 < B.length := by have := of_decide_eq_true h;omega
  clear h
  have hB0v : nv B ≠ 0 := by
   match B,hB0,htB with
   |x :: l,_,h => exact trm_pos h
  have hd := rover_ret A B (by omega) (by omega) hB0v
  rw [dvD] at hd
  have hml := Nat.mod_lt (nv A) (Nat.pos_of_ne_zero hB0v)
  have hnext : (limbs (nv A % nv B)).length ≤ 100000000 := by
   have h1 := limbs_le (Nat.le_of_lt hml)
   have h2 := limbs_lenL B
   omega
  have hG2 : Nat.gcd (nv B) (nv (limbs (nv A % nv B))) = g := by rw [nv_limbs,Nat.gcd_comm,← Nat.gcd_rec,Nat.gcd_comm];exact hG
  repeat refine stq rfl ?_
  refine qst rfl rfl (q_cs rfl hd rfl rfl) ?_
  repeat refine stq rfl ?_
  exact ⟨(B,limbs (nv A % nv B)),⟨hB,hnext,htB,limbs_trm _,hG2⟩,by simp only;rw [nv_limbs];exact hml,rfl,rfl,trivial⟩
 ·have hB0 : B.length = 0 := by have := of_decide_eq_false h;omega
  clear h
  have hB0v := List.length_eq_zero_iff.1 hB0
  subst hB0v
  rw [nv,Nat.gcd_zero_right] at hG
  rw [← hG,limbs_nv htA]
  repeat refine stq rfl ?_
  exact end1 rfl rfl rfl trivial rfl
end Go.Pv


set_option maxHeartbeats 2000000
namespace Go.Pv
attribute [local irreducible] PWP POps PQuiet PSem XThen XBlock RetPost InlPost
open Go.Proofs
theorem ofZ_made (neg : Bool) (l : List UInt16) (h : Trm l) : ofZ (sgz neg (nv l)) = ⟨neg && decide (0 < l.length),l⟩ := by
 rw [ofZ_sgz]
 cases l with
 |nil => rw [nv,if_pos rfl];simp
 |cons x l =>
  rw [if_neg (trm_pos h),limbs_nv h]
  simp
set_option maxRecDepth 20000 in
theorem made_ret (neg : Bool) (l : List UInt16) (hl : l.length ≤ 900000000) (ht : Trm l) : Ret Tryz.prog .shared 142 [.bool neg,.sl (l.map eD)] (.agg (eI (ofZ (sgz neg (nv l))))) := by
 have hml : (l.map eD).length = l.length := by simp
 rw [ofZ_made neg l ht]
 cases neg with
 |false =>
  rw [Bool.false_and]
  refine Ret.of_pwp layOk mixed Go.Proofs.Tryz.func142 rfl (by decide) rfl rfl ?_
  (repeat ((fail_if_success (with_reducible refine pw_at 2 ?_));refine stx rfl ?_))
  refine pw_ghost (Ghost.nilcell (k := 1007) (k0 := 5) (i := 0) (j := 1) 180 1 0 rfl rfl rfl rfl (row := [.bool false,.nil]) rfl rfl rfl) ?_
  repeat refine stq rfl ?_
  refine pw_loop (fun k => k ≤ l.length) (fun k => [(1,.sl (l.map eD)),(4,.ptr 4 1 0 0),(5,.ptr 5 1 0 0),(6,I (k : Nat))])
   (fun k => [(4,1,⟨24,2,[[.bool false,.nil]],2⟩),(5,1,⟨24,2,[[.bool false,.als 1007 (k + 1) 0 ((l.take k).map eU).length]],2⟩),(1007,k + 1,⟨180,1,(l.take k).map eU,0⟩)]) (fun k => l.length - k) 0 (Nat.zero_le _) ⟨rfl,rfl,rfl,rfl,rfl,rfl,rfl,trivial⟩ ?_
  intro k s hk
  repeat refine stq rfl ?_
  refine pw_cond rfl (fun h => ?_) (fun h => ?_)
  ·have hlt : k < l.length := by have := of_decide_eq_true h;omega
   clear h
   obtain ⟨x,hx⟩ := get_lt hlt
   have hxl := u16_lt x
   have hkl : (l.take k).length = k := by rw [List.length_take];omega
   have hw : IntKind.i64.wrap (((k : Nat) : Int) + 1) = ((k + 1 : Nat) : Int) := by rw [wrap_i64 (by omega) (by omega)];omega
   have hcx : IntKind.u16.wrap (x.toNat : Int) = (x.toNat : Int) := by rw [IntKind.wrap_u16];omega
   repeat refine stq rfl ?_
   refine pw_draw 8 [20,21,22,23,24,25,26,27] (by decide +kernel) ?_
   repeat refine stq rfl ?_
   refine qst rfl rfl (q_idxm rfl rfl rfl rfl rfl (by omega) hx rfl) ?_
   repeat refine stq rfl ?_
   rw [hcx]
   refine qst rfl rfl (q_slit rfl rfl rfl rfl rfl rfl rfl rfl rfl rfl (by repeat' constructor) rfl) ?_
   repeat refine stq rfl ?_
   refine ps_run (o_app 0 rfl rfl rfl rfl rfl rfl rfl rfl rfl rfl rfl (by repeat' constructor) (by intro row hr;first | (simp at hr;subst hr;rfl) | simp at hr) rfl rfl (by simp;omega) (by simp;omega) ?_)
   repeat refine stq rfl ?_
   refine ⟨k + 1,hlt,by omega,rfl,rfl,rfl,congrArg I hw,rfl,?_,?_,trivial⟩
   ·rw [take_snocU hx,List.map_append];rfl
   ·rw [take_snocU hx,List.map_append];rfl
  ·have hge : k = l.length := by have := of_decide_eq_false h;omega
   subst hge
   clear h
   rw [List.take_length]
   repeat refine stq rfl ?_
   exact endm rfl (by repeat' constructor) rfl (by repeat' constructor) rfl
 |true =>
  rw [Bool.true_and]
  have hd : decide ((0 : Int) < (((l.map eD).length : Nat) : Int)) = decide (0 < l.length) := by rw [hml,decide_eq_decide];omega
  rw [← hd]
  generalize hP : decide ((0 : Int) < (((l.map eD).length : Nat) : Int)) = P
  refine Ret.of_pwp layOk mixed Go.Proofs.Tryz.func142 rfl (by decide) rfl rfl ?_
  ((repeat (first | refine ps_nil ?_ | refine pq_nil ?_ | refine x_norm ?_ | refine pw_seq ?_));refine pw_region ?_)
  (repeat ((fail_if_success (with_reducible refine pw_at 2 ?_));refine stx rfl ?_))
  rw [hP]
  refine pw_ghost (Ghost.nilcell (k := 1007) (k0 := 5) (i := 0) (j := 1) 180 1 0 rfl rfl rfl rfl (row := [.bool P,.nil]) rfl rfl rfl) ?_
  repeat refine stq rfl ?_
  refine pw_loop (fun k => k ≤ l.length) (fun k => [(1,.sl (l.map eD)),(4,.ptr 4 1 0 0),(5,.ptr 5 1 0 0),(6,I (k : Nat))])
   (fun k => [(4,1,⟨24,2,[[.bool false,.nil]],2⟩),(5,1,⟨24,2,[[.bool P,.als 1007 (k + 1) 0 ((l.take k).map eU).length]],2⟩),(1007,k + 1,⟨180,1,(l.take k).map eU,0⟩)]) (fun k => l.length - k) 0 (Nat.zero_le _) ⟨rfl,rfl,rfl,rfl,rfl,rfl,rfl,trivial⟩ ?_
  intro k s hk
  repeat refine stq rfl ?_
  refine pw_cond rfl (fun h => ?_) (fun h => ?_)
  ·have hlt : k < l.length := by have := of_decide_eq_true h;omega
   clear h
   obtain ⟨x,hx⟩ := get_lt hlt
   have hxl := u16_lt x
   have hkl : (l.take k).length = k := by rw [List.length_take];omega
   have hw : IntKind.i64.wrap (((k : Nat) : Int) + 1) = ((k + 1 : Nat) : Int) := by rw [wrap_i64 (by omega) (by omega)];omega
   have hcx : IntKind.u16.wrap (x.toNat : Int) = (x.toNat : Int) := by rw [IntKind.wrap_u16];omega
   repeat refine stq rfl ?_
   refine pw_draw 8 [20,21,22,23,24,25,26,27] (by decide +kernel) ?_
   repeat refine stq rfl ?_
   refine qst rfl rfl (q_idxm rfl rfl rfl rfl rfl (by omega) hx rfl) ?_
   repeat refine stq rfl ?_
   rw [hcx]
   refine qst rfl rfl (q_slit rfl rfl rfl rfl rfl rfl rfl rfl rfl rfl (by repeat' constructor) rfl) ?_
   repeat refine stq rfl ?_
   refine ps_run (o_app 0 rfl rfl rfl rfl rfl rfl rfl rfl rfl rfl rfl (by repeat' constructor) (by intro row hr;first | (simp at hr;subst hr;rfl) | simp at hr) rfl rfl (by simp;omega) (by simp;omega) ?_)
   repeat refine stq rfl ?_
   refine ⟨k + 1,hlt,by omega,rfl,rfl,rfl,congrArg I hw,rfl,?_,?_,trivial⟩
   ·rw [take_snocU hx,List.map_append];rfl
   ·rw [take_snocU hx,List.map_append];rfl
  ·have hge : k = l.length := by have := of_decide_eq_false h;omega
   subst hge
   clear h
   rw [List.take_length]
   repeat refine stq rfl ?_
   exact endm rfl (by repeat' constructor) rfl (by repeat' constructor) rfl
end Go.Pv


set_option maxHeartbeats 2000000
namespace Go.Pv
attribute [local irreducible] PWP POps PQuiet PSem XThen XBlock RetPost InlPost
open Go.Proofs
theorem limbs_step {n : Nat} {L : List UInt16} {u : Nat} (h : limbs n = L ++ limbs u) (hu : 0 < u) : limbs n = (L ++ [UInt16.ofNat u]) ++ limbs (u / 65536) := by
 rw [h,limbs_pos (by omega),List.append_assoc];rfl
theorem limbs_len4 {n : Nat} (h : n < 18446744073709551616) : (limbs n).length ≤ 4 := by
 have e : (65536 : Nat) ^ 4 = 18446744073709551616 := by decide
 exact limbs_len (by omega)
set_option maxRecDepth 20000 in
theorem rof_ret (n : Int) (h0 : 0 ≤ n) (h1 : n ≤ 9223372036854775807) : Ret Tryz.prog .shared 143 [I n] (.agg (eI (ofZ n))) := by
 have hm := made_ret false (limbs n.toNat) (by have := limbs_len4 (n := n.toNat) (by omega);omega) (limbs_trm _)
 rw [nv_limbs,show sgz false n.toNat = n by rw [sgz];simp;omega] at hm
 have hcv : IntKind.u64.wrap n = ((n.toNat : Nat) : Int) := by rw [wrap_u64 (by omega) (by omega)];omega
 have hnl := limbs_len4 (n := n.toNat) (by omega)
 have hlt : decide (n < 0) = false := decide_eq_false (by omega)
 generalize ofZ n = Z at *
 refine Ret.of_pwp layOk mixed Go.Proofs.Tryz.func143 rfl (by decide) rfl rfl ?_
 (repeat ((fail_if_success (with_reducible refine pw_at 1 ?_));refine stx rfl ?_))
 ((repeat (first | refine ps_nil ?_ | refine pq_nil ?_ | refine x_norm ?_ | refine pw_seq ?_));refine pw_region ?_)
 (first | refine ps_run (o_nilm 3 1 0 rfl rfl ?_) | refine ps_run (o_nila 3 1 0 rfl rfl ?_))
 repeat refine stq rfl ?_
 rw [hcv]
 repeat refine stq rfl ?_
 refine pw_cond rfl (fun h => ?_) (fun h => ?_)
 ·have := of_decide_eq_true h;omega
 clear h
 repeat refine stq rfl ?_
 refine pw_loop (fun q : List UInt16 × Nat => q.2 < 18446744073709551616 ∧ limbs n.toNat = q.1 ++ limbs q.2) (fun q => [(0,I n),(2,.ptr 2 1 0 0),(3,.als 3 (q.1.length + 1) 0 (q.1.map eD).length),(4,.int .u64 (q.2 : Nat))])
  (fun q => [(2,1,⟨24,2,[[.bool false,.nil]],2⟩),(3,q.1.length + 1,⟨3,1,q.1.map eD,0⟩)]) (fun q => q.2) ([],n.toNat) ⟨by simp only;omega,rfl⟩ ⟨rfl,rfl,rfl,rfl,rfl,rfl,trivial⟩ ?_
 rintro ⟨L,u⟩ s ⟨hu,hL⟩
 simp only at hu hL
 dsimp only
 have hLl : L.length ≤ 4 := by rw [hL] at hnl;simp at hnl;omega
 repeat refine stq rfl ?_
 refine pw_cond rfl (fun h => ?_) (fun h => ?_)
 ·have hu0 : 0 < u := by have := of_decide_eq_true h;omega
  clear h
  have hst := limbs_step hL hu0
  have hr : IntKind.i64.wrap (Int.tmod ((u : Nat) : Int) 65536) = ((UInt16.ofNat u).toNat : Int) := by rw [rem_nat,wrap_i64] <;> (have := u16_lt (UInt16.ofNat u);omega)
  have hq : IntKind.u64.wrap (Int.tdiv ((u : Nat) : Int) 65536) = ((u / 65536 : Nat) : Int) := by rw [quo_nat,wrap_u64] <;> omega
  repeat refine stq rfl ?_
  refine qst rfl rfl (QOp.v rfl (show ¬ (65536 : Int) = 0 by decide)) ?_
  repeat refine stq rfl ?_
  rw [hr]
  refine ps_run (o_slit 0 rfl rfl rfl rfl rfl rfl rfl rfl rfl rfl rfl (by repeat' constructor) rfl ?_)
  repeat refine stq rfl ?_
  refine ps_run (o_app 0 rfl rfl rfl rfl rfl rfl rfl rfl rfl rfl rfl (by repeat' constructor) (by intro row hr;first | (simp at hr;subst hr;rfl) | simp at hr) rfl rfl (by simp;omega) (by simp;omega) ?_)
  repeat refine stq rfl ?_
  refine qst rfl rfl (QOp.v rfl (show ¬ (65536 : Int) = 0 by decide)) ?_
  rw [hq]
  repeat refine stq rfl ?_
  refine ⟨(L ++ [UInt16.ofNat u],u / 65536),⟨by simp only;omega,hst⟩,by simp only;omega,rfl,rfl,?_,rfl,rfl,?_,trivial⟩
  ·exact als_snD 3 L (UInt16.ofNat u)
  ·exact cont_snD 3 1 0 L (UInt16.ofNat u)
 ·have hu0 : u = 0 := by have := of_decide_eq_false h;omega
  clear h
  subst hu0
  rw [limbs_zero,List.append_nil] at hL
  rw [hL] at hm
  ((repeat ((fail_if_success (with_reducible refine pw_at 8 ?_));refine stx rfl ?_));refine pw_regionS 3 ?_)
  iterate 2 refine stq rfl ?_
  rw [hlt]
  refine stq rfl ?_
  refine ps_nil ?_
  refine psem_sm rfl (sm_gop (Ghost.takeF (enc := eD) (t := 23) (L) rfl rfl (rfl) rfl (fun _ => rfl)) ?_)
  (refine op_q (q_call rfl (hm) rfl ?_ rfl) ?_;·repeat' constructor)
  refine psem_ops ?_
  repeat refine stq rfl ?_
  exact endm rfl (by repeat' constructor) rfl (by repeat' constructor) rfl
theorem rneg_ret (a : RI) (ha : a.l.length ≤ 800000000) : Ret Tryz.prog .shared 150 [.agg (eI a)] (.agg (eI (ofZ (-a.val)))) := by
 have hr := read_ret a.l (by omega)
 have hm := made_ret (!a.neg) (trimL a.l) (by have := trimL_len a.l;omega) (trimL_trm _)
 rw [trimL_nv,show sgz (!a.neg) (nv a.l) = -a.val by rw [a.val_sgz];cases a.neg <;> simp [sgz]] at hm
 generalize ofZ (-a.val) = Z at *
 generalize trimL a.l = T at *
 obtain ⟨an,al⟩ := a
 simp only at *
 refine Ret.of_pwp layOk mixed Go.Proofs.Tryz.func150 rfl (by decide) rfl rfl ?_
 repeat refine stq rfl ?_
 refine pw_draw 7 [3,4,5,6,7,8,9] (by decide +kernel) ?_
 repeat refine stq rfl ?_
 refine qst rfl rfl (q_cs rfl hr rfl rfl) ?_
 repeat refine stq rfl ?_
 refine qst rfl rfl (q_cs rfl hm rfl rfl) ?_
 repeat refine stq rfl ?_
 exact endm rfl (by repeat' constructor) rfl (by repeat' constructor) rfl
theorem rsign_ret (a : RI) (ha : a.l.length ≤ 800000000) : Ret Tryz.prog .shared 92 [.agg (eI a)] (I (sgi a.val)) := by
 have ht := read_ret a.l (by omega)
 have hm : ((trimL a.l).map eD).length = (trimL a.l).length := by simp
 have h0 := trim_len0 (l := a.l)
 have hz := a.val_zero
 have hv : a.val = if a.neg then -(nv a.l : Int) else (nv a.l : Int) := rfl
 generalize trimL a.l = T at *
 obtain ⟨an,al⟩ := a
 simp only at *
 refine Ret.of_pwp layOk mixed Go.Proofs.Tryz.func92 rfl (by decide) rfl rfl ?_
 repeat refine stq rfl ?_
 refine qst rfl rfl (q_cs rfl ht rfl rfl) ?_
 repeat refine stq rfl ?_
 refine pw_cond rfl (fun h => ?_) (fun h => ?_)
 ·have h1 : nv al = 0 := h0.1 (by have := of_decide_eq_true h;omega)
  rw [sgi,if_pos (hz.2 h1)]
  repeat refine stq rfl ?_
  exact end1i rfl rfl rfl
 ·have h1 : nv al ≠ 0 := by
   intro h1
   have h2 := of_decide_eq_false h
   have := h0.2 h1
   omega
  rw [sgi,if_neg (fun h => h1 (hz.1 h))]
  clear h
  cases an
  ·rw [if_neg (by rw [hv];simp only [Bool.false_eq_true,if_false];omega)]
   repeat refine stq rfl ?_
   exact end1i rfl rfl rfl
  ·rw [if_pos (by rw [hv];simp only [if_true];omega)]
   repeat refine stq rfl ?_
   exact end1i rfl rfl rfl
set_option maxRecDepth 20000 in
theorem rmul_ret (a b : RI) (ha : a.l.length ≤ 300000000) (hb : b.l.length ≤ 300000000) : Ret Tryz.prog .shared 90 [.agg (eI a),.agg (eI b)] (.agg (eI (ofZ (a.val * b.val)))) := by
 have e : a.val * b.val = sgz (a.neg != b.neg) (nv a.l * nv b.l) := by
  rw [a.val_sgz,b.val_sgz]
  cases a.neg <;> cases b.neg <;> simp [sgz,Int.neg_mul,Int.mul_neg]
 rw [e]
 have hta := read_ret a.l (by omega)
 have htb := read_ret b.l (by omega)
 have hla := trimL_len a.l
 have hlb := trimL_len b.l
 have ht := rtimes_ret (trimL a.l) (trimL b.l) (by omega) (by omega)
 rw [trimL_nv,trimL_nv] at ht
 have hs := made_ret (a.neg != b.neg) (limbs (nv a.l * nv b.l)) (by
  have := limbs_len (mul_pw (nv_lt a.l) (nv_lt b.l));omega) (limbs_trm _)
 rw [nv_limbs] at hs
 obtain ⟨an,al⟩ := a
 obtain ⟨bn,bl⟩ := b
 simp only at *
 generalize trimL al = A at *
 generalize trimL bl = B at *
 generalize limbs (nv al * nv bl) = C at *
 generalize ofZ (sgz (an != bn) (nv al * nv bl)) = X at *
 refine Ret.of_pwp layOk mixed Go.Proofs.Tryz.func90 rfl (by decide) rfl rfl ?_
 repeat refine stq rfl ?_
 refine pw_draw 13 [5,6,7,8,9,10,11,12,13,14,15,16,17] (by decide +kernel) ?_
 repeat refine stq rfl ?_
 refine qst rfl rfl (q_cs rfl hta rfl rfl) ?_
 repeat refine stq rfl ?_
 refine qst rfl rfl (q_cs rfl htb rfl rfl) ?_
 repeat refine stq rfl ?_
 refine qst rfl rfl (q_cs rfl ht rfl rfl) ?_
 repeat refine stq rfl ?_
 refine qst rfl rfl (q_cs rfl hs rfl rfl) ?_
 repeat refine stq rfl ?_
 exact endm rfl (by repeat' constructor) rfl (by repeat' constructor) rfl
set_option maxRecDepth 20000 in
theorem radd_ret (a b : RI) (ha : a.l.length ≤ 300000000) (hb : b.l.length ≤ 300000000) : Ret Tryz.prog .shared 89 [.agg (eI a),.agg (eI b)] (.agg (eI (ofZ (a.val + b.val)))) := by
 have hta := read_ret a.l (by omega)
 have htb := read_ret b.l (by omega)
 have hla := trimL_len a.l
 have hlb := trimL_len b.l
 have hA := trimL_trm a.l
 have hB := trimL_trm b.l
 have hnA := trimL_nv a.l
 have hnB := trimL_nv b.l
 rw [a.val_sgz,b.val_sgz]
 obtain ⟨an,al⟩ := a
 obtain ⟨bn,bl⟩ := b
 simp only at *
 rw [← hnA,← hnB]
 generalize trimL al = A at *
 generalize trimL bl = B at *
 have hp := rplus_ret A B (by omega) (by omega)
 have hcm := rcompare_ret A B (by omega) (by omega)
 have hcs := (cmpL_sign hA hB).1
 have hlA := limbs_lenL A
 have hlB := limbs_lenL B
 have hlp : (limbs (nv A + nv B)).length ≤ 900000000 := by
  have := add_lenL (n := 400000000) (A := A) (B := B) (by omega) (by omega)
  omega
 by_cases hs : an = bn
 ·subst hs
  have hd := made_ret an (limbs (nv A + nv B)) hlp (limbs_trm _)
  rw [nv_limbs] at hd
  have e : sgz an (nv A) + sgz an (nv B) = sgz an (nv A + nv B) := by cases an <;> simp only [sgz,Bool.false_eq_true,if_false,if_true] <;> omega
  rw [e]
  generalize limbs (nv A + nv B) = C at *
  generalize ofZ (sgz an (nv A + nv B)) = X at *
  refine Ret.of_pwp layOk mixed Go.Proofs.Tryz.func89 rfl (by decide) rfl rfl ?_
  repeat refine stq rfl ?_
  refine pw_draw 8 [7,8,9,10,11,12,5,6] (by decide +kernel) ?_
  repeat refine stq rfl ?_
  refine qst rfl rfl (q_cs rfl hta rfl rfl) ?_
  repeat refine stq rfl ?_
  refine qst rfl rfl (q_cs rfl htb rfl rfl) ?_
  repeat refine stq rfl ?_
  refine pw_cond rfl (fun h => ?_) (fun h => ?_)
  ·clear h
   repeat refine stq rfl ?_
   refine pw_draw 6 [18,19,20,21,22,23] (by decide +kernel) ?_
   repeat refine stq rfl ?_
   refine qst rfl rfl (q_cs rfl hp rfl rfl) ?_
   repeat refine stq rfl ?_
   refine qst rfl rfl (q_cs rfl hd rfl rfl) ?_
   repeat refine stq rfl ?_
   exact endm rfl (by repeat' constructor) rfl (by repeat' constructor) rfl
  ·exfalso
   simp at h
 ·have hmA : nv B ≤ nv A → Ret Tryz.prog .shared 148 [.sl (A.map eD),.sl (B.map eD)] (.sl ((limbs (nv A - nv B)).map eD)) := rminus_ret A B (by omega) (by omega)
  have hmB : nv A ≤ nv B → Ret Tryz.prog .shared 148 [.sl (B.map eD),.sl (A.map eD)] (.sl ((limbs (nv B - nv A)).map eD)) := rminus_ret B A (by omega) (by omega)
  have hlm : (limbs (nv A - nv B)).length ≤ 900000000 := by have := limbs_le (Nat.sub_le (nv A) (nv B));omega
  have hlm2 : (limbs (nv B - nv A)).length ≤ 900000000 := by have := limbs_le (Nat.sub_le (nv B) (nv A));omega
  have hdA := made_ret an (limbs (nv A - nv B)) hlm (limbs_trm _)
  have hdB := made_ret bn (limbs (nv B - nv A)) hlm2 (limbs_trm _)
  rw [nv_limbs] at hdA hdB
  have eA : nv B ≤ nv A → sgz an (nv A) + sgz bn (nv B) = sgz an (nv A - nv B) := by intro h;cases an <;> cases bn <;> simp_all only [sgz,Bool.false_eq_true,if_false,if_true,not_true_eq_false,reduceCtorEq,not_false_eq_true] <;> omega
  have eB : nv A ≤ nv B → sgz an (nv A) + sgz bn (nv B) = sgz bn (nv B - nv A) := by intro h;cases an <;> cases bn <;> simp_all only [sgz,Bool.false_eq_true,if_false,if_true,not_true_eq_false,reduceCtorEq,not_false_eq_true] <;> omega
  generalize sgz an (nv A) + sgz bn (nv B) = Z at *
  generalize limbs (nv A - nv B) = C at *
  generalize limbs (nv B - nv A) = D at *
  generalize hX : ofZ (sgz an (nv A - nv B)) = X at *
  generalize hY : ofZ (sgz bn (nv B - nv A)) = Y at *
  refine Ret.of_pwp layOk mixed Go.Proofs.Tryz.func89 rfl (by decide) rfl rfl ?_
  repeat refine stq rfl ?_
  refine pw_draw 8 [7,8,9,10,11,12,5,6] (by decide +kernel) ?_
  repeat refine stq rfl ?_
  refine qst rfl rfl (q_cs rfl hta rfl rfl) ?_
  repeat refine stq rfl ?_
  refine qst rfl rfl (q_cs rfl htb rfl rfl) ?_
  repeat refine stq rfl ?_
  refine pw_cond rfl (fun h => ?_) (fun h => ?_)
  ·exfalso
   simp at h
   exact hs h
  ·clear h
   repeat refine stq rfl ?_
   refine qst rfl rfl (q_cp rfl hcm rfl rfl rfl) ?_
   repeat refine stq rfl ?_
   refine pw_cond rfl (fun h => ?_) (fun h => ?_)
   ·have hge : nv B ≤ nv A := by
     have h1 := of_decide_eq_true h
     omega
    clear h
    repeat refine stq rfl ?_
    refine pw_draw 6 [28,29,30,31,32,33] (by decide +kernel) ?_
    repeat refine stq rfl ?_
    refine qst rfl rfl (q_cs rfl (hmA hge) rfl rfl) ?_
    repeat refine stq rfl ?_
    refine qst rfl rfl (q_cs rfl hdA rfl rfl) ?_
    repeat refine stq rfl ?_
    exact endm rfl (by repeat' constructor) rfl (by repeat' constructor) (by rw [eA hge,hX];rfl)
   ·have hge : nv A ≤ nv B := by
     have h1 := of_decide_eq_false h
     omega
    clear h
    repeat refine stq rfl ?_
    refine pw_draw 6 [34,35,36,37,38,39] (by decide +kernel) ?_
    repeat refine stq rfl ?_
    refine qst rfl rfl (q_cs rfl (hmB hge) rfl rfl) ?_
    repeat refine stq rfl ?_
    refine qst rfl rfl (q_cs rfl hdB rfl rfl) ?_
    repeat refine stq rfl ?_
    exact endm rfl (by repeat' constructor) rfl (by repeat' constructor) (by rw [eB hge,hY];rfl)
end Go.Pv


set_option maxHeartbeats 2000000
namespace Go.Pv
attribute [local irreducible] PWP POps PQuiet PSem XThen XBlock RetPost InlPost
open Go.Proofs
theorem ofQ_den1 (z : Int) : ofQ ((z : Rat)) = ⟨ofZ z,ofZ 1⟩ := by
 rw [ofQ,Rat.num_intCast,Rat.den_intCast];rfl
theorem ofQ_num (q : Rat) : ofQ q = ⟨ofZ q.num,ofZ (q.den : Int)⟩ := by
 rw [ofQ,ofZ,ofZ]
 congr 2
set_option maxRecDepth 20000 in
theorem rover2_ret (a b : RI) (ha : a.l.length ≤ 90000000) (hb : b.l.length ≤ 90000000) : Ret Tryz.prog .shared 88 [.agg (eI a),.agg (eI b)] (.agg (eR (ofQ ((a.val : Rat) / (b.den : Rat))))) := by
 have hta := read_ret a.l (by omega)
 have htb := read_ret b.l (by omega)
 have hla := trimL_len a.l
 have hlb := trimL_len b.l
 have hb0 := trim_len0 (l := b.l)
 have hAn := trimL_nv a.l
 have hBn := trimL_nv b.l
 have hAt := trimL_trm a.l
 have hBt := trimL_trm b.l
 have h1 := rof_ret 1 (by decide) (by decide)
 by_cases h0 : nv b.l = 0
 ·have e : ofQ ((a.val : Rat) / (b.den : Rat)) = ⟨ofZ a.val,ofZ 1⟩ := by
   rw [RI.den,if_pos h0,← ofQ_den1]
   congr 1
   rw [show ((1 : Int) : Rat) = 1 from rfl];grind
  rw [e]
  have hm := made_ret a.neg (trimL a.l) (by omega) hAt
  rw [hAn,← a.val_sgz] at hm
  have hz : trimL b.l = [] := by rw [trimL,h0,limbs_zero]
  rw [hz] at htb
  generalize ofZ a.val = X at *
  generalize ofZ 1 = Y at *
  generalize trimL a.l = A at *
  obtain ⟨an,al⟩ := a
  obtain ⟨bn,bl⟩ := b
  simp only at *
  refine Ret.of_pwp layOk mixed Go.Proofs.Tryz.func88 rfl (by decide) rfl rfl ?_
  repeat refine stq rfl ?_
  refine pw_draw 8 [12,13,14,15,16,17,5,6] (by decide +kernel) ?_
  repeat refine stq rfl ?_
  refine qst rfl rfl (q_cs rfl hta rfl rfl) ?_
  repeat refine stq rfl ?_
  refine qst rfl rfl (q_cs rfl htb rfl rfl) ?_
  repeat refine stq rfl ?_
  refine qst rfl rfl (q_cs rfl hm rfl rfl) ?_
  repeat refine stq rfl ?_
  refine qst rfl rfl (q_cs rfl h1 rfl rfl) ?_
  repeat refine stq rfl ?_
  exact endm rfl (by repeat' constructor) rfl (by repeat' constructor) rfl
 ·have hbp : 0 < nv b.l := Nat.pos_of_ne_zero h0
  rw [RI.den,if_neg h0,ofQ_frac a b h0]
  have hg := rgcd_ret (trimL a.l) (trimL b.l) (by omega) (by omega) hAt hBt
  rw [hAn,hBn] at hg
  have hgp : 0 < Nat.gcd (nv a.l) (nv b.l) := Nat.gcd_pos_of_pos_right _ hbp
  have hgl : Nat.gcd (nv a.l) (nv b.l) ≤ nv b.l := Nat.gcd_le_right _ hbp
  have hgs : (limbs (Nat.gcd (nv a.l) (nv b.l))).length ≤ 90000000 := by
   have := limbs_len2 (L := b.l) hgl;omega
  generalize Nat.gcd (nv a.l) (nv b.l) = g at *
  have d1 := rover_ret (trimL a.l) (limbs g) (by omega) (by omega) (by rw [nv_limbs];omega)
  have d2 := rover_ret (trimL b.l) (limbs g) (by omega) (by omega) (by rw [nv_limbs];omega)
  rw [dvD,nv_limbs,hAn] at d1
  rw [dvD,nv_limbs,hBn] at d2
  have m1 := made_ret (a.neg != b.neg) (limbs (nv a.l / g)) (by have := limbs_len2 (L := a.l) (Nat.div_le_self (nv a.l) g);omega) (limbs_trm _)
  have m2 := made_ret false (limbs (nv b.l / g)) (by have := limbs_len2 (L := b.l) (Nat.div_le_self (nv b.l) g);omega) (limbs_trm _)
  rw [nv_limbs] at m1 m2
  have hbl : ¬ ((trimL b.l).length = 0) := fun h => h0 (hb0.1 h)
  have hbm : ((trimL b.l).map eD).length = (trimL b.l).length := by simp
  generalize ofZ (sgz (a.neg != b.neg) (nv a.l / g)) = X at *
  generalize ofZ (sgz false (nv b.l / g)) = Y at *
  generalize limbs (nv a.l / g) = A2 at *
  generalize limbs (nv b.l / g) = B2 at *
  generalize limbs (nv a.l % g) = A3 at *
  generalize limbs (nv b.l % g) = B3 at *
  generalize limbs g = G at *
  generalize trimL a.l = A at *
  generalize trimL b.l = B at *
  obtain ⟨an,al⟩ := a
  obtain ⟨bn,bl⟩ := b
  simp only at *
  refine Ret.of_pwp layOk mixed Go.Proofs.Tryz.func88 rfl (by decide) rfl rfl ?_
  repeat refine stq rfl ?_
  refine pw_draw 8 [12,13,14,15,16,17,5,6] (by decide +kernel) ?_
  repeat refine stq rfl ?_
  refine qst rfl rfl (q_cs rfl hta rfl rfl) ?_
  repeat refine stq rfl ?_
  refine qst rfl rfl (q_cs rfl htb rfl rfl) ?_
  repeat refine stq rfl ?_
  refine pw_cond rfl (fun h => ?_) (fun h => ?_)
  ·exact absurd (by have := of_decide_eq_true h;omega) hbl
  clear h
  repeat refine stq rfl ?_
  refine qst rfl rfl (q_cs rfl hg rfl rfl) ?_
  repeat refine stq rfl ?_
  refine qst rfl rfl (q_cs rfl d1 rfl rfl) ?_
  repeat refine stq rfl ?_
  refine qst rfl rfl (q_cs rfl d2 rfl rfl) ?_
  repeat refine stq rfl ?_
  refine qst rfl rfl (q_cs rfl m1 rfl rfl) ?_
  repeat refine stq rfl ?_
  refine qst rfl rfl (q_cs rfl m2 rfl rfl) ?_
  repeat refine stq rfl ?_
  exact endm rfl (by repeat' constructor) rfl (by repeat' constructor) rfl
theorem rnorm_ret (x : RR) (hn : x.n.l.length ≤ 90000000) (hd : x.d.l.length ≤ 90000000) : Ret Tryz.prog .shared 87 [.agg (eR x)] (.agg (eR (ofQ x.val))) := by
 have h := rover2_ret x.n x.d hn hd
 rw [show (x.n.val : Rat) / (x.d.den : Rat) = x.val from rfl] at h
 generalize ofQ x.val = X at *
 refine Ret.of_pwp layOk mixed Go.Proofs.Tryz.func87 rfl (by decide) rfl rfl ?_
 repeat refine stq rfl ?_
 refine qst rfl rfl (q_cs rfl h rfl rfl) ?_
 repeat refine stq rfl ?_
 exact endm rfl (by repeat' constructor) rfl (by repeat' constructor) rfl
theorem ofQ_n (q : Rat) : (ofQ q).n.val = q.num := ofZ_val _
theorem ofQ_d (q : Rat) : (ofQ q).d.val = (q.den : Int) := by rw [ofQ_num];exact ofZ_val _
theorem rneg2_ret (x : RR) {p : Rat} {n : Nat} [hx : Vq x p n] (hn : n ≤ 50000000) : Ret Tryz.prog .shared 91 [.agg (eR x)] (.agg (eR (ofQ (-p)))) := by
 have h1 := hx.sz
 have hh := hx.hq
 have hl := hq_len hh.ok
 have hnm := rnorm_ret x (by omega) (by omega)
 rw [hx.val] at hnm
 have hng := rneg_ret (ofQ p).n (by omega)
 rw [ofQ_n] at hng
 have e : ofQ (-p) = ⟨ofZ (-p.num),(ofQ p).d⟩ := by rw [ofQ_num,ofQ_num];simp
 rw [e]
 generalize ofZ (-p.num) = Z at *
 generalize ofQ p = P at *
 refine Ret.of_pwp layOk mixed Go.Proofs.Tryz.func91 rfl (by decide) rfl rfl ?_
 repeat refine stq rfl ?_
 refine qst rfl rfl (q_cs rfl hnm rfl rfl) ?_
 repeat refine stq rfl ?_
 refine pw_draw 6 [6,7,8,9,10,11] (by decide +kernel) ?_
 repeat refine stq rfl ?_
 refine qst rfl rfl (q_cs rfl hng rfl rfl) ?_
 repeat refine stq rfl ?_
 exact endm rfl (by repeat' constructor) rfl (by repeat' constructor) rfl
theorem qden_ne (q : Rat) : nv (ofQ q).d.l ≠ 0 := by
 have := ofQ_d q
 have h2 := (ofQ q).d.val_abs
 rw [this] at h2
 have := q.den_pos
 omega
theorem den_of_ne {a : RI} (h : nv a.l ≠ 0) : a.den = a.val := by rw [RI.den,if_neg h]
set_option maxRecDepth 20000 in
theorem rmulR_ret (x y : RR) {p q : Rat} {n m : Nat} [hx : Vq x p n] [hy : Vq y q m] (hn : n ≤ 20000000) (hm : m ≤ 20000000) : Ret Tryz.prog .shared 27 [.agg (eR x),.agg (eR y)] (.agg (eR (ofQ (p * q)))) := by
 have h1 := hx.sz
 have h2 := hy.sz
 have l1 := hq_len hx.hq.ok
 have l2 := hq_len hy.hq.ok
 have n1 := rnorm_ret x (by omega) (by omega)
 have n2 := rnorm_ret y (by omega) (by omega)
 rw [hx.val] at n1
 rw [hy.val] at n2
 have m1 := rmul_ret (ofQ p).n (ofQ q).n (by omega) (by omega)
 have m2 := rmul_ret (ofQ p).d (ofQ q).d (by omega) (by omega)
 have k1 := ofZ_lenM (ofQ p).n (ofQ q).n
 have k2 := ofZ_lenM (ofQ p).d (ofQ q).d
 have m3 := rover2_ret (ofZ ((ofQ p).n.val * (ofQ q).n.val)) (ofZ ((ofQ p).d.val * (ofQ q).d.val)) (by omega) (by omega)
 have hne : nv (ofZ ((ofQ p).d.val * (ofQ q).d.val)).l ≠ 0 := by
  rw [ofZ_l,nv_limbs,ofQ_d,ofQ_d,Int.natAbs_mul]
  have := Nat.mul_pos p.den_pos q.den_pos
  simp only [Int.natAbs_natCast];omega
 rw [den_of_ne hne,ofZ_val,ofZ_val,ofQ_n,ofQ_n,ofQ_d,ofQ_d,← quo_mul,← hq_num,← hq_num] at m3
 rw [ofQ_n,ofQ_n] at m1
 rw [ofQ_d,ofQ_d] at m2
 generalize ofZ (p.num * q.num) = Z1 at *
 generalize ofZ ((p.den : Int) * (q.den : Int)) = Z2 at *
 generalize ofQ (p * q) = R at *
 generalize ofQ p = P at *
 generalize ofQ q = Q at *
 refine Ret.of_pwp layOk mixed Go.Proofs.Tryz.func27 rfl (by decide) rfl rfl ?_
 repeat refine stq rfl ?_
 refine pw_draw2 4 2 [7,8,9,10,5,6] [] (by decide +kernel) rfl ?_
 repeat refine stq rfl ?_
 refine qst rfl rfl (q_cs rfl n1 rfl rfl) ?_
 repeat refine stq rfl ?_
 refine qst rfl rfl (q_cs rfl n2 rfl rfl) ?_
 repeat refine stq rfl ?_
 refine pw_draw 11 [11,12,13,14,15,16,17,18,19,20,21] (by decide +kernel) ?_
 repeat refine stq rfl ?_
 refine qst rfl rfl (q_cs rfl m1 rfl rfl) ?_
 repeat refine stq rfl ?_
 refine qst rfl rfl (q_cs rfl m2 rfl rfl) ?_
 repeat refine stq rfl ?_
 refine qst rfl rfl (q_cs rfl m3 rfl rfl) ?_
 repeat refine stq rfl ?_
 exact endm rfl (by repeat' constructor) rfl (by repeat' constructor) rfl
set_option maxRecDepth 20000 in
theorem rquoR_ret (x y : RR) {p q : Rat} {n m : Nat} [hx : Vq x p n] [hy : Vq y q m] (hn : n ≤ 20000000) (hm : m ≤ 20000000) (h0 : q ≠ 0) : Ret Tryz.prog .shared 62 [.agg (eR x),.agg (eR y)] (.agg (eR (ofQ (p / q)))) := by
 have h1 := hx.sz
 have h2 := hy.sz
 have l1 := hq_len hx.hq.ok
 have l2 := hq_len hy.hq.ok
 have n1 := rnorm_ret x (by omega) (by omega)
 have n2 := rnorm_ret y (by omega) (by omega)
 rw [hx.val] at n1
 rw [hy.val] at n2
 have m1 := rmul_ret (ofQ p).n (ofQ q).d (by omega) (by omega)
 have m2 := rmul_ret (ofQ p).d (ofQ q).n (by omega) (by omega)
 have k1 := ofZ_lenM (ofQ p).n (ofQ q).d
 have k2 := ofZ_lenM (ofQ p).d (ofQ q).n
 have m3 := rover2_ret (ofZ ((ofQ p).n.val * (ofQ q).d.val)) (ofZ ((ofQ p).d.val * (ofQ q).n.val)) (by omega) (by omega)
 have hne : nv (ofZ ((ofQ p).d.val * (ofQ q).n.val)).l ≠ 0 := by
  rw [ofZ_l,nv_limbs,ofQ_d,ofQ_n,Int.natAbs_mul]
  have hq : q.num ≠ 0 := fun h => h0 (Rat.num_eq_zero.1 h)
  have := Nat.mul_pos p.den_pos (show 0 < q.num.natAbs by omega)
  simp only [Int.natAbs_natCast];omega
 rw [den_of_ne hne,ofZ_val,ofZ_val,ofQ_n,ofQ_n,ofQ_d,ofQ_d,← quo_div,← hq_num,← hq_num] at m3
 rw [ofQ_n,ofQ_d] at m1
 rw [ofQ_d,ofQ_n] at m2
 generalize ofZ (p.num * (q.den : Int)) = Z1 at *
 generalize ofZ ((p.den : Int) * q.num) = Z2 at *
 generalize ofQ (p / q) = R at *
 generalize ofQ p = P at *
 generalize ofQ q = Q at *
 refine Ret.of_pwp layOk mixed Go.Proofs.Tryz.func62 rfl (by decide) rfl rfl ?_
 repeat refine stq rfl ?_
 refine pw_draw2 4 2 [7,8,9,10,5,6] [] (by decide +kernel) rfl ?_
 repeat refine stq rfl ?_
 refine qst rfl rfl (q_cs rfl n1 rfl rfl) ?_
 repeat refine stq rfl ?_
 refine qst rfl rfl (q_cs rfl n2 rfl rfl) ?_
 repeat refine stq rfl ?_
 refine pw_draw 11 [11,12,13,14,15,16,17,18,19,20,21] (by decide +kernel) ?_
 repeat refine stq rfl ?_
 refine qst rfl rfl (q_cs rfl m1 rfl rfl) ?_
 repeat refine stq rfl ?_
 refine qst rfl rfl (q_cs rfl m2 rfl rfl) ?_
 repeat refine stq rfl ?_
 refine qst rfl rfl (q_cs rfl m3 rfl rfl) ?_
 repeat refine stq rfl ?_
 exact endm rfl (by repeat' constructor) rfl (by repeat' constructor) rfl
set_option maxRecDepth 20000 in
theorem raddR_ret (x y : RR) {p q : Rat} {n m : Nat} [hx : Vq x p n] [hy : Vq y q m] (hn : n ≤ 20000000) (hm : m ≤ 20000000) : Ret Tryz.prog .shared 26 [.agg (eR x),.agg (eR y)] (.agg (eR (ofQ (p + q)))) := by
 have h1 := hx.sz
 have h2 := hy.sz
 have l1 := hq_len hx.hq.ok
 have l2 := hq_len hy.hq.ok
 have n1 := rnorm_ret x (by omega) (by omega)
 have n2 := rnorm_ret y (by omega) (by omega)
 rw [hx.val] at n1
 rw [hy.val] at n2
 have m1 := rmul_ret (ofQ p).n (ofQ q).d (by omega) (by omega)
 have m2 := rmul_ret (ofQ q).n (ofQ p).d (by omega) (by omega)
 have m4 := rmul_ret (ofQ p).d (ofQ q).d (by omega) (by omega)
 have k1 := ofZ_lenM (ofQ p).n (ofQ q).d
 have k2 := ofZ_lenM (ofQ q).n (ofQ p).d
 have k4 := ofZ_lenM (ofQ p).d (ofQ q).d
 have m5 := radd_ret (ofZ ((ofQ p).n.val * (ofQ q).d.val)) (ofZ ((ofQ q).n.val * (ofQ p).d.val)) (by omega) (by omega)
 have k5 := ofZ_lenA (ofZ ((ofQ p).n.val * (ofQ q).d.val)) (ofZ ((ofQ q).n.val * (ofQ p).d.val)) (n := 50000000) (by omega) (by omega)
 rw [ofZ_val,ofZ_val] at m5 k5
 have m3 := rover2_ret (ofZ ((ofQ p).n.val * (ofQ q).d.val + (ofQ q).n.val * (ofQ p).d.val)) (ofZ ((ofQ p).d.val * (ofQ q).d.val)) (by omega) (by omega)
 have hne : nv (ofZ ((ofQ p).d.val * (ofQ q).d.val)).l ≠ 0 := by
  rw [ofZ_l,nv_limbs,ofQ_d,ofQ_d,Int.natAbs_mul]
  have := Nat.mul_pos p.den_pos q.den_pos
  simp only [Int.natAbs_natCast];omega
 rw [den_of_ne hne,ofZ_val,ofZ_val,ofQ_n,ofQ_n,ofQ_d,ofQ_d,← quo_add _ _ _ _ (den_int_ne p) (den_int_ne q),← hq_num,← hq_num] at m3
 rw [ofQ_n,ofQ_d] at m1
 rw [ofQ_n,ofQ_d] at m2
 rw [ofQ_d,ofQ_d] at m4
 rw [ofQ_n,ofQ_n,ofQ_d,ofQ_d] at m5
 generalize ofZ (p.num * (q.den : Int) + q.num * (p.den : Int)) = Z5 at *
 generalize ofZ (p.num * (q.den : Int)) = Z1 at *
 generalize ofZ (q.num * (p.den : Int)) = Z2 at *
 generalize ofZ ((p.den : Int) * (q.den : Int)) = Z4 at *
 generalize ofQ (p + q) = R at *
 generalize ofQ p = P at *
 generalize ofQ q = Q at *
 refine Ret.of_pwp layOk mixed Go.Proofs.Tryz.func26 rfl (by decide) rfl rfl ?_
 repeat refine stq rfl ?_
 refine pw_draw2 4 2 [7,8,9,10,5,6] [] (by decide +kernel) rfl ?_
 repeat refine stq rfl ?_
 refine qst rfl rfl (q_cs rfl n1 rfl rfl) ?_
 repeat refine stq rfl ?_
 refine qst rfl rfl (q_cs rfl n2 rfl rfl) ?_
 repeat refine stq rfl ?_
 refine pw_draw 17 [11,12,13,14,15,16,17,18,19,20,21,22,23,24,25,26,27] (by decide +kernel) ?_
 repeat refine stq rfl ?_
 refine qst rfl rfl (q_cs rfl m1 rfl rfl) ?_
 repeat refine stq rfl ?_
 refine qst rfl rfl (q_cs rfl m2 rfl rfl) ?_
 repeat refine stq rfl ?_
 refine qst rfl rfl (q_cs rfl m5 rfl rfl) ?_
 repeat refine stq rfl ?_
 refine qst rfl rfl (q_cs rfl m4 rfl rfl) ?_
 repeat refine stq rfl ?_
 refine qst rfl rfl (q_cs rfl m3 rfl rfl) ?_
 repeat refine stq rfl ?_
 exact endm rfl (by repeat' constructor) rfl (by repeat' constructor) rfl
theorem rsubR_ret (x y : RR) {p q : Rat} {n m : Nat} [hx : Vq x p n] [hy : Vq y q m] (hn : n ≤ 10000000) (hm : m ≤ 10000000) : Ret Tryz.prog .shared 28 [.agg (eR x),.agg (eR y)] (.agg (eR (ofQ (p - q)))) := by
 have h1 := rneg2_ret y (by omega)
 have vn : Vq (ofQ (-q)) (-q) (m + 1) := Vq.ofQ (h := @HQ.neg _ _ hy.hq)
 have h2 := raddR_ret x (ofQ (-q)) (hy := vn) (by omega) (by omega)
 rw [← Rat.sub_eq_add_neg] at h2
 generalize ofQ (-q) = Y at *
 generalize ofQ (p - q) = X at *
 refine Ret.of_pwp layOk mixed Go.Proofs.Tryz.func28 rfl (by decide) rfl rfl ?_
 repeat refine stq rfl ?_
 refine pw_draw 4 [5,6,7,8] (by decide +kernel) ?_
 repeat refine stq rfl ?_
 refine qst rfl rfl (q_cs rfl h1 rfl rfl) ?_
 repeat refine stq rfl ?_
 refine qst rfl rfl (q_cs rfl h2 rfl rfl) ?_
 repeat refine stq rfl ?_
 exact endm rfl (by repeat' constructor) rfl (by repeat' constructor) rfl
theorem sgn_num (p : Rat) : sgi p.num = sgn p := by
 have h1 : (ofQ p).val = p := ofQ_val p
 have h2 := sgn_sgi (ofQ p)
 rw [h1,ofQ_n] at h2
 have h3 : (dn (ofQ p)).val = (p.den : Int) := by rw [dn,if_neg (qden_ne p),ofQ_d]
 rw [h3] at h2
 rw [h2]
 have := p.den_pos
 have h4 : sgi (p.den : Int) = 1 := by unfold sgi;split <;> (try split) <;> omega
 rw [h4];omega
theorem rsignR_ret (x : RR) {p : Rat} {n : Nat} [hx : Vq x p n] (hn : n ≤ 50000000) : Ret Tryz.prog .shared 29 [.agg (eR x)] (I (sgn p)) := by
 have h1 := hx.sz
 have hl := hq_len hx.hq.ok
 have hnm := rnorm_ret x (by omega) (by omega)
 rw [hx.val] at hnm
 have hs := rsign_ret (ofQ p).n (by omega)
 rw [ofQ_n,sgn_num] at hs
 generalize sgn p = g at *
 generalize ofQ p = P at *
 obtain ⟨Pn,Pd⟩ := P
 simp only at *
 refine Ret.of_pwp layOk mixed Go.Proofs.Tryz.func29 rfl (by decide) rfl rfl ?_
 repeat refine stq rfl ?_
 refine qst rfl rfl (q_cs rfl hnm rfl rfl) ?_
 repeat refine stq rfl ?_
 refine qst rfl rfl (q_cp rfl hs rfl rfl rfl) ?_
 repeat refine stq rfl ?_
 exact end1i rfl rfl rfl
theorem rcmpR_ret (x y : RR) {p q : Rat} {n m : Nat} [hx : Vq x p n] [hy : Vq y q m] (hn : n ≤ 10000000) (hm : m ≤ 10000000) : Ret Tryz.prog .shared 42 [.agg (eR x),.agg (eR y)] (I (sgn (p - q))) := by
 have h1 := rsubR_ret x y hn hm
 have vs : Vq (ofQ (p - q)) (p - q) (n + 1 + (m + 1) + 1) := Vq.ofQ (h := @HQ.sub _ _ _ _ hx.hq hy.hq)
 have h2 := rsignR_ret (ofQ (p - q)) (hx := vs) (by omega)
 generalize ofQ (p - q) = X at *
 generalize sgn (p - q) = g at *
 refine Ret.of_pwp layOk mixed Go.Proofs.Tryz.func42 rfl (by decide) rfl rfl ?_
 repeat refine stq rfl ?_
 refine qst rfl rfl (q_cs rfl h1 rfl rfl) ?_
 repeat refine stq rfl ?_
 refine qst rfl rfl (q_cp rfl h2 rfl rfl rfl) ?_
 repeat refine stq rfl ?_
 exact end1i rfl rfl rfl
end Go.Pv


namespace Go.Pv
def posQ (x : Rat) : Rat := if 0 < x then x else 0
def minQ (x y : Rat) : Rat := if y < x then y else x
def befQ (M : Nat → Rat) : Nat → Rat
 |0 => 0
 |k + 1 => M k
def rampQ (S M : Nat → Rat) (y : Rat) (k : Nat) : Rat := if y - S k < 0 then 0 else (M k - befQ M k) * (y - S k)
def topQ (S : Nat → Rat) (n : Nat) (y : Rat) (k : Nat) : Rat := if k + 1 < n then minQ y (S (k + 1)) else y
def pieceQ (S M : Nat → Rat) (n : Nat) (y : Rat) (k : Nat) : Rat := M k * posQ (topQ S n y k - S k)
theorem ramp_step {S M : Nat → Rat} {y : Rat} (k : Nat) : rampQ S M y k = (M k - befQ M k) * posQ (y - S k) := by
 rw [rampQ,posQ];grind
theorem ramp_part (S M : Nat → Rat) (y : Rat) : ∀ (k n : Nat),(∀ i,i < k → S i < S (i + 1)) → k < n → sumN (rampQ S M y) (k + 1) = sumN (pieceQ S M n y) k + M k * posQ (y - S k)
 |0,n,_,_ => by
  rw [sumN,sumN,sumN,ramp_step,befQ];grind
 |k + 1,n,h,hk => by
  have ih := ramp_part S M y k n (fun i hi => h i (by omega)) (by omega)
  have hs := h k (by omega)
  rw [sumN,ih,ramp_step,befQ,sumN,pieceQ,topQ,if_pos hk]
  have key : posQ (y - S k) = posQ (minQ y (S (k + 1)) - S k) + posQ (y - S (k + 1)) := by
   simp only [posQ,minQ];grind
  rw [key];grind
theorem ramp_piece {S M : Nat → Rat} {y : Rat} {n : Nat} (h : ∀ i,i + 1 < n → S i < S (i + 1)) : sumN (rampQ S M y) n = sumN (pieceQ S M n y) n := by
 cases n with
 |zero => rfl
 |succ k =>
  rw [ramp_part S M y k (k + 1) (fun i hi => h i (by omega)) (by omega)]
  rw [sumN,pieceQ,topQ,if_neg (by omega)]
end Go.Pv


namespace Go.Pv
theorem sumN_le {f g : Nat → Rat} : ∀ {n : Nat},(∀ k,k < n → f k ≤ g k) → sumN f n ≤ sumN g n
 |0,_ => Rat.le_refl
 |n + 1,h => by
  have h1 := sumN_le (n := n) fun k hk => h k (by omega)
  have h2 := h n (by omega)
  rw [sumN,sumN];grind
theorem sumN_add {f g : Nat → Rat} : ∀ {n : Nat},sumN (fun k => f k + g k) n = sumN f n + sumN g n
 |0 => by rw [sumN,sumN,sumN];grind
 |n + 1 => by rw [sumN,sumN,sumN,sumN_add];grind
theorem sumN_mul {f : Nat → Rat} {c : Rat} : ∀ {n : Nat},sumN (fun k => f k * c) n = sumN f n * c
 |0 => by rw [sumN,sumN];grind
 |n + 1 => by rw [sumN,sumN,sumN_mul];grind
structure Crv (n : Nat) (S M : Nat → Rat) : Prop where
 asc : ∀ k,k + 1 < n → S k < S (k + 1)
 nn : ∀ k,k < n → 0 ≤ M k
def valQ (n : Nat) (S M : Nat → Rat) (y : Rat) : Rat := sumN (rampQ S M y) n
def offQ (S M : Nat → Rat) (p : Nat) : Rat := sumN (fun k => (M k - befQ M k) * S k) p
def InL (n : Nat) (S : Nat → Rat) (p : Nat) (y : Rat) : Prop := p ≤ n ∧ (∀ k,p = k + 1 → S k < y) ∧ (p < n → y ≤ S p)
def InC (n : Nat) (S : Nat → Rat) (p : Nat) (y : Rat) : Prop := p ≤ n ∧ (∀ k,p = k + 1 → S k ≤ y) ∧ (p < n → y ≤ S p)
section
variable {n : Nat} {S M : Nat → Rat} {y : Rat} {p : Nat}
theorem InL.c (h : InL n S p y) : InC n S p y := ⟨h.1,fun k hk => by have := h.2.1 k hk;grind,h.2.2⟩
theorem Crv.mono_st (h : Crv n S M) : ∀ {j i : Nat},i ≤ j → j < n → S i ≤ S j
 |0,i,h1,_ => by
  have : i = 0 := by omega
  subst this;exact Rat.le_refl
 |j + 1,i,h1,h2 => by
  by_cases he : i = j + 1
  ·subst he;exact Rat.le_refl
  ·have := h.mono_st (j := j) (i := i) (by omega) (by omega)
   have := h.asc j (by omega)
   grind
theorem InL.some (h : Crv n S M) (y : Rat) : ∀ (m : Nat),m ≤ n → ∃ p,p ≤ m ∧ (∀ k,p = k + 1 → S k < y) ∧ (p < m → y ≤ S p)
 |0,_ => ⟨0,Nat.le_refl _,fun k hk => by omega,fun hk => by omega⟩
 |m + 1,hm => by
  by_cases hy : S m < y
  ·exact ⟨m + 1,Nat.le_refl _,fun k hk => by have : k = m := by omega
                                             subst this;exact hy,fun hk => by omega⟩
  ·obtain ⟨p,h1,h2,h3⟩ := InL.some h y m (by omega)
   refine ⟨p,by omega,h2,fun _ => ?_⟩
   by_cases hp : p < m
   ·exact h3 hp
   ·have : p = m := by omega
    subst this;grind
theorem InL.get (h : Crv n S M) (y : Rat) : ∃ p,InL n S p y := InL.some h y n (Nat.le_refl _)
theorem off_piece : ∀ (p : Nat),sumN (fun k => (M k - befQ M k) * (y - S k)) p = befQ M p * y - offQ S M p
 |0 => by rw [sumN,offQ,sumN,befQ];grind
 |p + 1 => by rw [sumN,off_piece p,offQ,offQ,sumN,befQ];grind
theorem val_piece (h : Crv n S M) (hp : InC n S p y) : valQ n S M y = befQ M p * y - offQ S M p := by
 obtain ⟨h1,h2,h3⟩ := hp
 rw [← off_piece,valQ]
 have key : ∀ m,p + m ≤ n → sumN (rampQ S M y) (p + m) = sumN (fun k => (M k - befQ M k) * (y - S k)) p := by
  intro m
  induction m with
  |zero =>
   intro _
   refine sumN_congr fun k hk => ?_
   have : S k ≤ y := by
    cases p with
    |zero => omega
    |succ p =>
     have := h2 p rfl
     have := h.mono_st (i := k) (j := p) (by omega) (by omega)
     grind
   rw [rampQ,if_neg (by grind)]
  |succ m ih =>
   intro hm
   rw [Nat.add_succ,sumN,ih (by omega),rampQ]
   have h4 := h3 (by omega)
   have h5 := h.mono_st (i := p) (j := p + m) (by omega) (by omega)
   split
   ·grind
   ·have : y - S (p + m) = 0 := by grind
    rw [this];grind
 have := key (n - p) (by omega)
 rwa [show p + (n - p) = n by omega] at this
theorem bef_nn (h : Crv n S M) (hp : p ≤ n) : 0 ≤ befQ M p := by
 cases p with
 |zero => rw [befQ];exact Rat.le_refl
 |succ p => exact h.nn p (by omega)
theorem posQ_nn (x : Rat) : 0 ≤ posQ x := by rw [posQ];grind
theorem posQ_mono {x z : Rat} (h : x ≤ z) : posQ x ≤ posQ z := by simp only [posQ];grind
theorem val_nn (h : Crv n S M) : 0 ≤ valQ n S M y := by
 rw [valQ,ramp_piece h.asc]
 refine sumN_nonneg fun k hk => ?_
 rw [pieceQ]
 exact Rat.mul_nonneg (h.nn k hk) (posQ_nn _)
theorem val_mono (h : Crv n S M) {x z : Rat} (hx : x ≤ z) : valQ n S M x ≤ valQ n S M z := by
 rw [valQ,valQ,ramp_piece h.asc,ramp_piece h.asc]
 refine sumN_le fun k hk => ?_
 rw [pieceQ,pieceQ]
 refine Rat.mul_le_mul_of_nonneg_left (posQ_mono ?_) (h.nn k hk)
 have : topQ S n x k ≤ topQ S n z k := by
  simp only [topQ,minQ];grind
 grind
def capQ (n : Nat) (S M : Nat → Rat) : Rat := offQ S M n * (-1)
theorem val_last (h : Crv n S M) (hl : InC n S n y) (h0 : befQ M n = 0) : valQ n S M y = capQ n S M := by
 rw [val_piece h hl,h0,capQ];grind
end
end Go.Pv


namespace Go.Pv
structure Bd where
 N : Nat
 X : Nat → Rat
 C : Nat → Rat
 n : Nat → Nat
 S : Nat → Nat → Rat
 M : Nat → Nat → Rat
 w : Rat
 A : Rat
structure Bd.Ok (b : Bd) : Prop where
 crv : ∀ i,i < b.N → Crv (b.n i) (b.S i) (b.M i)
 pos : 0 < b.w
namespace Bd
variable {b : Bd}
def y (b : Bd) (z t : Rat) (i : Nat) : Rat := b.C i + (z + t * b.X i)
def f (b : Bd) (z t : Rat) (i : Nat) : Rat := valQ (b.n i) (b.S i) (b.M i) (b.y z t i)
def F (b : Bd) (z t : Rat) : Rat := sumN (b.f z t) b.N
def G (b : Bd) (z t : Rat) : Rat := sumN (fun i => b.f z t i * b.X i) b.N
def e (b : Bd) (z t : Rat) : Rat := b.G z t - b.w * b.A
def Least (b : Bd) (z t : Rat) : Prop := b.F z t = b.w ∧ ∀ z',z' < z → b.F z' t < b.w
def Bal (b : Bd) (z t : Rat) : Prop := b.F z t = b.w ∧ b.G z t = b.w * b.A
theorem f_mono (h : b.Ok) {z z' t : Rat} (hz : z ≤ z') {i : Nat} (hi : i < b.N) : b.f z t i ≤ b.f z' t i := val_mono (h.crv i hi) (by rw [y,y];grind)
theorem F_mono (h : b.Ok) {z z' t : Rat} (hz : z ≤ z') : b.F z t ≤ b.F z' t := sumN_le fun _ hi => f_mono h hz hi
theorem f_nn (h : b.Ok) {z t : Rat} {i : Nat} (hi : i < b.N) : 0 ≤ b.f z t i := val_nn (h.crv i hi)
def Inl (b : Bd) (p : Nat → Nat) (z t : Rat) : Prop := ∀ i,i < b.N → InL (b.n i) (b.S i) (p i) (b.y z t i)
def Inc (b : Bd) (p : Nat → Nat) (z t : Rat) : Prop := ∀ i,i < b.N → InC (b.n i) (b.S i) (p i) (b.y z t i)
def k (b : Bd) (p : Nat → Nat) (i : Nat) : Rat := befQ (b.M i) (p i)
def o (b : Bd) (p : Nat → Nat) (i : Nat) : Rat := offQ (b.S i) (b.M i) (p i)
def Kh (b : Bd) (p : Nat → Nat) : Rat := sumN (b.k p) b.N
def Kc (b : Bd) (p : Nat → Nat) : Rat := sumN (fun i => b.k p i * b.X i) b.N
def Kp (b : Bd) (p : Nat → Nat) : Rat := sumN (fun i => b.k p i * b.X i * b.X i) b.N
def Fo (b : Bd) (p : Nat → Nat) : Rat := sumN (fun i => b.k p i * b.C i - b.o p i) b.N
def Go (b : Bd) (p : Nat → Nat) : Rat := sumN (fun i => (b.k p i * b.C i - b.o p i) * b.X i) b.N
theorem Inl.c {p : Nat → Nat} {z t : Rat} (h : b.Inl p z t) : b.Inc p z t := fun i hi => (h i hi).c
theorem f_at (h : b.Ok) {p : Nat → Nat} {z t : Rat} (hp : b.Inc p z t) {i : Nat} (hi : i < b.N) : b.f z t i = b.k p i * b.y z t i - b.o p i := val_piece (h.crv i hi) (hp i hi)
theorem F_at (h : b.Ok) {p : Nat → Nat} {z t : Rat} (hp : b.Inc p z t) : b.F z t = b.Kh p * z + b.Kc p * t + b.Fo p := by
 rw [F,sumN_congr (g := fun i => b.k p i * b.y z t i - b.o p i) fun i hi => f_at h hp hi]
 have key : ∀ n,sumN (fun i => b.k p i * b.y z t i - b.o p i) n = sumN (b.k p) n * z + sumN (fun i => b.k p i * b.X i) n * t + sumN (fun i => b.k p i * b.C i - b.o p i) n := by
  intro n
  induction n with
  |zero => simp only [sumN];grind
  |succ n ih => simp only [sumN];rw [ih,y];grind
 exact key b.N
theorem G_at (h : b.Ok) {p : Nat → Nat} {z t : Rat} (hp : b.Inc p z t) : b.G z t = b.Kc p * z + b.Kp p * t + b.Go p := by
 rw [G,sumN_congr (g := fun i => (b.k p i * b.y z t i - b.o p i) * b.X i) fun i hi => by rw [f_at h hp hi]]
 have key : ∀ n,sumN (fun i => (b.k p i * b.y z t i - b.o p i) * b.X i) n = sumN (fun i => b.k p i * b.X i) n * z + sumN (fun i => b.k p i * b.X i * b.X i) n * t + sumN (fun i => (b.k p i * b.C i - b.o p i) * b.X i) n := by
  intro n
  induction n with
  |zero => simp only [sumN];grind
  |succ n ih => simp only [sumN];rw [ih,y];grind
 exact key b.N
theorem k_nn (h : b.Ok) {p : Nat → Nat} {z t : Rat} (hp : b.Inc p z t) {i : Nat} (hi : i < b.N) : 0 ≤ b.k p i := bef_nn (h.crv i hi) (hp i hi).1
theorem inl_below {p : Nat → Nat} {z t : Rat} (hp : b.Inl p z t) : ∃ d,0 < d ∧ ∀ d',0 ≤ d' → d' ≤ d → b.Inl p (z - d') t := by
 have key : ∀ m,m ≤ b.N → ∃ d : Rat,0 < d ∧ ∀ d',0 ≤ d' → d' ≤ d → ∀ i,i < m → InL (b.n i) (b.S i) (p i) (b.y (z - d') t i) := by
  intro m
  induction m with
  |zero => exact fun _ => ⟨1,by decide,fun _ _ _ i hi => by omega⟩
  |succ m ih =>
   intro hm
   obtain ⟨d,h1,h2⟩ := ih (by omega)
   obtain ⟨g1,g2,g3⟩ := hp m (by omega)
   obtain ⟨d2,h3,h4⟩ : ∃ d2 : Rat,0 < d2 ∧ ∀ k,p m = k + 1 → b.S m k < b.y z t m - d2 := by
    cases hpm : p m with
    |zero => exact ⟨1,by decide,fun k hk => by omega⟩
    |succ k =>
     have := g2 k hpm
     refine ⟨(b.y z t m - b.S m k) / 2,by grind,fun k' hk' => ?_⟩
     obtain rfl : k = k' := by omega
     grind
   refine ⟨minQ d d2,by rw [minQ];grind,fun d' h5 h6 i hi => ?_⟩
   have h7 : d' ≤ d ∧ d' ≤ d2 := by rw [minQ] at h6;grind
   by_cases he : i < m
   ·exact h2 d' h5 h7.1 i he
   ·obtain rfl : i = m := by omega
    have hy : b.y (z - d') t i = b.y z t i - d' := by rw [y,y];grind
    refine ⟨g1,fun k hk => ?_,fun hk => ?_⟩
    ·have := h4 k hk;rw [hy];grind
    ·have := g3 hk;rw [hy];grind
 obtain ⟨d,h1,h2⟩ := key b.N (Nat.le_refl _)
 exact ⟨d,h1,fun d' h3 h4 i hi => h2 d' h3 h4 i hi⟩
theorem Least.K (h : b.Ok) {p : Nat → Nat} {z t : Rat} (hl : b.Least z t) (hp : b.Inl p z t) : 0 < b.Kh p := by
 obtain ⟨d,h1,h2⟩ := inl_below hp
 have h3 := F_at h hp.c
 have h4 := F_at h (h2 d (by grind) Rat.le_refl).c
 have h5 := hl.2 (z - d) (by grind)
 rw [h4] at h5
 rw [hl.1] at h3
 have h6 : 0 < b.Kh p * d := by grind
 have h7 : 0 ≤ b.Kh p := sumN_nonneg fun i hi => k_nn h hp.c hi
 by_cases h8 : b.Kh p = 0
 ·rw [h8] at h6;grind
 ·grind
theorem Least.uniq {z z' t : Rat} (h1 : b.Least z t) (h2 : b.Least z' t) : z = z' := by
 rcases Classical.em (z < z') with hc | hc
 ·have := h2.2 z hc;rw [h1.1] at this;grind
 ·rcases Classical.em (z' < z) with hd | hd
  ·have := h1.2 z' hd;rw [h2.1] at this;grind
  ·grind
def ln (b : Bd) (p : Nat → Nat) (t : Rat) : Rat := (b.w - b.Fo p - b.Kc p * t) / b.Kh p
theorem ln_at (h : b.Ok) {p : Nat → Nat} {z t : Rat} (hF : b.F z t = b.w) (hp : b.Inc p z t) (hK : 0 < b.Kh p) : z = b.ln p t := by
 have h1 := F_at h hp
 rw [hF] at h1
 have hne : b.Kh p ≠ 0 := by grind
 rw [ln];grind
end Bd
end Go.Pv


set_option maxHeartbeats 2000000
namespace Go.Pv
attribute [local irreducible] PWP POps PQuiet PSem XThen XBlock RetPost InlPost
open Go.Proofs
structure CR where
 S : List Int
 M : List RR
structure SR where
 x : Int
 c : RR
 k : CR
structure BR where
 w : Int
 a : RR
 l : List SR
def eN (z : Int) : List PV := [I z]
def eC (c : CR) : List PV := [.sl (c.S.map eN),.sl (c.M.map eR)]
def eS (s : SR) : List PV := I s.x :: (eR s.c ++ eC s.k)
def eB (b : BR) : List PV := I b.w :: (eR b.a ++ [.sl (b.l.map eS)])
def RR.sz (x : RR) (n : Nat) : Prop := x.n.l.length ≤ n ∧ x.d.l.length ≤ n
theorem RR.sz.v {x : RR} {n : Nat} (h : x.sz n) : Vq x x.val n := Vq.raw h.1 h.2
def i64 (z : Int) : Prop := -9223372036854775808 ≤ z ∧ z ≤ 9223372036854775807
structure CR.Lim (c : CR) : Prop where
 s : ∀ z ∈ c.S,i64 z
 m : ∀ x ∈ c.M,x.sz 12
 ls : c.S.length ≤ 1000000000
 lm : c.M.length ≤ 1000000000
theorem sgn_lt (p : Rat) : sgn p < 0 ↔ p < 0 := by unfold sgn;split <;> (try split) <;> simp_all <;> omega
theorem sgn_eq (p : Rat) : sgn p = 0 ↔ p = 0 := by
 unfold sgn
 split
 ·rename_i h;constructor
  ·intro h1;omega
  ·intro h1;subst h1;grind
 ·split <;> simp_all
theorem sgn_gt (p : Rat) : 0 < sgn p ↔ 0 < p := by
 unfold sgn
 split
 ·rename_i h;constructor
  ·intro h1;omega
  ·intro h1;grind
 ·rename_i h;split
  ·rename_i h1;subst h1;simp
  ·constructor
   ·intro _;grind
   ·intro _;omega
theorem sgn_ge (p : Rat) : 0 ≤ sgn p ↔ 0 ≤ p := by
 have h1 := sgn_lt p
 constructor
 ·intro h;have : ¬ p < 0 := fun h2 => by have := h1.2 h2;omega
  grind
 ·intro h;have : ¬ sgn p < 0 := fun h2 => by have := h1.1 h2;grind
  omega
theorem sgn_le (p : Rat) : sgn p ≤ 0 ↔ p ≤ 0 := by
 have h1 := sgn_gt p
 constructor
 ·intro h;have : ¬ 0 < p := fun h2 => by have := h1.2 h2;omega
  grind
 ·intro h;have : ¬ 0 < sgn p := fun h2 => by have := h1.1 h2;grind
  omega
def stepE (c : CR) (i : Nat) : Int :=
 if c.S.getD i 0 < -10000000 ∨ 10000000 < c.S.getD i 0 ∨ (c.M.getD i RR.zero).val < 0 then 2
 else if 0 < i ∧ c.S.getD i 0 ≤ c.S.getD (i - 1) 0 then 10 else 0
def curveF (c : CR) : Nat → Nat → Int
 |_,0 => 0
 |i,k + 1 => if stepE c i = 0 then curveF c (i + 1) k else stepE c i
def curveE (c : CR) : Int := if 40 < c.S.length then 8 else if c.M.length ≠ c.S.length then 11 else curveF c 0 c.S.length
theorem get_some {α : Type} {l : List α} {i : Nat} {d : α} (h : i < l.length) : l[i]? = some (l.getD i d) := by
 rw [List.getD_eq_getElem?_getD,List.getElem?_eq_getElem h];rfl
set_option maxRecDepth 20000 in
theorem checkCurve_ret (c : CR) (hc : c.Lim) : Ret Tryz.prog .shared 78 [.agg (eC c)] (I (curveE c)) := by
 obtain ⟨S,M⟩ := c
 obtain ⟨hs,hm,hls,hlm⟩ := hc
 simp only at hs hm hls hlm
 have hSl : (S.map eN).length = S.length := by simp
 have hMl : (M.map eR).length = M.length := by simp
 generalize hE : curveE ⟨S,M⟩ = E
 simp only [curveE] at hE
 show Ret Tryz.prog .shared 78 [.agg [.sl (S.map eN),.sl (M.map eR)]] (I E)
 refine Ret.of_pwp layOk mixed Go.Proofs.Tryz.func78 rfl (by decide) rfl rfl ?_
 repeat refine stq rfl ?_
 refine pw_cond rfl (fun h => ?_) (fun h => ?_)
 ·have h1 := of_decide_eq_true h
  rw [if_pos (by omega)] at hE
  subst hE
  repeat refine stq rfl ?_
  exact end1i rfl rfl rfl
 have h40 : ¬ 40 < S.length := by have h1 := of_decide_eq_false h;omega
 rw [if_neg h40] at hE
 clear h
 repeat refine stq rfl ?_
 refine pw_cond rfl (fun h => ?_) (fun h => ?_)
 ·have h1 : M.length ≠ S.length := by simp at h;omega
  rw [if_pos h1] at hE
  subst hE
  repeat refine stq rfl ?_
  exact end1i rfl rfl rfl
 have hSM : M.length = S.length := by simp at h;omega
 rw [if_neg (by omega)] at hE
 clear h
 repeat refine stq rfl ?_
 refine pw_loop (fun i : Nat => i ≤ S.length ∧ curveF ⟨S,M⟩ i (S.length - i) = E) (fun i => [(17,.sl (S.map eN)),(18,I S.length),(19,I (i : Nat)),(1,.ptr 1 1 0 0)]) (fun _ => [(1,1,⟨120,2,[[.sl (S.map eN),.sl (M.map eR)]],2⟩)]) (fun i => S.length - i) 0 ⟨Nat.zero_le _,hE⟩ ⟨rfl,by rw [← hSl];rfl,rfl,rfl,rfl,trivial⟩ ?_
 intro i s ⟨hi,hF⟩
 repeat refine stq rfl ?_
 refine pw_cond rfl (fun h => ?_) (fun h => ?_)
 ·have hlt : i < S.length := by have := of_decide_eq_true h;omega
  clear h
  obtain ⟨k,hk⟩ : ∃ k,S.length - i = k + 1 := ⟨S.length - i - 1,by omega⟩
  rw [hk,curveF] at hF
  have hx := get_some (d := 0) hlt
  have hmx := get_some (l := M) (i := i) (d := RR.zero) (by omega)
  have hse : stepE ⟨S,M⟩ i = stepE ⟨S,M⟩ i := rfl
  conv at hse => rhs;rw [stepE]
  simp only at hse
  generalize stepE ⟨S,M⟩ i = se at *
  have hxb := hs _ (List.mem_of_getElem? hx)
  have hmv := (hm _ (List.mem_of_getElem? hmx)).v
  have hsg := signR (M.getD i RR.zero) (hx := hmv) (by decide)
  have hsl := sgn_lt (M.getD i RR.zero).val
  generalize hx0 : S.getD i 0 = x at *
  generalize M.getD i RR.zero = m at *
  generalize sgn m.val = sg at *
  repeat refine stq rfl ?_
  refine qst rfl rfl (q_idxm rfl rfl rfl rfl rfl (by omega) hx rfl) ?_
  repeat refine stq rfl ?_
  (first|refine ps_split rfl rfl ?_ ?_|refine pq_split rfl rfl ?_ ?_|refine p3_split rfl rfl ?_ ?_)<;>intro h
  ·have h1 := of_decide_eq_true h
   clear h
   have hS2 : se = 2 := by rw [hse,if_pos (.inl h1)]
   rw [hS2,if_neg (by decide)] at hF
   subst hF
   repeat refine stq rfl ?_
   exact end1i rfl rfl rfl
  ·have h1 := of_decide_eq_false h
   clear h
   repeat refine stq rfl ?_
   (first|refine ps_split rfl rfl ?_ ?_|refine pq_split rfl rfl ?_ ?_|refine p3_split rfl rfl ?_ ?_)<;>intro h
   ·have h2 := of_decide_eq_true h
    clear h
    have hS2 : se = 2 := by rw [hse,if_pos (.inr (.inl h2))]
    rw [hS2,if_neg (by decide)] at hF
    subst hF
    repeat refine stq rfl ?_
    exact end1i rfl rfl rfl
   ·have h2 := of_decide_eq_false h
    clear h
    repeat refine stq rfl ?_
    refine qst rfl rfl (q_idxm rfl rfl rfl rfl rfl (by omega) hmx rfl) ?_
    repeat refine stq rfl ?_
    refine qst rfl rfl (q_cp rfl hsg rfl rfl rfl) ?_
    repeat refine stq rfl ?_
    refine pw_cond rfl (fun h => ?_) (fun h => ?_)
    ·have h3 := of_decide_eq_true h
     clear h
     have hS2 : se = 2 := by rw [hse,if_pos (.inr (.inr (hsl.1 h3)))]
     rw [hS2,if_neg (by decide)] at hF
     subst hF
     repeat refine stq rfl ?_
     exact end1i rfl rfl rfl
    ·have h3 := of_decide_eq_false h
     clear h
     rw [if_neg (by rw [← hsl];omega)] at hse
     repeat refine stq rfl ?_
     (first|refine ps_split rfl rfl ?_ ?_|refine pq_split rfl rfl ?_ ?_|refine p3_split rfl rfl ?_ ?_)<;>intro h
     ·have h4 := of_decide_eq_true h
      clear h
      obtain ⟨j,rfl⟩ : ∃ j,i = j + 1 := ⟨i - 1,by omega⟩
      have hw1 : IntKind.i64.wrap (((j + 1 : Nat) : Int) - 1) = ((j : Nat) : Int) := by rw [wrap_i64 (by omega) (by omega)];omega
      have hy := get_some (l := S) (i := j) (d := 0) (by omega)
      rw [show j + 1 - 1 = j by omega] at hse
      generalize S.getD j 0 = y at *
      repeat refine stq rfl ?_
      rw [hw1]
      refine qst rfl rfl (q_idxm rfl rfl rfl rfl rfl (by omega) hy rfl) ?_
      repeat refine stq rfl ?_
      refine pw_cond rfl (fun h => ?_) (fun h => ?_)
      ·have h5 := of_decide_eq_true h
       clear h
       have hS2 : se = 10 := by rw [hse,if_pos ⟨by omega,h5⟩]
       rw [hS2,if_neg (by decide)] at hF
       subst hF
       repeat refine stq rfl ?_
       exact end1i rfl rfl rfl
      ·have h5 := of_decide_eq_false h
       clear h
       have hS2 : se = 0 := by rw [hse,if_neg (fun h => h5 h.2)]
       rw [if_pos hS2] at hF
       have hw : IntKind.i64.wrap (((j + 1 : Nat) : Int) + 1) = ((j + 1 + 1 : Nat) : Int) := by rw [wrap_i64 (by omega) (by omega)];omega
       repeat refine stq rfl ?_
       exact ⟨j + 1 + 1,⟨by omega,by rw [show S.length - (j + 1 + 1) = k by omega];exact hF⟩,by omega,rfl,rfl,congrArg I hw,rfl,rfl,trivial⟩
     ·have h4 := of_decide_eq_false h
      clear h
      have hS2 : se = 0 := by rw [hse,if_neg (fun h => h4 (by omega))]
      rw [if_pos hS2] at hF
      have hw : IntKind.i64.wrap (((i : Nat) : Int) + 1) = ((i + 1 : Nat) : Int) := by rw [wrap_i64 (by omega) (by omega)];omega
      repeat refine stq rfl ?_
      exact ⟨i + 1,⟨by omega,by rw [show S.length - (i + 1) = k by omega];exact hF⟩,by omega,rfl,rfl,congrArg I hw,rfl,rfl,trivial⟩
 ·have hie : i = S.length := by have := of_decide_eq_false h;omega
  rw [hie,Nat.sub_self,curveF] at hF
  subst hF
  repeat refine stq rfl ?_
  exact end1i rfl rfl rfl
end Go.Pv


namespace Go.Pv
open Go.RowKit
variable [Globs]
def bindP : List (Tmp × PV) → (Nat → PV) → Nat → PV
 |[],f => f
 |(p,v) :: l,f => bindP l fun r => bif Nat.beq r p then v else f r
theorem bind_spec {E : Env} : ∀ (ps : List Tmp) (cs : List PV) (vs : List Value) (f : Nat → PV) (tmps : Array Value),ps.length = cs.length → cs.length = vs.length → (∀ p ∈ ps,p < tmps.size) → (∀ t,Rep E (f t) (tmps.getD t undef)) →
  (∀ (i : Nat) (c : PV) (v : Value),cs[i]? = some c → vs[i]? = some v → Rep E c v) →
  ((ps.zip vs).foldl (fun t q => t.setIfInBounds q.1 q.2) tmps).size = tmps.size ∧ ∀ t,Rep E (bindP (ps.zip cs) f t) (((ps.zip vs).foldl (fun t q => t.setIfInBounds q.1 q.2) tmps).getD t undef)
 |[],[],[],f,tmps,_,_,_,hf,_ => ⟨rfl,hf⟩
 |p :: ps,c :: cs,v :: vs,f,tmps,h1,h2,hp,hf,hd => by
  have hp0 : p < tmps.size := hp p (.head _)
  have ih := bind_spec ps cs vs (fun r => bif Nat.beq r p then c else f r) (tmps.setIfInBounds p v) (by simpa using h1) (by simpa using h2) (fun q hq => by simpa using hp q (.tail _ hq)) (fun t => by
   by_cases ht : t = p
   ·subst ht
    have e1 : (tmps.setIfInBounds t v).getD t undef = v := by simp [hp0]
    rw [e1]
    simpa using hd 0 c v rfl rfl
   ·have e1 : (tmps.setIfInBounds p v).getD t undef = tmps.getD t undef := by simp [Array.getElem?_setIfInBounds_ne (Ne.symm ht)]
    rw [e1,nbeq_ne ht]
    exact hf t) (fun i c' v' e1 e2 => hd (i + 1) c' v' (by simpa using e1) (by simpa using e2))
  refine ⟨?_,fun t => ?_⟩
  ·rw [List.zip_cons_cons,List.foldl_cons,ih.1];simp
  ·rw [List.zip_cons_cons,List.zip_cons_cons,List.foldl_cons]
   exact ih.2 t
 |[],_ :: _,_,_,_,h,_,_,_,_ => by simp at h
 |[],[],_ :: _,_,_,_,h,_,_,_ => by simp at h
 |_ :: _,[],_,_,_,h,_,_,_,_ => by simp at h
 |_ :: _,_ :: _,[],_,_,_,h,_,_,_ => by simp at h
def rndC (ps : Array Tmp) (asg body : Code) (st : LoopState) (pend : Option Code) (regs : Nat → PV) : Cont := ⟨0,0,[[.lbl ps asg body st pend regs]],4⟩
def RoundPost (s : St) (kL g : Nat) (ps : Array Tmp) (asg body : Code) (regs : Nat → PV) (d : Nat) (K : St → Prop) : Exit → St → Prop
 |.normal,s' => s'.own kL = (g,some (rndC ps asg body .busy none regs)) ∧ K (({ reg := s.reg,own := (s'.setOwn kL g (some (rndC ps asg body .ready none regs))).own } : St).putR d (.bool true))
 |.exit id,s' => s'.own kL = (g,some (rndC ps asg body .busy none regs)) ∧ K (({ reg := s.reg,own := (s'.setOwn kL g (some (rndC ps asg body .done (some (.exit id)) regs))).own } : St).putR d (.bool false))
 |.ret,s' => s'.own kL = (g,some (rndC ps asg body .busy none regs)) ∧ K (({ reg := s.reg,own := (s'.setOwn kL g (some (rndC ps asg body .done (some .ret) regs))).own } : St).putR d (.bool false))
 |_,_ => False
def RangePost (s : St) (kL g : Nat) (ps : Array Tmp) (asg body : Code) (Q : Exit → St → Prop) : Exit → St → Prop
 |.normal,s' | .ret,s' => (s'.own kL = (g,some (rndC ps asg body .ready none s.reg)) ∧ Q .normal { reg := s.reg,own := (s'.setOwn kL (g + 1) none).own }) ∨
   (∃ id,s'.own kL = (g,some (rndC ps asg body .done (some (.exit id)) s.reg)) ∧ Q (.exit id) { reg := s.reg,own := (s'.setOwn kL (g + 1) none).own }) ∨
   (s'.own kL = (g,some (rndC ps asg body .done (some .ret) s.reg)) ∧ Q .ret { reg := s.reg,own := (s'.setOwn kL (g + 1) none).own })
 |_,_ => False
section
variable {P : Program} {L : Lay} {C : Ctx} {γ : Nat → Option Nat} {s : St} {a : Act} {w : World}
theorem Sim.yl_at (_h : Sim C γ s a w) {k g : Nat} {c : Cont} {v : Value} (hr : Rep (envOf C γ s w) (.yl k g) v) (ho : s.own k = (g,some c)) : ∃ b,γ k = some b ∧ v = .func (.yield b) #[] #[] := by
 cases hr with
 |d h => cases h
 |yl hg hl => exact (hl (by simp [envOf,ho]) ⟨γ k,c.ty,c.sz,c.rows.length⟩ (by simp [envOf,ho])).2
theorem Sim.turnLoop {s' : St} {a' : Act} {w3 : World} {C2 : Ctx} {γ' : Nat → Option Nat} (hs' : Sim C2 γ' s' a' w3) {kL g b : Nat} {ps : Array Tmp} {asg body : Code} {regs : Nat → PV} {st : LoopState} {pend : Option Code} (ho : s'.own kL = (g,some (rndC ps asg body st pend regs))) (hb : γ' kL = some b) :
  ∃ rec : Loop,w3.heap[b]? = some (.loop rec) ∧ rec.state = st ∧ rec.pending = pend ∧ ∀ (st2 : LoopState) (pend2 : Option Code),Sim C2 γ' (s'.setOwn kL g (some (rndC ps asg body st2 pend2 regs))) a' (w3.putObj b (.loop { rec with state := st2,pending := pend2 })) := by
 have hit := (hs'.sites kL _ (by rw [ho])).it b hb rfl (show (3:Nat) ≤ 4 by decide)
 obtain ⟨rec,regs',h1,h2,h3',h3,h4,h5⟩ : LoopAt (envOf C2 γ' s' w3) b (rndC ps asg body st pend regs).rows := hit
 have h1 : w3.heap[b]? = some (.loop rec) := h1
 simp only [rndC,List.cons.injEq,PV.lbl.injEq,and_true] at h2
 obtain ⟨e1,e2,e3,e4,e5,e6⟩ := h2
 subst e6
 refine ⟨rec,h1,e4.symm,e5.symm,fun st2 pend2 => ?_⟩
 obtain ⟨hp,hnew⟩ := put_set (o' := .loop { rec with state := st2,pending := pend2 }) h1
 have hnc : ∀ cur T f,w3.heap[b]? ≠ some (.cells cur T f) := fun cur T f e => by rw [h1] at e;cases e
 have hle := put_le (c' := rndC ps asg body st2 pend2 regs) hs' ho hb hnc hp rfl rfl (Nat.le_refl _)
 refine put_sim hs' ho hb hnc hp rfl rfl (Nat.le_refl _) ⟨(fun e => by cases e),(fun b' _ _ hk => by simp [rndC] at hk),fun b' hb' _ _ => ?_,(fun b' _ hz => by simp [rndC] at hz)⟩
 cases hb'
 show LoopAt _ _ _
 exact ⟨{ rec with state := st2,pending := pend2 },regs,hnew,by simp [rndC,← e1,← e2,← e3],h3',h3,h4,fun t => (h5 t).mono hle⟩
theorem sm_yield {o : Oper} {args : Array Operand} {tys : Array TypeId} {tf d kL g : Nat} {ps : Array Tmp} {asg body : Code} {regs : Nat → PV} {K : St → Prop} (ho : o.op = .call ⟨.value (.tmp tf),args,tys⟩) (hd : o.dst = some d) (hy : s.reg tf = .yl kL g)
  (hown : s.own kL = (g,some (rndC ps asg body .ready none regs))) (hps : args.size = ps.size)
  (h : PWP P L asg (XThen (fun s2 => s2.own kL = (g,some (rndC ps asg body .ready none regs)) ∧ PWP P L body (RoundPost s kL g ps asg body regs d K) { reg := s2.reg,own := (s2.setOwn kL g (some (rndC ps asg body .busy none regs))).own }) (fun _ _ => False)) { reg := bindP (ps.toList.zip (args.toList.map s.ev)) regs,own := s.own }) : SmI P L s o K := by
 intro ro n C a w Q hG ⟨γ,hs⟩ hN hQ
 have hyr := hs.ev (.tmp tf)
 rw [show s.ev (.tmp tf) = .yl kL g from hy] at hyr
 obtain ⟨b,hb,hv⟩ := hs.yl_at hyr hown
 have hit := (hs.sites kL _ (by rw [hown])).it b hb rfl (show (3:Nat) ≤ 4 by decide)
 obtain ⟨rec,regs',h1,h2,h3',h3,h4,h5⟩ : LoopAt (envOf C γ s w) b (rndC ps asg body .ready none regs).rows := hit
 have h1 : w.heap[b]? = some (.loop rec) := h1
 simp only [rndC,List.cons.injEq,PV.lbl.injEq,and_true] at h2
 obtain ⟨e1,e2,e3,e4,e5,e6⟩ := h2
 subst e6
 refine ⟨fun _ _ => trivial,?_⟩
 have hexec : (o.semAt (Fr ro).round a.eval).run P w = .ok (.round b rec.fn ((rec.params.zip (args.map a.eval)).foldl (fun tmps (t,a) => tmps.setIfInBounds t a) rec.tmps) rec.assign rec.body) w := by
  rw [Oper.semAt_eq _ _ _ (fun c e => by rw [ho] at e;cases e)]
  simp only [execOp,ho,resolve,hv,Deferred.ofValue,Sem.run_bind,Sem.run_pure,Result.andThen_ok,invoke]
  rw [show (#[] ++ args.map a.eval : Array Value) = args.map a.eval by simp]
  exact run_yield h1 (by rw [← e1];simpa using hps)
 rw [hexec,Oper.uponIn_round]
 refine ⟨fun e => by simp [Fr,Fence.wide] at e,?_⟩
 refine roundIn_of_wpIn trivial ?_
 rw [← e2,← e3]
 rw [← e2] at h3'
 rw [← e3] at h3
 let C2 : Ctx := ⟨C.B,C.X,C.w0,rec.tmps.size,fun c v => C.keep c v ∨ ∃ t,c = s.reg t ∧ v = a.tmps.getD t undef,[]⟩
 have hG2 : Good P L C2 := ⟨hG.lay,hG.x,hG.mixed,hG.glob⟩
 have hfold : (rec.params.zip (args.map a.eval)).foldl (fun tmps (t,a) => tmps.setIfInBounds t a) rec.tmps = (ps.toList.zip (args.toList.map a.eval)).foldl (fun t q => t.setIfInBounds q.1 q.2) rec.tmps := by
  rw [← e1,← Array.foldl_toList,Array.toList_zip,Array.toList_map]
 obtain ⟨b1,b2⟩ := bind_spec (E := envOf C γ s w) ps.toList (args.toList.map s.ev) (args.toList.map a.eval) regs rec.tmps (by simpa using hps.symm) (by simp)
  (fun p hp => by rw [e1] at hp;simpa using List.all_eq_true.1 h4 p hp) (fun t => h5 t) (fun i c v q1 q2 => by
   rw [List.getElem?_map] at q1 q2
   cases hx : args.toList[i]? with
   |none => rw [hx] at q1;simp at q1
   |some x => rw [hx] at q1 q2;simp at q1 q2;subst q1;subst q2;exact hs.ev x)
 rw [hfold]
 have hsim2 : SimE C2 { reg := bindP (ps.toList.zip (args.toList.map s.ev)) regs,own := s.own } { tmps := (ps.toList.zip (args.toList.map a.eval)).foldl (fun t q => t.setIfInBounds q.1 q.2) rec.tmps,defers := [] } w := by
  refine ⟨γ,rfl,b1,b2,hs.sites,hs.inj,hs.base,hs.below,hs.top,?_⟩
  rintro c v (hk | ⟨t,rfl,rfl⟩)
  ·exact hs.kept c v hk
  ·exact hs.regs t
 rw [fr_round]
 refine wpIn_mono (PWP.soundX (X := fun A B => A = B) (fun _ => rfl) (fun h k => h.trans k) (fun h => by subst h;exact .refl _) (r := false) (fun h => by cases h) asg _ C2 _ _ _ hG2 h3' (fun _ hq => hq) hsim2 h) ?_
 rintro e aA wA ⟨C',sA,rfl,⟨γA,hsA⟩,hq⟩
 have he : e = .normal := by
  cases e
  case normal => rfl
  all_goals exact absurd hq id
 subst he
 obtain ⟨hownA,hbodyA⟩ := hq
 show ∃ w₂,_
 have hkyA := hsA.kept (.yl kL g) (.func (.yield b) #[] #[]) (.inr ⟨tf,hy.symm,hv.symm⟩)
 obtain ⟨bA,hbA,hvA⟩ := hsA.yl_at hkyA hownA
 have hbb : b = bA := by injection hvA with q;injection q with q
 subst hbb
 obtain ⟨rec2,r1,r2,r3,r4⟩ := hsA.turnLoop hownA hbA
 have hs1 := r4 .busy none
 have hw2 : wA.putObj b (.loop { rec2 with state := .busy,pending := none }) = wA.putObj b (.loop { rec2 with state := .busy }) := by
  have : ({ rec2 with state := .busy,pending := none } : Loop) = { rec2 with state := .busy } := by rw [← r3]
  rw [this]
 rw [hw2] at hs1
 refine ⟨_,run_beginRound r1 r2,?_⟩
 have hsimB : SimE C2 { reg := sA.reg,own := (sA.setOwn kL g (some (rndC ps asg body .busy none regs))).own } aA (wA.putObj b (.loop { rec2 with state := .busy })) := ⟨γA,hs1⟩
 refine wpIn_mono (PWP.soundX (X := fun A B => A = B) (fun _ => rfl) (fun h k => h.trans k) (fun h => by subst h;exact .refl _) (r := false) (fun h => by cases h) body _ C2 _ _ _ hG2 h3 (fun _ hq => hq) hsimB hbodyA) ?_
 have fin : ∀ {s' : St} {a' : Act} {w3 : World} (jump : Option Code) (st : LoopState),st = (if jump.isNone then .ready else .done) → SimE C2 s' a' w3 → s'.own kL = (g,some (rndC ps asg body .busy none regs)) →
   K (({ reg := s.reg,own := (s'.setOwn kL g (some (rndC ps asg body st jump regs))).own } : St).putR d (.bool jump.isNone)) →
   ∃ v w4,(Instr.endRound b jump).run P w3 = .ok v w4 ∧ ∃ s'',SimE C s'' (a.put o.dst v) w4 ∧ K s'' := by
  rintro s' a' w3 jump st rfl ⟨γ',hs'⟩ hown' hk
  have hky := hs'.kept (.yl kL g) (.func (.yield b) #[] #[]) (.inr ⟨tf,hy.symm,hv.symm⟩)
  obtain ⟨b',hb',hvb⟩ := hs'.yl_at hky hown'
  have hbb : b' = b := by injection hvb with q;injection q with q;exact q.symm
  subst hbb
  obtain ⟨rec3,q1,q2,q3,q4⟩ := hs'.turnLoop hown' hb'
  have hs4 := q4 (if jump.isNone then .ready else .done) jump
  refine ⟨_,_,run_endRound jump q1,_,⟨γ',?_⟩,hk⟩
  have hback : Sim C γ' { reg := s.reg,own := (s'.setOwn kL g (some (rndC ps asg body (if jump.isNone then .ready else .done) jump regs))).own } a (w3.putObj b' (.loop { rec3 with state := if jump.isNone then .ready else .done,pending := jump })) :=
   ⟨hs.defers,hs.size,fun r => hs4.kept _ _ (.inr ⟨r,rfl,rfl⟩),hs4.sites,hs4.inj,hs4.base,hs4.below,hs4.top,fun c v hk => hs4.kept c v (.inl hk)⟩
  rw [hd]
  rw [hd] at hN
  exact hback.put (d := some d) hN (.d (.bool _))
 rintro e a' w3 ⟨C',s',rfl,h',hq⟩
 cases e
 case normal => exact fin none .ready rfl h' hq.1 hq.2
 case ret => exact fin (some .ret) .done rfl h' hq.1 hq.2
 case exit id => exact fin (some (.exit id)) .done rfl h' hq.1 hq.2
 all_goals exact hq.elim
theorem pw_range {Q : Exit → St → Prop} {g : Operand} {ps : Array Tmp} {assign body : Code} (h : RangeS P L g ps assign body Q s) : PWP P L (.rangeFunc g ps assign body) Q s := Gh.of h
theorem range_inl {Q : Exit → St → Prop} {g : Operand} {gf : FuncId} {caps : List PV} {fn : Func} {bodyI : Code} {ps : Array Tmp} {asg body : Code} (kL : Nat) {gn : Nat} {oc : Option Cont} (hg : s.ev g = .clo gf caps) (hf : P.funcs[gf]? = some fn) (hb : fn.body = some bodyI)
  (hn : (fn.name == "runtime.NumGoroutine") = false) (hlen : Nat.ble (1 + caps.length) fn.ntmps = true) (hc : codeOk fn.ntmps bodyI = true) (hres : fn.results = #[]) (hown : s.own kL = (gn, oc))
  (h : PWP P L bodyI (RangePost s kL (gn + 1) ps asg body Q) { reg := fun t => ((.yl kL (gn + 1)) :: caps).getD t (.raw undef),own := (s.setOwn kL (gn + 1) (some (rndC ps asg body .ready none s.reg))).own }) : RangeS P L g ps asg body Q s := by
 intro n C a w hG ⟨γ,hs⟩ hcode hQ
 simp only [codeB,Bool.true_and,Bool.and_eq_true] at hcode
 obtain ⟨⟨hpsN,hasg⟩,hbody⟩ := hcode
 refine wpIn_rangeFunc fun fnid _ => ?_
 have hge := hs.ev g
 rw [hg] at hge
 obtain ⟨vs,hv,hl,hd⟩ := hge.clo_inv
 have hcal : callable P gf := ⟨fn,hf,hn,by simp [hb]⟩
 obtain ⟨rec,hrec⟩ : ∃ rec : Loop,rec = { state := .ready,pending := none,fn := fnid,tmps := a.tmps,params := ps,assign := asg,body := body,defers := w.heap.size } := ⟨_,rfl⟩
 refine ⟨w.heap.size + 1,[mark w.heap.size],(w.alloc (.deferred (some []))).alloc (.loop rec),{ target := .fn (.func gf) vs.toArray,args := #[.func (.yield (w.heap.size + 1)) #[] #[]] },(w.alloc (.deferred (some []))).alloc (.loop rec),gf,
  #[Value.func (.yield (w.heap.size + 1)) #[] #[]] ++ vs.toArray,(w.alloc (.deferred (some []))).alloc (.loop rec),by rw [hrec];exact run_enterLoop_outer _ _ _ _ _,?_,fun _ _ => trivial,?_,fun e => by simp [Fr,Fence.wide] at e,?_⟩
 ·simp only [resolve,hv]
  simp [go_sem]
 ·simp only [invoke]
  exact run_callFunc hcal _
 refine callsIn_of_wp hf hb trivial ?_
 have hbel : Below w.heap.size w (w.alloc (.deferred (some []))) := (Below.refl _ w).alloc (Nat.le_refl _) _
 have hD := hs.ext hbel
 have hsz : (w.alloc (.deferred (some []))).heap.size = w.heap.size + 1 := by simp
 have hT : Turn C γ s (w.alloc (.deferred (some []))) ((w.alloc (.deferred (some []))).alloc (.loop rec)) kL (some (w.alloc (.deferred (some []))).heap.size) := Turn.alloc _ kL
 have hle := hT.le hD (rndC ps asg body .ready none s.reg)
 have hfin : s.fin kL (rndC ps asg body .ready none s.reg) = s.setOwn kL (gn + 1) (some (rndC ps asg body .ready none s.reg)) := by rw [St.fin,hown]
 have hs1 := hT.sim (c := rndC ps asg body .ready none s.reg) hD ⟨(fun e => by cases e),(fun b' _ _ hk => by simp [rndC] at hk),fun b' hb' _ _ => by
  cases hb'
  show LoopAt _ _ _
  refine ⟨rec,s.reg,heap_alloc_at _ _,by rw [hrec];rfl,by rw [hrec];simpa [hs.size] using hasg,by rw [hrec];simpa [hs.size] using hbody,by rw [hrec];simpa [hs.size] using hpsN,fun t => ?_⟩
  rw [show rec.tmps = a.tmps by rw [hrec]];exact (hD.regs t).mono hle,(fun b' _ hz => by simp [rndC] at hz)⟩
 rw [hfin,hsz] at hs1
 rw [hfin,hsz] at hle
 have hDobj : ((w.alloc (.deferred (some []))).alloc (.loop rec)).heap[w.heap.size]? = some (.deferred (some [])) := by
  rw [Below.heap_alloc _ _ _ (by simp)]
  exact heap_alloc_at w _
 have hDok : okOf C (upg γ kL (some (w.heap.size + 1))) (s.setOwn kL (gn + 1) (some (rndC ps asg body .ready none s.reg))) ((w.alloc (.deferred (some []))).alloc (.loop rec)) w.heap.size := by
  refine ⟨by simp;omega,fun hx => ?_,fun k c hk hb' => ?_⟩
  ·have := hG.x _ hx;have := hs.top;omega
  ·by_cases hkk : k = kL
   ·subst hkk
    rw [upg_same] at hb'
    injection hb' with q;omega
   ·rw [setOwn_ne hkk] at hk
    rw [upg_ne hkk] at hb'
    have := (hs.base k c _ hk hb').2;omega
 let C1 : Ctx := ⟨C.B,C.X,C.w0,fn.ntmps,fun c v => C.keep c v ∨ (∃ t,c = s.reg t ∧ v = a.tmps.getD t undef) ∨ (c = .dfd ∧ v = .pointer (some ⟨w.heap.size,0,none⟩)) ∨ (c = .yl kL (gn + 1) ∧ v = .func (.yield (w.heap.size + 1)) #[] #[]),[]⟩
 have hG1 : Good P L C1 := ⟨hG.lay,hG.x,hG.mixed,hG.glob⟩
 have hyl : Rep (envOf C (upg γ kL (some (w.heap.size + 1))) (s.setOwn kL (gn + 1) (some (rndC ps asg body .ready none s.reg))) ((w.alloc (.deferred (some []))).alloc (.loop rec))) (.yl kL (gn + 1)) (.func (.yield (w.heap.size + 1)) #[] #[]) := by
  refine .yl (by simp [envOf,setOwn_same]) fun _ l hl => ?_
  simp only [envOf,setOwn_same,upg_same,Option.map_some,Option.some.injEq] at hl
  subst hl
  exact ⟨rfl,_,rfl,rfl⟩
 have hlen' : 1 + vs.length ≤ fn.ntmps := by rw [← hl];simpa using hlen
 have hargs : ∀ t,Rep (envOf C (upg γ kL (some (w.heap.size + 1))) (s.setOwn kL (gn + 1) (some (rndC ps asg body .ready none s.reg))) ((w.alloc (.deferred (some []))).alloc (.loop rec))) (((.yl kL (gn + 1)) :: caps).getD t (.raw undef))
   ((#[Value.func (.yield (w.heap.size + 1)) #[] #[]] ++ vs.toArray ++ Array.replicate (fn.ntmps - (#[Value.func (.yield (w.heap.size + 1)) #[] #[]] ++ vs.toArray).size) undef).getD t undef) := by
  intro t
  cases t with
  |zero =>
   have e2 : (#[Value.func (.yield (w.heap.size + 1)) #[] #[]] ++ vs.toArray ++ Array.replicate (fn.ntmps - (#[Value.func (.yield (w.heap.size + 1)) #[] #[]] ++ vs.toArray).size) undef).getD 0 undef = Value.func (.yield (w.heap.size + 1)) #[] #[] := by
    simp [Array.getElem?_append]
   rw [e2];exact hyl
  |succ t =>
   rcases Nat.lt_or_ge t vs.length with hlt | hge
   ·have hlt' : t < caps.length := by omega
    have e1 : ((PV.yl kL (gn + 1)) :: caps).getD (t + 1) (.raw undef) = caps[t] := by simp [hlt']
    have e2 : (#[Value.func (.yield (w.heap.size + 1)) #[] #[]] ++ vs.toArray ++ Array.replicate (fn.ntmps - (#[Value.func (.yield (w.heap.size + 1)) #[] #[]] ++ vs.toArray).size) undef).getD (t + 1) undef = vs[t] := by
     rw [Array.getD_eq_getD_getElem?,Array.getElem?_append_left (by simp;omega),Array.getElem?_append_right (by simp)]
     simp [hlt]
    rw [e1,e2]
    exact (hd t caps[t] vs[t] (List.getElem?_eq_getElem hlt') (List.getElem?_eq_getElem hlt)).mono ((envLe_ext hbel hs.base).trans' hle)
   ·have e1 : ((PV.yl kL (gn + 1)) :: caps).getD (t + 1) (.raw undef) = .raw undef := by simp [List.getElem?_eq_none (by omega : caps.length ≤ t)]
    have e2 : (#[Value.func (.yield (w.heap.size + 1)) #[] #[]] ++ vs.toArray ++ Array.replicate (fn.ntmps - (#[Value.func (.yield (w.heap.size + 1)) #[] #[]] ++ vs.toArray).size) undef).getD (t + 1) undef = undef := by
     rw [Array.getD_eq_getD_getElem?,Array.getElem?_append_right (by simp;omega)]
     rcases Nat.lt_or_ge (t + 1 - (#[Value.func (.yield (w.heap.size + 1)) #[] #[]] ++ vs.toArray).size) (fn.ntmps - (#[Value.func (.yield (w.heap.size + 1)) #[] #[]] ++ vs.toArray).size) with h1 | h1
     ·rw [Array.getElem?_replicate,if_pos h1];rfl
     ·rw [Array.getElem?_eq_none (by simpa using h1)];rfl
    rw [e1,e2]
    exact .d (.raw _)
 have hsim : SimE C1 { reg := fun t => ((.yl kL (gn + 1)) :: caps).getD t (.raw undef),own := (s.setOwn kL (gn + 1) (some (rndC ps asg body .ready none s.reg))).own }
   { tmps := #[Value.func (.yield (w.heap.size + 1)) #[] #[]] ++ vs.toArray ++ Array.replicate (fn.ntmps - (#[Value.func (.yield (w.heap.size + 1)) #[] #[]] ++ vs.toArray).size) undef,defers := [] } ((w.alloc (.deferred (some []))).alloc (.loop rec)) := by
  refine ⟨upg γ kL (some (w.heap.size + 1)),rfl,by simp [C1];omega,hargs,hs1.sites,hs1.inj,hs1.base,hs1.below,hs1.top,?_⟩
  rintro c v (hk | ⟨t,rfl,rfl⟩ | ⟨rfl,rfl⟩ | ⟨rfl,rfl⟩)
  ·exact hs1.kept c v hk
  ·exact hs1.regs t
  ·exact .dfd hDok hDobj
  ·exact hyl
 refine wpIn_mono (PWP.soundX (X := fun A B => A = B) (fun _ => rfl) (fun h k => h.trans k) (fun h => by subst h;exact .refl _) (r := false) (fun h => by cases h) bodyI _ C1 _ _ _ hG1 hc (fun _ hq => hq) hsim h) ?_
 have fin : ∀ {s' : St} {a' : Act} {w3 : World} (pend : Option Code) (st : LoopState),st ≠ .busy → SimE C1 s' a' w3 → s'.own kL = (gn + 1,some (rndC ps asg body st pend s.reg)) →
   ∃ w4,(Instr.endLoop (w.heap.size + 1)).run P w3 = .ok pend w4 ∧ ∃ C4,Ext C C4 ∧ SimE C4 { reg := s.reg,own := (s'.setOwn kL (gn + 1 + 1) none).own } { a with defers := [mark w.heap.size] ++ a.defers } w4 := by
  rintro s' a' w3 pend st hst ⟨γ',hs'⟩ hown'
  have hky := hs'.kept (.yl kL (gn + 1)) (.func (.yield (w.heap.size + 1)) #[] #[]) (.inr (.inr (.inr ⟨rfl,rfl⟩)))
  obtain ⟨b',hb',hvb⟩ := hs'.yl_at hky hown'
  have hbb : b' = w.heap.size + 1 := by injection hvb with q;injection q with q;exact q.symm
  subst hbb
  obtain ⟨rec3,q1,q2,q3,q4⟩ := hs'.turnLoop hown' hb'
  have hs4 := q4 .exhausted pend
  have hw4 : w3.putObj (w.heap.size + 1) (.loop { rec3 with state := .exhausted,pending := pend }) = w3.putObj (w.heap.size + 1) (.loop { rec3 with state := .exhausted }) := by
   have : ({ rec3 with state := .exhausted,pending := pend } : Loop) = { rec3 with state := .exhausted } := by rw [← q3]
   rw [this]
  rw [hw4] at hs4
  refine ⟨_,by rw [← q3];exact run_endLoop q1 (by rw [q2];exact hst),?_⟩
  obtain ⟨hs5,_,_⟩ := hs4.drop hG1.x (setOwn_same s' kL (gn + 1) _)
  have hoo : ((s'.setOwn kL (gn + 1) (some (rndC ps asg body .exhausted pend s.reg))).setOwn kL (gn + 1 + 1) none).own = (s'.setOwn kL (gn + 1 + 1) none).own := by
   funext r
   by_cases hr : r = kL
   ·subst hr;rw [setOwn_same,setOwn_same]
   ·rw [setOwn_ne hr,setOwn_ne hr,setOwn_ne hr]
  have key : ∀ ow,ow = (s'.setOwn kL (gn + 1 + 1) none).own → Sim C1 γ' { reg := s'.reg,own := ow } a' (w3.putObj (w.heap.size + 1) (.loop { rec3 with state := .exhausted })) →
    ∃ C4,Ext C C4 ∧ SimE C4 { reg := s.reg,own := (s'.setOwn kL (gn + 1 + 1) none).own } { a with defers := [mark w.heap.size] ++ a.defers } (w3.putObj (w.heap.size + 1) (.loop { rec3 with state := .exhausted })) := by
   rintro ow rfl hs6
   refine ⟨⟨C.B,C.X,C.w0,C.N,fun c v => C.keep c v ∨ (c = .dfd ∧ v = .pointer (some ⟨w.heap.size,0,none⟩)),w.heap.size :: C.dfs⟩,⟨rfl,rfl,rfl,rfl,fun c v hk => .inl hk,fun hdk => ⟨?_,?_⟩⟩,γ',?_,hs.size,fun r => hs6.kept _ _ (.inr (.inl ⟨r,rfl,rfl⟩)),hs6.sites,hs6.inj,hs6.base,hs6.below,hs6.top,?_⟩
   ·rw [List.nodup_cons]
    refine ⟨fun hm => ?_,hdk.1⟩
    have := hs.kept _ _ (hdk.2 _ hm).2
    cases this with
    |d hd => cases hd
    |dfd h1 _ => exact absurd h1.1 (Nat.lt_irrefl _)
   ·intro D hDm
    rcases List.mem_cons.1 hDm with rfl | hDm
    ·exact ⟨hs.top,.inr ⟨rfl,rfl⟩⟩
    ·exact ⟨(hdk.2 D hDm).1,.inl (hdk.2 D hDm).2⟩
   ·show [mark w.heap.size] ++ a.defers = _
    rw [hs.defers];rfl
   ·rintro c v (hk | ⟨rfl,rfl⟩)
    ·exact hs6.kept c v (.inl hk)
    ·exact hs6.kept _ _ (.inr (.inr (.inl ⟨rfl,rfl⟩)))
  exact key _ hoo hs5
 have ends : ∀ {s' : St} {a' : Act} {w3 : World},SimE C1 s' a' w3 → RangePost s kL (gn + 1) ps asg body Q .ret s' → a'.defers = [] ∧ ∃ v,(results fn a'.tmps).run P w3 = .ok v w3 ∧
   rangePost (Fr none) n P (w.heap.size + 1) (UpX Ext C Q) { a with defers := [mark w.heap.size] ++ a.defers } (.returned v) w3 := by
  intro s' a' w3 h' hq
  refine ⟨by obtain ⟨_,h'⟩ := h';exact h'.defers,.tuple #[],by simp [results,hres],?_⟩
  rcases hq with ⟨ho,hq⟩ | ⟨id,ho,hq⟩ | ⟨ho,hq⟩
  ·obtain ⟨w4,e1,C4,e2,e3⟩ := fin none .ready (by simp) h' ho
   exact ⟨none,w4,e1,C4,_,e2,e3,hq⟩
  ·obtain ⟨w4,e1,C4,e2,e3⟩ := fin (some (.exit id)) .done (by simp) h' ho
   exact ⟨some (.exit id),w4,e1,wpIn_exit ⟨C4,_,e2,e3,hq⟩⟩
  ·obtain ⟨w4,e1,C4,e2,e3⟩ := fin (some .ret) .done (by simp) h' ho
   exact ⟨some .ret,w4,e1,wpIn_ret ⟨C4,_,e2,e3,hq⟩⟩
 rintro e a' w3 ⟨C',s',rfl,h',hq⟩
 cases e
 case normal => exact ends h' hq
 case ret => exact ends h' hq
 all_goals exact hq.elim
end
end Go.Pv


set_option maxHeartbeats 2000000
namespace Go.Pv
attribute [local irreducible] PWP POps PQuiet PSem XThen XBlock RetPost InlPost
open Go.Proofs
def CR.s (c : CR) (k : Nat) : Rat := (c.S.getD k 0 : Int)
def CR.m (c : CR) (k : Nat) : Rat := (c.M.getD k RR.zero).val
def bfR (c : CR) : Nat → RR
 |0 => ofQ ((0 : Int) : Rat)
 |k + 1 => c.M.getD k RR.zero
theorem mR_v (c : CR) (hc : c.Lim) (k : Nat) : Vq (c.M.getD k RR.zero) (c.m k) 12 := by
 refine ⟨rfl,?_⟩
 rw [List.getD_eq_getElem?_getD]
 cases h : c.M[k]? with
 |none => exact ⟨Nat.zero_le _,Nat.zero_le _⟩
 |some x => exact hc.m x (List.mem_of_getElem? h)
theorem bfR_v (c : CR) (hc : c.Lim) (k : Nat) : Vq (bfR c k) (befQ c.m k) 12 := by
 cases k with
 |zero =>
  refine ⟨ofQ_val _,?_⟩
  have := (hq_sz (HQ.int (z := 0) (h := ⟨by decide⟩)).ok).ok
  show (ofQ ((0 : Int) : Rat)).n.l.length ≤ 12 ∧ (ofQ ((0 : Int) : Rat)).d.l.length ≤ 12
  exact ⟨by have := this.1;omega,by have := this.2;omega⟩
 |succ k => exact mR_v c hc k
theorem sI_zb {c : CR} (hc : c.Lim) (k : Nat) : i64 (c.S.getD k 0) := by
 rw [List.getD_eq_getElem?_getD]
 cases h : c.S[k]? with
 |none => exact ⟨by decide,by decide⟩
 |some x => exact hc.s x (List.mem_of_getElem? h)
def rpO (q0 q2 q3 g4 g7 b4 : Nat) (rec x2 x3 x1004 : Cont) (before sum : RR) : List (Nat × Nat × Cont) :=
 [(2000,q0,rec),(2002,q2,x2),(2003,q3,x3),(4,b4,⟨26,4,[eR before],2⟩),(1004,g4,x1004),(1007,g7,⟨26,4,[eR sum],2⟩)]
theorem gdrop {s : St} (k : Nat) : Ghost s (s.setOwn k ((s.own k).1 + 2) none) := Ghost.drop rfl
theorem inl_one {L : Lay} {fn : Func} {K : St → PV → Prop} {s : St} {t : Nat} {v : PV} (h : fn.results.toList = [.tmp t]) (h1 : s.reg t = v) (hk : K s v) : InlPost L fn K .ret s := by
 unfold InlPost
 refine ⟨[s.reg t],True ∧ True,by rw [h];rfl,⟨trivial,trivial⟩,?_⟩
 rw [h1];exact hk
theorem pw_norm {P : Program} {L : Lay} {x : Code} {Q : Exit → St → Prop} {s : St} (R : List (Nat × PV)) (O : List (Nat × Nat × Cont)) (hf : Fit s R O) (h : ∀ s1 : St,PWP P L x Q (s1.over R O)) : PWP P L x Q s := by
 have := h s
 rwa [Fit.over hf] at this
set_option maxRecDepth 20000 in
theorem ramps_walk {Q : Exit → St → Prop} {a b : Nat} {asg body : Code} {sc : St} (c : CR) (hc : c.Lim) (y : RR) {q : Rat} {n : Nat} (hy : Vq y q n) (hn : n ≤ 9000000) (hSM : c.M.length = c.S.length) (V : Nat → RR) {q0 q2 q3 g4 g7 : Nat} {x1004 : Cont} (s0 : St)
  (hown : Fit s0 [] [(2000,q0,rndC #[a,b] asg body .ready none sc.reg),(2002,q2,⟨120,2,[eC c],2⟩),(2003,q3,⟨26,4,[eR y],2⟩),(1004,g4,x1004),(1007,g7,⟨26,4,[eR (V 0)],2⟩)])
  (hround : ∀ i,i < c.S.length → ¬ q - c.s i < 0 → ∀ (b4 : Nat) (bf : RR) (own : Nat → Nat × Option Cont),Fit { reg := fun _ => .raw undef,own := own } [] (rpO q0 q2 q3 g4 g7 b4 (rndC #[a,b] asg body .ready none sc.reg) ⟨120,2,[eC c],2⟩ ⟨26,4,[eR y],2⟩ x1004 bf (V i)) →
   ∀ Post : Exit → St → Prop,(∀ s2,Fit s2 [] (rpO q0 q2 q3 g4 g7 b4 (rndC #[a,b] asg body .busy none sc.reg) ⟨120,2,[eC c],2⟩ ⟨26,4,[eR y],2⟩ x1004 bf (V (i + 1))) → Post .normal s2) →
   PWP Tryz.prog lay.get asg (XThen (fun s2 => s2.own 2000 = (q0,some (rndC #[a,b] asg body .ready none sc.reg)) ∧ PWP Tryz.prog lay.get body Post { reg := s2.reg,own := (s2.setOwn 2000 q0 (some (rndC #[a,b] asg body .busy none sc.reg))).own }) (fun _ _ => False))
    { reg := bindP [(a,.agg (eR (ofQ (c.m i - befQ c.m i)))),(b,.agg (eR (ofQ (q - c.s i))))] sc.reg,own := own })
  (hend : ∀ i,i ≤ c.S.length → (i = c.S.length ∨ (i < c.S.length ∧ q - c.s i < 0)) → ∀ (b4 : Nat) (bf : RR) (s2 : St),Fit s2 [] (rpO q0 q2 q3 g4 g7 b4 (rndC #[a,b] asg body .ready none sc.reg) ⟨120,2,[eC c],2⟩ ⟨26,4,[eR y],2⟩ x1004 bf (V i)) →
   Q .normal { reg := sc.reg,own := (s2.setOwn 2000 (q0 + 1) none).own }) :
  PWP Tryz.prog lay.get ((Tryz.f191.body).getD .skip) (RangePost sc 2000 q0 #[a,b] asg body Q) { reg := fun t => [PV.yl 2000 q0,.ptr 2002 q2 0 0,.ptr 2003 q3 0 0].getD t (.raw undef),own := s0.own } := by
 have hz := number_ret 0 (by decide) (by decide)
 have hSl : (c.S.map eN).length = c.S.length := by simp
 rw [← Fit.over (l := []) hown]
 generalize hrd : rndC #[a,b] asg body .ready none sc.reg = rd at *
 repeat refine stq rfl ?_
 refine qst rfl rfl (q_cs rfl hz rfl rfl) ?_
 repeat refine stq rfl ?_
 refine pw_loop (fun k : Nat × Nat × RR => k.1 ≤ c.S.length ∧ k.2.2 = bfR c k.1) (fun k => [(0,.yl 2000 q0),(1,.ptr 2002 q2 0 0),(2,.ptr 2003 q3 0 0),(4,.ptr 4 k.2.1 0 0),(10,.sl (c.S.map eN)),(11,I c.S.length),(12,I (k.1 : Nat))])
  (fun k => rpO q0 q2 q3 g4 g7 k.2.1 rd ⟨120,2,[eC c],2⟩ ⟨26,4,[eR y],2⟩ x1004 k.2.2 (V k.1)) (fun k => c.S.length - k.1) (0,_,bfR c 0) ⟨Nat.zero_le _,rfl⟩ ⟨rfl,rfl,rfl,rfl,rfl,by rw [← hSl];rfl,rfl,rfl,rfl,rfl,rfl,rfl,rfl,trivial⟩ ?_
 rintro ⟨i,b4,bf⟩ st ⟨hi,hbf⟩
 simp only at hi hbf
 subst hbf
 dsimp only
 repeat refine stq rfl ?_
 refine pw_cond rfl (fun h => ?_) (fun h => ?_)
 ·have hlt : i < c.S.length := by have := of_decide_eq_true h;omega
  clear h
  have hx := get_some (d := 0) hlt
  have hxb := sI_zb hc i
  have hnum := number_ret (c.S.getD i 0) hxb.1 hxb.2
  have hzb : Zb (c.S.getD i 0) := zb_i64 hxb.1 hxb.2
  have hsub := subR y (ofQ ((c.S.getD i 0 : Int) : Rat)) (hx := hy) (by omega) (by decide)
  have hfar : Vq (ofQ (q - ((c.S.getD i 0 : Int) : Rat))) (q - c.s i) (n + 1 + 4 + 1) := Vq.ofQ (h := @HQ.sub _ _ (n + 1) 4 hy.hq HQ.int)
  have hsg := signR (ofQ (q - ((c.S.getD i 0 : Int) : Rat))) (hx := hfar) (by omega)
  have hsl := sgn_lt (q - c.s i)
  have hw : IntKind.i64.wrap (((i : Nat) : Int) + 1) = ((i + 1 : Nat) : Int) := by
   have := c.S.length
   rw [wrap_i64 (by omega) (by have := hc.ls;omega)];omega
  repeat refine stq rfl ?_
  refine qst rfl rfl (q_idxm rfl rfl rfl rfl rfl (by omega) hx rfl) ?_
  (repeat ((fail_if_success (with_reducible refine pw_at 4 ?_));refine stx rfl ?_))
  refine pw_ghost (gdrop 7) ?_
  refine pw_draw2 4 1 [17,18,19,20,7] [] (by decide +kernel) rfl ?_
  repeat refine stq rfl ?_
  refine qst rfl rfl (q_cs rfl hnum rfl rfl) ?_
  repeat refine stq rfl ?_
  refine qst rfl rfl (q_cs rfl hsub rfl rfl) ?_
  repeat refine stq rfl ?_
  refine pw_drawI 13 [21,22,23,24,25,26,27,28,29,30,31,32,33] (by decide +kernel) ?_
  repeat refine stq rfl ?_
  refine qst rfl rfl (q_cp rfl hsg rfl rfl rfl) ?_
  repeat refine stq rfl ?_
  (first|refine ps_split rfl rfl ?_ ?_|refine pq_split rfl rfl ?_ ?_|refine p3_split rfl rfl ?_ ?_)<;>intro h
  ·have hneg : q - c.s i < 0 := hsl.1 (of_decide_eq_true h)
   clear h
   repeat refine stq rfl ?_
   refine psemi_ops ?_
   repeat refine stq rfl ?_
   refine .inl ⟨by rw [← hrd];rfl,?_⟩
   exact hend i (by omega) (.inr ⟨hlt,hneg⟩) b4 _ _ ⟨rfl,rfl,rfl,rfl,rfl,rfl,trivial⟩
  ·have hpos : ¬ q - c.s i < 0 := fun h2 => (of_decide_eq_false h) (hsl.2 h2)
   clear h
   have hmx := get_some (l := c.M) (i := i) (d := RR.zero) (by omega)
   have hmv := mR_v c hc i
   have hbv := bfR_v c hc i
   have hsub2 := subR (c.M.getD i RR.zero) (bfR c i) (hx := hmv) (hy := hbv) (by decide) (by decide)
   repeat refine stq rfl ?_
   refine qst rfl rfl (q_idxm rfl rfl rfl rfl rfl (by omega) hmx rfl) ?_
   repeat refine stq rfl ?_
   refine qst rfl rfl (q_cs rfl hsub2 rfl rfl) ?_
   repeat refine stq rfl ?_
   refine psemi_smY rfl rfl rfl (sm_yield (ps := #[a,b]) (asg := asg) (body := body) (regs := sc.reg) rfl rfl rfl (by rw [hrd];rfl) rfl ?_)
   rw [hrd]
   refine hround i hlt hpos b4 (bfR c i) _ (by exact ⟨rfl,rfl,rfl,rfl,rfl,rfl,trivial⟩) _ (fun s2 hf => ?_)
   rw [← Fit.over (l := []) hf]
   refine ⟨rfl,?_⟩
   refine psemi_ops ?_
   repeat refine stq rfl ?_
   refine qst rfl rfl (q_idxm rfl rfl rfl rfl rfl (by omega) hmx rfl) ?_
   repeat refine stq rfl ?_
   exact ⟨(i + 1,b4,bfR c (i + 1)),⟨by simp only;omega,rfl⟩,by simp only;omega,rfl,rfl,rfl,rfl,rfl,rfl,congrArg I hw,by rw [← hrd];rfl,rfl,rfl,rfl,rfl,rfl,trivial⟩
 ·have hie : i = c.S.length := by have := of_decide_eq_false h;omega
  clear h
  repeat refine stq rfl ?_
  refine .inl ⟨by rw [← hrd];rfl,?_⟩
  exact hend i (by omega) (.inl hie) b4 _ _ ⟨rfl,rfl,rfl,rfl,rfl,rfl,trivial⟩
end Go.Pv


set_option maxHeartbeats 2000000
namespace Go.Pv
attribute [local irreducible] PWP POps PQuiet PSem XThen XBlock RetPost InlPost
open Go.Proofs
def findR : Code → Option (Array Tmp × Code × Code)
 |.rangeFunc _ ps a b => some (ps,a,b)
 |.seq x y => match findR x with | some r => some r | none => findR y
 |.block _ c => findR c
 |.loop c => findR c
 |.cond _ x y => match findR x with | some r => some r | none => findR y
 |_ => none
theorem ms_hq {c : CR} (hc : c.Lim) (k : Nat) : HQ (c.m k - befQ c.m k) 27 := @HQ.sub _ _ 13 13 (mR_v c hc k).hq (bfR_v c hc k).hq
theorem qs_hq {c : CR} (hc : c.Lim) {q : Rat} {n : Nat} (h : HQ q n) (k : Nat) : HQ (q - c.s k) (n + 5) := by
 have hb := sI_zb hc k
 have hzb : Zb (c.S.getD k 0) := zb_i64 hb.1 hb.2
 exact @HQ.sub _ _ n 4 h HQ.int
theorem ramp_hq {c : CR} (hc : c.Lim) {q : Rat} {n : Nat} (h : HQ q n) (k : Nat) : HQ (rampQ c.s c.m q k) (n + 32) := by
 rw [rampQ]
 split
 ·exact HQ.zero.mono (by omega)
 ·exact (@HQ.mul _ _ 27 (n + 5) (ms_hq hc k) (qs_hq hc h k)).mono (by omega)
theorem ramp_rest {c : CR} (ha : ∀ k,k + 1 < c.S.length → c.s k < c.s (k + 1)) {f : Nat → Rat} {q : Rat} (hf : ∀ k,q - c.s k < 0 → f k = 0) {i : Nat} (hi : i ≤ c.S.length) (h : i = c.S.length ∨ (i < c.S.length ∧ q - c.s i < 0)) : sumN f i = sumN f c.S.length := by
 rcases h with h | ⟨h1,h2⟩
 ·rw [h]
 ·have key : ∀ m,i + m ≤ c.S.length → sumN f (i + m) = sumN f i ∧ (i + m < c.S.length → q - c.s (i + m) < 0) := by
   intro m
   induction m with
   |zero => intro _;exact ⟨rfl,fun _ => h2⟩
   |succ m ih =>
    intro hm
    obtain ⟨e1,e2⟩ := ih (by omega)
    have h3 := e2 (by omega)
    refine ⟨by rw [Nat.add_succ,sumN,e1,hf _ h3];grind,fun hl => ?_⟩
    have h4 := ha (i + m) (by omega)
    rw [show i + (m + 1) = i + m + 1 by omega]
    grind
  have := (key (c.S.length - i) (by omega)).1
  rw [show i + (c.S.length - i) = c.S.length by omega] at this
  exact this.symm
theorem curveF_ok {c : CR} : ∀ (k i : Nat),curveF c i k = 0 → ∀ j,i ≤ j → j < i + k → stepE c j = 0
 |0,i,_,j,h1,h2 => by omega
 |k + 1,i,h,j,h1,h2 => by
  rw [curveF] at h
  by_cases hs : stepE c i = 0
  ·rw [if_pos hs] at h
   by_cases hj : j = i
   ·subst hj;exact hs
   ·exact curveF_ok k (i + 1) h j (by omega) (by omega)
  ·rw [if_neg hs] at h;exact absurd h hs
theorem curve_ok {c : CR} (h : curveE c = 0) : c.S.length ≤ 40 ∧ c.M.length = c.S.length ∧ (∀ k,k < c.S.length → -10000000 ≤ c.S.getD k 0 ∧ c.S.getD k 0 ≤ 10000000 ∧ 0 ≤ c.m k) ∧ ∀ k,k + 1 < c.S.length → c.s k < c.s (k + 1) := by
 rw [curveE] at h
 split at h
 ·omega
 ·rename_i h1
  split at h
  ·omega
  ·rename_i h2
   have hs := curveF_ok _ _ h
   refine ⟨by omega,by omega,fun k hk => ?_,fun k hk => ?_⟩
   ·have := hs k (by omega) (by omega)
    rw [stepE] at this
    split at this
    ·omega
    ·rename_i h3
     refine ⟨by omega,by omega,?_⟩
     rw [CR.m]
     have : ¬ (c.M.getD k RR.zero).val < 0 := fun h => h3 (.inr (.inr h))
     grind
   ·have := hs (k + 1) (by omega) (by omega)
    rw [stepE] at this
    split at this
    ·omega
    ·split at this
     ·omega
     ·rename_i h4
      have h5 : c.S.getD k 0 < c.S.getD (k + 1) 0 := by
       rw [show k + 1 - 1 = k by omega] at h4
       omega
      rw [CR.s,CR.s]
      exact_mod_cast h5
theorem curve_crv {c : CR} (h : curveE c = 0) : Crv c.S.length c.s c.m := ⟨(curve_ok h).2.2.2,fun k hk => ((curve_ok h).2.2.1 k hk).2.2⟩
noncomputable def vlR : Array Tmp × Code × Code := (findR ((Tryz.f139.body).getD .skip)).getD (#[],.skip,.skip)
def rndGoal (P : Program) (sc : St) (q0 q2 q3 g4 g7 b4 : Nat) (pa pb : Nat) (asg body : Code) (x2 x3 x1004 : Cont) (bf V0 V1 CH FA : RR) : Prop :=
 ∀ own : Nat → Nat × Option Cont,Fit { reg := fun _ => .raw undef,own := own } [] (rpO q0 q2 q3 g4 g7 b4 (rndC #[pa,pb] asg body .ready none sc.reg) x2 x3 x1004 bf V0) →
  ∀ Post : Exit → St → Prop,(∀ s2,Fit s2 [] (rpO q0 q2 q3 g4 g7 b4 (rndC #[pa,pb] asg body .busy none sc.reg) x2 x3 x1004 bf V1) → Post .normal s2) →
  PWP P lay.get asg (XThen (fun s2 => s2.own 2000 = (q0,some (rndC #[pa,pb] asg body .ready none sc.reg)) ∧ PWP P lay.get body Post { reg := s2.reg,own := (s2.setOwn 2000 q0 (some (rndC #[pa,pb] asg body .busy none sc.reg))).own }) (fun _ _ => False))
   { reg := bindP [(pa,.agg (eR CH)),(pb,.agg (eR FA))] sc.reg,own := own }
set_option maxRecDepth 20000 in
theorem value_round {s0 : St} {q0 q2 q3 g4 g7 b4 : Nat} {x2 x3 x1004 : Cont} {bf V0 V1 CH FA PR : RR} (hmul : Ret Tryz.prog .shared 105 [.agg (eR CH),.agg (eR FA)] (.agg (eR PR))) (hadd : Ret Tryz.prog .shared 106 [.agg (eR V0),.agg (eR PR)] (.agg (eR V1))) :
  rndGoal Tryz.prog (s0.over [(7,.ptr 1007 g7 0 0)] []) q0 q2 q3 g4 g7 b4 20 21 vlR.2.1 vlR.2.2 x2 x3 x1004 bf V0 V1 CH FA := by
 intro own hf Post hPost
 have ho : own = (St.over { reg := fun _ => .raw undef,own := own } [] (rpO q0 q2 q3 g4 g7 b4 (rndC #[20,21] vlR.2.1 vlR.2.2 .ready none (s0.over [(7,.ptr 1007 g7 0 0)] []).reg) x2 x3 x1004 bf V0)).own := congrArg St.own (Fit.over hf).symm
 rw [ho]
 clear ho hf
 generalize (St.mk (fun _ => .raw undef) own) = s1
 repeat refine stq rfl ?_
 refine ⟨rfl,?_⟩
 repeat refine stq rfl ?_
 refine pw_draw 5 [22,23,24,25,26] (by decide +kernel) ?_
 repeat refine stq rfl ?_
 refine qst rfl rfl (q_cs rfl hmul rfl rfl) ?_
 repeat refine stq rfl ?_
 refine qst rfl rfl (q_cs rfl hadd rfl rfl) ?_
 repeat refine stq rfl ?_
 exact hPost _ ⟨rfl,rfl,rfl,rfl,rfl,rfl,trivial⟩
set_option maxRecDepth 20000 in
theorem value_ret (c : CR) (hc : c.Lim) (h0 : curveE c = 0) (y : RR) {q : Rat} {n : Nat} [hy : Vq y q n] (hn : n ≤ 100000) : Ret Tryz.prog .shared 139 [.agg (eC c),.agg (eR y)] (.tup [.agg (eR (ofQ (valQ c.S.length c.s c.m q))),I 0]) := by
 have hcc := checkCurve_ret c hc
 rw [h0] at hcc
 obtain ⟨h40,hSM,-,hasc⟩ := curve_ok h0
 have hz := number_ret 0 (by decide) (by decide)
 rw [show (((0 : Int) : Rat)) = 0 from rfl] at hz
 have hsum : ∀ i,i ≤ 40 → Vq (ofQ (sumN (rampQ c.s c.m q) i)) (sumN (rampQ c.s c.m q) i) (i * (n + 1 + 32 + 1) + 4) := fun i _ => Vq.ofQ (h := sumN_hq i fun k _ => ramp_hq hc hy.hq k)
 refine Ret.of_pwpR layOk mixed Go.Proofs.Tryz.func139 rfl (by decide) rfl rfl rfl ?_
 repeat refine stq rfl ?_
 refine qst rfl rfl (q_cp rfl hcc rfl rfl rfl) ?_
 repeat refine stq rfl ?_
 refine qst rfl rfl (q_cs rfl hz rfl rfl) ?_
 (repeat ((fail_if_success (with_reducible refine pw_at 5 ?_));refine stx rfl ?_))
 refine pw_ghost (Ghost.move (k := 2) (k' := 1002) (t := 2) rfl rfl rfl rfl) ?_
 refine pw_ghost (Ghost.move (k := 3) (k' := 1003) (t := 3) rfl rfl rfl rfl) ?_
 refine pw_ghost (Ghost.move (k := 4) (k' := 1004) (t := 4) rfl rfl rfl rfl) ?_
 refine pw_ghost (Ghost.move (k := 7) (k' := 1007) (t := 7) rfl rfl rfl rfl) ?_
 ((repeat ((fail_if_success (with_reducible refine pw_at 5 ?_));refine stx rfl ?_));refine pw_regionS 2 ?_)
 iterate 2 refine stq rfl ?_
 refine ps_nil ?_
 refine psem_sm rfl (sm_inline layOk rfl rfl Go.Proofs.Tryz.func162 rfl (by decide) rfl rfl ?_)
 (repeat ((fail_if_success (with_reducible refine pw_at 1 ?_));refine stx rfl ?_))
 refine pw_ghost (Ghost.move (k := 2) (k' := 2002) (t := 2) rfl rfl rfl rfl) ?_
 refine pw_ghost (Ghost.move (k := 3) (k' := 2003) (t := 3) rfl rfl rfl rfl) ?_
 repeat refine stq rfl ?_
 refine inl_one rfl rfl ?_
 refine psem_ops ?_
 repeat refine stq rfl ?_
 refine pw_norm [(7,.ptr 1007 1 0 0),(4,.ptr 1004 1 0 0),(19,.clo 191 [.ptr 2002 1 0 0,.ptr 2003 1 0 0])] [(2002,1,⟨120,2,[eC c],2⟩),(2003,1,⟨26,4,[eR y],2⟩),(1004,1,⟨26,4,[[.bool false,.nil,.bool false,.nil]],2⟩),(1007,1,⟨26,4,[eR (ofQ 0)],2⟩)] ⟨rfl,rfl,rfl,rfl,rfl,rfl,rfl,trivial⟩ ?_
 intro s3
 refine pw_range (range_inl (ps := #[20,21]) (asg := vlR.2.1) (body := vlR.2.2) 2000 rfl Go.Proofs.Tryz.func191 rfl rfl rfl rfl rfl rfl ?_)
 generalize hq0 : (s3.own 2000).1 + 1 = q0
 refine ramps_walk (q := q) (n := n) (q0 := q0) (q2 := 1) (q3 := 1) (g4 := 1) (g7 := 1) c hc y hy (by omega) hSM (fun i => ofQ (sumN (rampQ c.s c.m q) i)) _ ⟨by rw [← hq0];rfl,rfl,rfl,rfl,rfl,trivial⟩ ?_ ?_
 ·intro i hi hpos b4 bf
  have hmul := mulR (ofQ (c.m i - befQ c.m i)) (ofQ (q - c.s i)) (hx := Vq.ofQ (h := ms_hq hc i)) (hy := Vq.ofQ (h := qs_hq hc hy.hq i)) (by decide) (by omega)
  have hadd := addR (ofQ (sumN (rampQ c.s c.m q) i)) (ofQ ((c.m i - befQ c.m i) * (q - c.s i))) (hx := hsum i (by omega)) (hy := Vq.ofQ (h := @HQ.mul _ _ 27 (n + 1 + 5) (ms_hq hc i) (qs_hq hc hy.hq i))) (by have := Nat.mul_le_mul (show i ≤ 40 by omega) (show n + 1 + 32 + 1 ≤ 100034 by omega);omega) (by omega)
  rw [show sumN (rampQ c.s c.m q) i + (c.m i - befQ c.m i) * (q - c.s i) = sumN (rampQ c.s c.m q) (i + 1) by rw [sumN,rampQ,if_neg hpos]] at hadd
  exact value_round (s0 := s3.over [(4,.ptr 1004 1 0 0),(19,.clo 191 [.ptr 2002 1 0 0,.ptr 2003 1 0 0])] []) hmul hadd
 ·intro i hi hor b4 bf s2 hf
  have hres : sumN (rampQ c.s c.m q) i = valQ c.S.length c.s c.m q := ramp_rest hasc (fun k hk => by rw [rampQ,if_pos hk]) hi hor
  dsimp only at hf
  rw [hres] at hf
  rw [← Fit.over (l := []) hf]
  repeat refine stq rfl ?_
  exact endm rfl (by repeat' constructor) rfl (by repeat' constructor) rfl
end Go.Pv


namespace Go.Pv
namespace Bd
variable {b : Bd}
end Bd
end Go.Pv


namespace Go.Pv
namespace Bd
variable {b : Bd}
def lim (b : Bd) (i : Nat) : Prop := befQ (b.M i) (b.n i) = 0
def cap (b : Bd) (i : Nat) : Rat := capQ (b.n i) (b.S i) (b.M i)
end Bd
end Go.Pv


namespace Go.Pv
def InR (n : Nat) (S : Nat → Rat) (p : Nat) (y : Rat) : Prop := p ≤ n ∧ (∀ k,p = k + 1 → S k ≤ y) ∧ (p < n → y < S p)
section
variable {n : Nat} {S M : Nat → Rat} {y : Rat} {p : Nat}
theorem InR.c (h : InR n S p y) : InC n S p y := ⟨h.1,h.2.1,fun hp => by have := h.2.2 hp;grind⟩
theorem InR.some (h : Crv n S M) (y : Rat) : ∀ (m : Nat),m ≤ n → ∃ p,p ≤ m ∧ (∀ k,p = k + 1 → S k ≤ y) ∧ (p < m → y < S p)
 |0,_ => ⟨0,Nat.le_refl _,fun k hk => by omega,fun hk => by omega⟩
 |m + 1,hm => by
  by_cases hy : S m ≤ y
  ·exact ⟨m + 1,Nat.le_refl _,fun k hk => by have : k = m := by omega
                                             subst this;exact hy,fun hk => by omega⟩
  ·obtain ⟨p,h1,h2,h3⟩ := InR.some h y m (by omega)
   refine ⟨p,by omega,h2,fun _ => ?_⟩
   by_cases hp : p < m
   ·exact h3 hp
   ·have : p = m := by omega
    subst this;grind
theorem InR.get (h : Crv n S M) (y : Rat) : ∃ p,InR n S p y := InR.some h y n (Nat.le_refl _)
end
namespace Bd
variable {b : Bd}
theorem exclude (h : b.Ok) {z t A B : Rat} (hb : b.Bal z t) (hl : ∀ i,i < b.N → 0 < A + B * b.X i → b.lim i) : b.w * (A + B * b.A) ≤ sumN (fun i => if 0 < A + B * b.X i then b.cap i * (A + B * b.X i) else 0) b.N := by
 have h1 : b.w * (A + B * b.A) = sumN (fun i => b.f z t i * (A + B * b.X i)) b.N := by
  have h2 := sumN_add (f := fun i => b.f z t i * A) (g := fun i => b.f z t i * b.X i * B) (n := b.N)
  rw [sumN_mul (f := b.f z t),sumN_mul (f := fun i => b.f z t i * b.X i)] at h2
  have h3 : sumN (fun i => b.f z t i * (A + B * b.X i)) b.N = sumN (fun i => b.f z t i * A + b.f z t i * b.X i * B) b.N := sumN_congr fun i _ => by grind
  rw [h3,h2]
  have e1 : sumN (b.f z t) b.N = b.w := hb.1
  have e2 : sumN (fun i => b.f z t i * b.X i) b.N = b.w * b.A := hb.2
  rw [e1,e2];grind
 rw [h1]
 refine sumN_le fun i hi => ?_
 have hnn := f_nn h (z := z) (t := t) hi
 split
 ·rename_i hv
  have hc := h.crv i hi
  have hle : b.f z t i ≤ b.cap i := by
   obtain ⟨q,hq⟩ : ∃ q,b.y z t i ≤ q ∧ InC (b.n i) (b.S i) (b.n i) q := by
    cases hn : b.n i with
    |zero => exact ⟨b.y z t i,Rat.le_refl,⟨Nat.le_refl _,fun k hk => by omega,fun hk => by omega⟩⟩
    |succ k => exact ⟨b.y z t i + posQ (b.S i k - b.y z t i),by simp only [posQ];grind,⟨Nat.le_refl _,fun k' hk' => by
      obtain rfl : k = k' := by omega
      simp only [posQ];grind,fun hk => by omega⟩⟩
   have := val_mono hc hq.1
   rw [val_last hc hq.2 (hl i hi hv)] at this
   exact this
  have := Rat.mul_nonneg (show 0 ≤ b.cap i - b.f z t i by grind) (Rat.le_of_lt hv)
  grind
 ·rename_i hv
  have := Rat.mul_nonneg hnn (show 0 ≤ -(A + B * b.X i) by grind)
  grind
end Bd
end Go.Pv


namespace Go.Pv
namespace Bd
structure Sz (b : Bd) : Prop where
 N : b.N ≤ 10
 n : ∀ i,i < b.N → b.n i ≤ 5
 X : ∀ i,i < b.N → hq (b.X i) 4
 C : ∀ i,i < b.N → hq (b.C i) 4
 S : ∀ i,i < b.N → ∀ k,k < b.n i → hq (b.S i k) 4
 M : ∀ i,i < b.N → ∀ k,k < b.n i → hq (b.M i k) 4
 w : hq b.w 4
 A : hq b.A 4
variable {b : Bd}
theorem Sz.k (h : b.Sz) {p : Nat → Nat} (hp : ∀ i,i < b.N → p i ≤ b.n i) {i : Nat} (hi : i < b.N) : HQ (b.k p i) 4 := by
 rw [Bd.k]
 have h1 := hp i hi
 cases hpi : p i with
 |zero => rw [befQ];exact HQ.zero
 |succ m => exact ⟨h.M i hi m (by omega)⟩
theorem Sz.bef (h : b.Sz) {i : Nat} (hi : i < b.N) {k : Nat} (hk : k < b.n i) : HQ (befQ (b.M i) k) 4 := by
 cases k with
 |zero => rw [befQ];exact HQ.zero
 |succ m => exact ⟨h.M i hi m (by omega)⟩
theorem Sz.o (h : b.Sz) {p : Nat → Nat} (hp : ∀ i,i < b.N → p i ≤ b.n i) {i : Nat} (hi : i < b.N) : HQ (b.o p i) 74 := by
 rw [Bd.o,offQ]
 have h1 := hp i hi
 have h2 := h.n i hi
 refine (sumN_hq (m := 13) (p i) fun k hk => ?_).mono (by omega)
 have := h.bef hi (k := k) (by omega)
 have : HQ (b.M i k) 4 := ⟨h.M i hi k (by omega)⟩
 have : HQ (b.S i k) 4 := ⟨h.S i hi k (by omega)⟩
 show HQ ((b.M i k - befQ (b.M i) k) * b.S i k) 13
 exact inferInstanceAs (HQ ((b.M i k - befQ (b.M i) k) * b.S i k) (4 + 4 + 1 + 4))
theorem Sz.Kh (h : b.Sz) {p : Nat → Nat} (hp : ∀ i,i < b.N → p i ≤ b.n i) : HQ (b.Kh p) 54 := by
 have := h.N
 exact (sumN_hq (m := 4) b.N fun i hi => h.k hp hi).mono (by omega)
theorem Sz.Kc (h : b.Sz) {p : Nat → Nat} (hp : ∀ i,i < b.N → p i ≤ b.n i) : HQ (b.Kc p) 94 := by
 have := h.N
 refine (sumN_hq (m := 8) b.N fun i hi => ?_).mono (by omega)
 have := h.k hp hi
 have : HQ (b.X i) 4 := ⟨h.X i hi⟩
 exact inferInstanceAs (HQ (b.k p i * b.X i) (4 + 4))
theorem Sz.Kp (h : b.Sz) {p : Nat → Nat} (hp : ∀ i,i < b.N → p i ≤ b.n i) : HQ (b.Kp p) 134 := by
 have := h.N
 refine (sumN_hq (m := 12) b.N fun i hi => ?_).mono (by omega)
 have := h.k hp hi
 have : HQ (b.X i) 4 := ⟨h.X i hi⟩
 exact inferInstanceAs (HQ (b.k p i * b.X i * b.X i) (4 + 4 + 4))
theorem Sz.Fo (h : b.Sz) {p : Nat → Nat} (hp : ∀ i,i < b.N → p i ≤ b.n i) : HQ (b.Fo p) 844 := by
 have := h.N
 refine (sumN_hq (m := 83) b.N fun i hi => ?_).mono (by omega)
 have := h.k hp hi
 have := h.o hp hi
 have : HQ (b.C i) 4 := ⟨h.C i hi⟩
 exact inferInstanceAs (HQ (b.k p i * b.C i - b.o p i) (4 + 4 + 74 + 1))
theorem Sz.Go (h : b.Sz) {p : Nat → Nat} (hp : ∀ i,i < b.N → p i ≤ b.n i) : HQ (b.Go p) 884 := by
 have := h.N
 refine (sumN_hq (m := 87) b.N fun i hi => ?_).mono (by omega)
 have := h.k hp hi
 have := h.o hp hi
 have : HQ (b.C i) 4 := ⟨h.C i hi⟩
 have : HQ (b.X i) 4 := ⟨h.X i hi⟩
 exact inferInstanceAs (HQ ((b.k p i * b.C i - b.o p i) * b.X i) (4 + 4 + 74 + 1 + 4))
end Bd
end Go.Pv


namespace Go.Pv
def plI (S : Nat → Rat) (y : Rat) : Nat → Nat
 |0 => 0
 |m + 1 => if S m < y then m + 1 else plI S y m
def prI (S : Nat → Rat) (y : Rat) : Nat → Nat
 |0 => 0
 |m + 1 => if S m ≤ y then m + 1 else prI S y m
theorem plI_part {S : Nat → Rat} {y : Rat} : ∀ m,plI S y m ≤ m ∧ (∀ k,plI S y m = k + 1 → S k < y) ∧ (plI S y m < m → y ≤ S (plI S y m))
 |0 => ⟨Nat.le_refl _,fun k hk => by simp [plI] at hk,fun h => by simp [plI] at h⟩
 |m + 1 => by
  obtain ⟨h1,h2,h3⟩ := plI_part (S := S) (y := y) m
  rw [plI]
  split
  ·rename_i hy
   exact ⟨Nat.le_refl _,fun k hk => by have : k = m := by omega
                                       subst this;exact hy,fun h => by omega⟩
  ·rename_i hy
   refine ⟨by omega,h2,fun _ => ?_⟩
   by_cases hp : plI S y m < m
   ·exact h3 hp
   ·rw [show plI S y m = m by omega];grind
theorem prI_part {S : Nat → Rat} {y : Rat} : ∀ m,prI S y m ≤ m ∧ (∀ k,prI S y m = k + 1 → S k ≤ y) ∧ (prI S y m < m → y < S (prI S y m))
 |0 => ⟨Nat.le_refl _,fun k hk => by simp [prI] at hk,fun h => by simp [prI] at h⟩
 |m + 1 => by
  obtain ⟨h1,h2,h3⟩ := prI_part (S := S) (y := y) m
  rw [prI]
  split
  ·rename_i hy
   exact ⟨Nat.le_refl _,fun k hk => by have : k = m := by omega
                                       subst this;exact hy,fun h => by omega⟩
  ·rename_i hy
   refine ⟨by omega,h2,fun _ => ?_⟩
   by_cases hp : prI S y m < m
   ·exact h3 hp
   ·rw [show prI S y m = m by omega];grind
theorem plI_in {n : Nat} {S : Nat → Rat} {y : Rat} : InL n S (plI S y n) y := plI_part n
theorem prI_in {n : Nat} {S : Nat → Rat} {y : Rat} : InR n S (prI S y n) y := prI_part n
theorem InL.uniq {n : Nat} {S M : Nat → Rat} (h : Crv n S M) {p q : Nat} {y : Rat} (h1 : InL n S p y) (h2 : InL n S q y) : p = q := by
 have key : ∀ {p q : Nat},InL n S p y → InL n S q y → p < q → False := by
  intro p q h1 h2 hlt
  obtain ⟨k,rfl⟩ : ∃ k,q = k + 1 := ⟨q - 1,by omega⟩
  have g1 := h2.2.1 k rfl
  have g2 := h1.2.2 (by have := h2.1;omega)
  have := h.mono_st (i := p) (j := k) (by omega) (by have := h2.1;omega)
  grind
 rcases Nat.lt_trichotomy p q with g | g | g
 ·exact (key h1 h2 g).elim
 ·exact g
 ·exact (key h2 h1 g).elim
theorem InR.uniq {n : Nat} {S M : Nat → Rat} (h : Crv n S M) {p q : Nat} {y : Rat} (h1 : InR n S p y) (h2 : InR n S q y) : p = q := by
 have key : ∀ {p q : Nat},InR n S p y → InR n S q y → p < q → False := by
  intro p q h1 h2 hlt
  obtain ⟨k,rfl⟩ : ∃ k,q = k + 1 := ⟨q - 1,by omega⟩
  have g1 := h2.2.1 k rfl
  have g2 := h1.2.2 (by have := h2.1;omega)
  have := h.mono_st (i := p) (j := k) (by omega) (by have := h2.1;omega)
  grind
 rcases Nat.lt_trichotomy p q with g | g | g
 ·exact (key h1 h2 g).elim
 ·exact g
 ·exact (key h2 h1 g).elim
namespace Bd
def pL (b : Bd) (z t : Rat) (i : Nat) : Nat := plI (b.S i) (b.y z t i) (b.n i)
def pR (b : Bd) (z t : Rat) (i : Nat) : Nat := prI (b.S i) (b.y z t i) (b.n i)
def newt (kh kc kp fo mo : Rat) : Option (Rat × Rat) := if kh * kp - kc * kc = 0 then none else some ((kp * fo - kc * mo) / (kh * kp - kc * kc),(kh * mo - kc * fo) / (kh * kp - kc * kc))
def tryP (b : Bd) (z t : Rat) (p : Nat → Nat) : Option (Rat × Rat) := match newt (b.Kh p) (b.Kc p) (b.Kp p) (b.w - b.F z t) (-(b.e z t)) with
 |none => none
 |some d => if b.F (z + d.1) (t + d.2) = b.w ∧ b.G (z + d.1) (t + d.2) = b.w * b.A then some (z + d.1,t + d.2) else none
def guess (b : Bd) (z t : Rat) : Option (Rat × Rat) := match b.tryP z t (b.pR z t) with
 |some x => some x
 |none => b.tryP z t (b.pL z t)
noncomputable def sg (b : Bd) (t : Rat) : Rat := Classical.epsilon fun z => b.Least z t
noncomputable def E (b : Bd) (t : Rat) : Rat := b.e (b.sg t) t
open Classical in
noncomputable def dbl (b : Bd) (s : Rat) : Nat → Rat → Option Rat
 |0,_ => none
 |n + 1,w => if s * b.E (s * w) < 0 then dbl b s n (w + w) else some w
noncomputable def at1 (b : Bd) (t : Rat) : Option (Rat × Rat) := if b.E t = 0 then some (b.sg t,t) else b.guess (b.sg t) t
noncomputable def bis (b : Bd) : Nat → Rat → Rat → Option (Rat × Rat)
 |0,_,_ => none
 |n + 1,lo,hi => match b.at1 ((lo + hi) / 2) with
  |some x => some x
  |none => if b.E ((lo + hi) / 2) < 0 then bis b n ((lo + hi) / 2) hi else bis b n lo ((lo + hi) / 2)
noncomputable def fst3 (b : Bd) (lo hi : Rat) : Option (Rat × Rat) := match b.at1 0 with
 |some x => some x
 |none => match b.at1 lo with
  |some x => some x
  |none => b.at1 hi
variable {b : Bd}
theorem sg_least {t : Rat} (h : ∃ z,b.Least z t) : b.Least (b.sg t) t := Classical.epsilon_spec h
theorem sg_eq {z t : Rat} (h : b.Least z t) : b.sg t = z := Least.uniq (sg_least ⟨z,h⟩) h
noncomputable def eqQ (b : Bd) (n : Nat) : Option (Rat × Rat) := match b.dbl (-1) n 1,b.dbl 1 n 1 with
 |some wl,some wh => (match b.fst3 (-wl) wh with
  |some x => some x
  |none => b.bis n (-wl) wh)
 |_,_ => none
end Bd
end Go.Pv


namespace Go.Pv
def lsum : List (Rat × Rat) → Rat → Rat
 |[],_ => 0
 |x :: l,z => x.2 * posQ (z - x.1) + lsum l z
def csum : List (Rat × Rat) → Rat
 |[] => 0
 |x :: l => x.2 + csum l
theorem lsum_append (l m : List (Rat × Rat)) (z : Rat) : lsum (l ++ m) z = lsum l z + lsum m z := by
 induction l with
 |nil => rw [List.nil_append,lsum];grind
 |cons x l ih => rw [List.cons_append,lsum,lsum,ih];grind
theorem csum_append (l m : List (Rat × Rat)) : csum (l ++ m) = csum l + csum m := by
 induction l with
 |nil => rw [List.nil_append,csum];grind
 |cons x l ih => rw [List.cons_append,csum,csum,ih];grind
theorem lsum_perm {l m : List (Rat × Rat)} (h : l.Perm m) (z : Rat) : lsum l z = lsum m z := by
 induction h with
 |nil => rfl
 |cons x _ ih => rw [lsum,lsum,ih]
 |swap x y l => simp only [lsum];grind
 |trans _ _ h1 h2 => rw [h1,h2]
theorem lsum_ahead {l : List (Rat × Rat)} {z : Rat} (h : ∀ x ∈ l,z ≤ x.1) : lsum l z = 0 := by
 induction l with
 |nil => rfl
 |cons x l ih =>
  have h1 := h x (by simp)
  rw [lsum,ih fun y hy => h y (by simp [hy]),posQ,if_neg (by grind)];grind
theorem lsum_behind {l : List (Rat × Rat)} {a z : Rat} (h : ∀ x ∈ l,x.1 ≤ a) (hz : a ≤ z) : lsum l z = lsum l a + csum l * (z - a) := by
 induction l with
 |nil => simp only [lsum,csum];grind
 |cons x l ih =>
  have h1 := h x (by simp)
  have e1 : posQ (z - x.1) = z - x.1 := by rw [posQ];grind
  have e2 : posQ (a - x.1) = a - x.1 := by rw [posQ];grind
  simp only [lsum,csum]
  rw [ih fun y hy => h y (by simp [hy]),e1,e2];grind
def stl (w : Rat) : List (Rat × Rat) → Rat → Rat → Rat → Rat
 |[],c,k,a => if 0 < k then a + (w - c) / k else a
 |x :: l,c,k,a => if 0 < k then (if w ≤ c + k * (x.1 - a) then a + (w - c) / k else stl w l (c + k * (x.1 - a)) (k + x.2) x.1) else stl w l c (k + x.2) x.1
theorem reach {Φ : Rat → Rat} {w c k a : Rat} (hm : ∀ x y,x ≤ y → Φ x ≤ Φ y) (ha : Φ a = c) (hc : c < w) (hk : 0 < k) (hu : ∀ z,a ≤ z → z ≤ a + (w - c) / k → Φ z = c + k * (z - a)) : Φ (a + (w - c) / k) = w ∧ ∀ z',z' < a + (w - c) / k → Φ z' < w := by
 have hq : (w - c) / k * k = w - c := Rat.div_mul_cancel (by grind)
 have h0 : 0 ≤ (w - c) / k := by rw [Rat.div_def];exact Rat.mul_nonneg (by grind) (Rat.le_of_lt (Rat.inv_pos.2 hk))
 generalize (w - c) / k = d at *
 refine ⟨by rw [hu _ (by grind) Rat.le_refl];grind,fun z' hz => ?_⟩
 rcases Classical.em (a ≤ z') with h | h
 ·rw [hu z' h (by grind)]
  have := Rat.mul_pos hk (show 0 < a + d - z' by grind)
  grind
 ·have := hm z' a (by grind)
  grind
theorem stl_ok {w : Rat} {Φ : Rat → Rat} (hm : ∀ x y,x ≤ y → Φ x ≤ Φ y) (hw : 0 < w) (hex : ∃ z,w ≤ Φ z) : ∀ (R P : List (Rat × Rat)) (c k a : Rat),(∀ z,Φ z = lsum P z + lsum R z) → R.Pairwise (fun x y => x.1 ≤ y.1) →
  ((P = [] ∧ c = 0 ∧ k = 0) ∨ ((∀ x ∈ P,x.1 ≤ a) ∧ (∀ x ∈ R,a ≤ x.1) ∧ Φ a = c ∧ c < w ∧ k = csum P)) → Φ (stl w R c k a) = w ∧ ∀ z',z' < stl w R c k a → Φ z' < w := by
 intro R
 induction R with
 |nil =>
  intro P c k a hΦ _ h
  obtain ⟨z0,hz0⟩ := hex
  rcases h with ⟨rfl,rfl,rfl⟩ | ⟨h1,_,h3,h4,h5⟩
  ·exfalso
   rw [hΦ] at hz0
   simp only [lsum] at hz0
   grind
  ·have hline : ∀ z,a ≤ z → Φ z = c + k * (z - a) := fun z hz => by
    have e1 := hΦ z
    have e2 := hΦ a
    rw [lsum_behind h1 hz,← h5] at e1
    simp only [lsum] at e1 e2
    grind
   rw [stl]
   split
   ·rename_i hk
    exact reach hm h3 h4 hk fun z hz _ => hline z hz
   ·rename_i hk
    exfalso
    rcases Classical.em (a ≤ z0) with hz | hz
    ·rw [hline z0 hz] at hz0
     have := Rat.mul_nonneg (show 0 ≤ -k by grind) (show 0 ≤ z0 - a by grind)
     grind
    ·have := hm z0 a (by grind);grind
 |cons x R ih =>
  intro P c k a hΦ hs h
  rw [List.pairwise_cons] at hs
  have hΦ' : ∀ z,Φ z = lsum (P ++ [x]) z + lsum R z := fun z => by
   rw [hΦ,lsum_append];simp only [lsum];grind
  rcases h with ⟨rfl,rfl,rfl⟩ | ⟨h1,h2,h3,h4,h5⟩
  ·rw [stl,if_neg (by grind)]
   refine ih ([] ++ [x]) 0 (0 + x.2) x.1 hΦ' hs.2 (.inr ⟨fun y hy => by simp at hy;subst hy;exact Rat.le_refl,fun y hy => hs.1 y hy,?_,hw,by simp only [csum,List.nil_append];grind⟩)
   rw [hΦ,lsum_ahead (l := x :: R) fun y hy => ?_]
   ·simp only [lsum];grind
   ·rcases List.mem_cons.1 hy with rfl | hy
    ·exact Rat.le_refl
    ·exact hs.1 y hy
  ·have hax := h2 x (by simp)
   have hline : ∀ z,a ≤ z → z ≤ x.1 → Φ z = c + k * (z - a) := fun z hz hzx => by
    have e1 := hΦ z
    have e2 := hΦ a
    rw [lsum_behind h1 hz,← h5,lsum_ahead (l := x :: R) fun y hy => ?_] at e1
    ·rw [lsum_ahead (l := x :: R) fun y hy => h2 y hy] at e2
     grind
    ·rcases List.mem_cons.1 hy with rfl | hy
     ·exact hzx
     ·have := hs.1 y hy;grind
   have hx1 := hline x.1 hax Rat.le_refl
   have hP : ∀ y ∈ P ++ [x],y.1 ≤ x.1 := fun y hy => by
    rcases List.mem_append.1 hy with hy | hy
    ·have := h1 y hy;grind
    ·simp at hy;subst hy;exact Rat.le_refl
   have hcs : k + x.2 = csum (P ++ [x]) := by rw [csum_append,← h5];simp only [csum];grind
   rw [stl]
   split
   ·rename_i hk
    split
    ·rename_i hle
     refine reach hm h3 h4 hk fun z hz hz2 => hline z hz ?_
     have hq : (w - c) / k * k = w - c := Rat.div_mul_cancel (by grind)
     generalize (w - c) / k = d at *
     rcases Classical.em (z ≤ x.1) with hc | hc
     ·exact hc
     ·have := Rat.mul_pos hk (show 0 < a + d - x.1 by grind)
      grind
    ·rename_i hlt
     exact ih (P ++ [x]) _ _ _ hΦ' hs.2 (.inr ⟨hP,fun y hy => hs.1 y hy,hx1,by grind,hcs⟩)
   ·rename_i hk
    have h6 := hm a x.1 hax
    have h7 := Rat.mul_nonneg (show 0 ≤ -k by grind) (show 0 ≤ x.1 - a by grind)
    exact ih (P ++ [x]) _ _ _ hΦ' hs.2 (.inr ⟨hP,fun y hy => hs.1 y hy,by grind,h4,hcs⟩)
namespace Bd
variable {b : Bd}
def bnd1 (b : Bd) (t : Rat) (i : Nat) : List (Rat × Rat) := (List.range (b.n i)).map fun k => (b.S i k - (b.C i + t * b.X i),b.M i k - befQ (b.M i) k)
def bnds (b : Bd) (t : Rat) : List (Rat × Rat) := (List.range b.N).flatMap (b.bnd1 t)
theorem bnd1_sum (b : Bd) (z t : Rat) (i : Nat) : lsum (b.bnd1 t i) z = b.f z t i := by
 have key : ∀ m,lsum ((List.range m).map fun k => (b.S i k - (b.C i + t * b.X i),b.M i k - befQ (b.M i) k)) z = sumN (rampQ (b.S i) (b.M i) (b.y z t i)) m := by
  intro m
  induction m with
  |zero => rfl
  |succ m ih =>
   rw [List.range_succ,List.map_append,lsum_append,ih,sumN,ramp_step]
   simp only [List.map_cons,List.map_nil,lsum]
   rw [show z - (b.S i m - (b.C i + t * b.X i)) = b.y z t i - b.S i m by rw [y];grind];grind
 exact key (b.n i)
theorem bnds_sum (b : Bd) (z t : Rat) : lsum (b.bnds t) z = b.F z t := by
 have key : ∀ m,lsum ((List.range m).flatMap (b.bnd1 t)) z = sumN (b.f z t) m := by
  intro m
  induction m with
  |zero => rfl
  |succ m ih =>
   rw [List.range_succ,List.flatMap_append,lsum_append,ih,sumN]
   simp only [List.flatMap_cons,List.flatMap_nil,List.append_nil,bnd1_sum]
 exact key b.N
theorem settled_least (h : b.Ok) {t : Rat} (hex : ∃ z,b.w ≤ b.F z t) {l : List (Rat × Rat)} (hp : l.Perm (b.bnds t)) (hs : l.Pairwise fun x y => x.1 ≤ y.1) : b.Least (stl b.w l 0 0 0) t := by
 refine stl_ok (Φ := fun z => b.F z t) (fun x y hxy => F_mono h hxy) h.pos hex l [] 0 0 0 (fun z => ?_) hs (.inl ⟨rfl,rfl,rfl⟩)
 rw [lsum_perm hp,bnds_sum,lsum];grind
end Bd
end Go.Pv


namespace Go.Pv
def uQ (n : Nat) (S : Nat → Rat) (y : Rat) (k : Nat) : Rat := posQ (topQ S n y k - S k)
def pieceE (n : Nat) (S M : Nat → Rat) (y : Rat) (k : Nat) : Rat := M k * (uQ n S y k * (y - S k) - uQ n S y k * uQ n S y k / 2)
def enQ (n : Nat) (S M : Nat → Rat) (y : Rat) : Rat := sumN (pieceE n S M y) n
namespace Bd
variable {b : Bd}
def U (b : Bd) (z t : Rat) : Rat := sumN (fun i => enQ (b.n i) (b.S i) (b.M i) (b.y z t i)) b.N - b.w * (z + t * b.A)
end Bd
end Go.Pv


set_option maxHeartbeats 2000000
namespace Go.Pv
attribute [local irreducible] PWP POps PQuiet PSem XThen XBlock RetPost InlPost
open Go.Proofs
def slopT (S M : Nat → Rat) (y : Rat) (k : Nat) : Rat := if y - S k < 0 then 0 else M k - befQ M k
def slopQ (n : Nat) (S M : Nat → Rat) (y : Rat) : Rat := sumN (slopT S M y) n
theorem slop_hq {c : CR} (hc : c.Lim) (q : Rat) (k : Nat) : HQ (slopT c.s c.m q k) 27 := by
 rw [slopT]
 split
 ·exact HQ.zero.mono (by omega)
 ·exact ms_hq hc k
noncomputable def slR : Array Tmp × Code × Code := (findR ((Tryz.f174.body).getD .skip)).getD (#[],.skip,.skip)
set_option maxRecDepth 20000 in
theorem slope_round {s0 : St} {q0 q2 q3 g4 g7 b4 : Nat} {x2 x3 x1004 : Cont} {bf V0 V1 CH FA : RR} (hadd : Ret Tryz.prog .shared 106 [.agg (eR V0),.agg (eR CH)] (.agg (eR V1))) :
  rndGoal Tryz.prog (s0.over [(7,.ptr 1007 g7 0 0)] []) q0 q2 q3 g4 g7 b4 19 20 slR.2.1 slR.2.2 x2 x3 x1004 bf V0 V1 CH FA := by
 intro own hf Post hPost
 have ho : own = (St.over { reg := fun _ => .raw undef,own := own } [] (rpO q0 q2 q3 g4 g7 b4 (rndC #[19,20] slR.2.1 slR.2.2 .ready none (s0.over [(7,.ptr 1007 g7 0 0)] []).reg) x2 x3 x1004 bf V0)).own := congrArg St.own (Fit.over hf).symm
 rw [ho]
 clear ho hf
 generalize (St.mk (fun _ => .raw undef) own) = s1
 repeat refine stq rfl ?_
 refine ⟨rfl,?_⟩
 repeat refine stq rfl ?_
 refine qst rfl rfl (q_cs rfl hadd rfl rfl) ?_
 repeat refine stq rfl ?_
 exact hPost _ ⟨rfl,rfl,rfl,rfl,rfl,rfl,trivial⟩
set_option maxRecDepth 20000 in
theorem slope_ret (c : CR) (hc : c.Lim) (h0 : curveE c = 0) (y : RR) {q : Rat} {n : Nat} [hy : Vq y q n] (hn : n ≤ 100000) : Ret Tryz.prog .shared 174 [.agg (eC c),.agg (eR y)] (.tup [.agg (eR (ofQ (slopQ c.S.length c.s c.m q))),I 0]) := by
 have hcc := checkCurve_ret c hc
 rw [h0] at hcc
 obtain ⟨h40,hSM,-,hasc⟩ := curve_ok h0
 have hz := number_ret 0 (by decide) (by decide)
 rw [show (((0 : Int) : Rat)) = 0 from rfl] at hz
 have hsum : ∀ i,i ≤ 40 → Vq (ofQ (sumN (slopT c.s c.m q) i)) (sumN (slopT c.s c.m q) i) (i * (27 + 1) + 4) := fun i _ => Vq.ofQ (h := sumN_hq i fun k _ => slop_hq hc q k)
 refine Ret.of_pwpR layOk mixed Go.Proofs.Tryz.func174 rfl (by decide) rfl rfl rfl ?_
 repeat refine stq rfl ?_
 refine qst rfl rfl (q_cp rfl hcc rfl rfl rfl) ?_
 repeat refine stq rfl ?_
 refine qst rfl rfl (q_cs rfl hz rfl rfl) ?_
 (repeat ((fail_if_success (with_reducible refine pw_at 5 ?_));refine stx rfl ?_))
 refine pw_ghost (Ghost.move (k := 2) (k' := 1002) (t := 2) rfl rfl rfl rfl) ?_
 refine pw_ghost (Ghost.move (k := 3) (k' := 1003) (t := 3) rfl rfl rfl rfl) ?_
 refine pw_ghost (Ghost.move (k := 4) (k' := 1004) (t := 4) rfl rfl rfl rfl) ?_
 refine pw_ghost (Ghost.move (k := 7) (k' := 1007) (t := 7) rfl rfl rfl rfl) ?_
 ((repeat ((fail_if_success (with_reducible refine pw_at 5 ?_));refine stx rfl ?_));refine pw_regionS 2 ?_)
 iterate 2 refine stq rfl ?_
 refine ps_nil ?_
 refine psem_sm rfl (sm_inline layOk rfl rfl Go.Proofs.Tryz.func162 rfl (by decide) rfl rfl ?_)
 (repeat ((fail_if_success (with_reducible refine pw_at 1 ?_));refine stx rfl ?_))
 refine pw_ghost (Ghost.move (k := 2) (k' := 2002) (t := 2) rfl rfl rfl rfl) ?_
 refine pw_ghost (Ghost.move (k := 3) (k' := 2003) (t := 3) rfl rfl rfl rfl) ?_
 repeat refine stq rfl ?_
 refine inl_one rfl rfl ?_
 refine psem_ops ?_
 repeat refine stq rfl ?_
 refine pw_norm [(7,.ptr 1007 1 0 0),(4,.ptr 1004 1 0 0),(18,.clo 191 [.ptr 2002 1 0 0,.ptr 2003 1 0 0])] [(2002,1,⟨120,2,[eC c],2⟩),(2003,1,⟨26,4,[eR y],2⟩),(1004,1,⟨26,4,[[.bool false,.nil,.bool false,.nil]],2⟩),(1007,1,⟨26,4,[eR (ofQ 0)],2⟩)] ⟨rfl,rfl,rfl,rfl,rfl,rfl,rfl,trivial⟩ ?_
 intro s3
 refine pw_range (range_inl (ps := #[19,20]) (asg := slR.2.1) (body := slR.2.2) 2000 rfl Go.Proofs.Tryz.func191 rfl rfl rfl rfl rfl rfl ?_)
 generalize hq0 : (s3.own 2000).1 + 1 = q0
 refine ramps_walk (q := q) (n := n) (q0 := q0) (q2 := 1) (q3 := 1) (g4 := 1) (g7 := 1) c hc y hy (by omega) hSM (fun i => ofQ (sumN (slopT c.s c.m q) i)) _ ⟨by rw [← hq0];rfl,rfl,rfl,rfl,rfl,trivial⟩ ?_ ?_
 ·intro i hi hpos b4 bf
  have hadd := addR (ofQ (sumN (slopT c.s c.m q) i)) (ofQ (c.m i - befQ c.m i)) (hx := hsum i (by omega)) (hy := Vq.ofQ (h := ms_hq hc i)) (by omega) (by decide)
  rw [show sumN (slopT c.s c.m q) i + (c.m i - befQ c.m i) = sumN (slopT c.s c.m q) (i + 1) by rw [sumN,slopT,if_neg hpos]] at hadd
  exact slope_round (s0 := s3.over [(4,.ptr 1004 1 0 0),(18,.clo 191 [.ptr 2002 1 0 0,.ptr 2003 1 0 0])] []) hadd
 ·intro i hi hor b4 bf s2 hf
  have hres : sumN (slopT c.s c.m q) i = slopQ c.S.length c.s c.m q := ramp_rest hasc (fun k hk => by rw [slopT,if_pos hk]) hi hor
  dsimp only at hf
  rw [hres] at hf
  rw [← Fit.over (l := []) hf]
  repeat refine stq rfl ?_
  exact endm rfl (by repeat' constructor) rfl (by repeat' constructor) rfl
end Go.Pv


set_option maxHeartbeats 2000000
namespace Go.Pv
attribute [local irreducible] PWP POps PQuiet PSem XThen XBlock RetPost InlPost
open Go.Proofs
def Weak (a b : PV) : Prop := ∀ (w : World) (ok : Nat → Prop) (v : Value),DRep w ok a v → DRep w ok b v
theorem Weak.rfl (a : PV) : Weak a a := fun _ _ _ h => h
theorem Weak.nil : Weak .nil (.sl []) := fun w ok v h => by cases h;exact .sl0 none 0
inductive WeakL : List PV → List PV → Prop
 |nil : WeakL [] []
 |cons {a b : PV} {l m : List PV} : Weak a b → WeakL l m → WeakL (a :: l) (b :: m)
theorem WeakL.refl : ∀ l,WeakL l l
 |[] => .nil
 |a :: l => .cons (.rfl a) (WeakL.refl l)
theorem WeakL.spec {l m : List PV} (h : WeakL l m) : l.length = m.length ∧ ∀ (i : Nat) (b : PV),m[i]? = some b → ∃ a,l[i]? = some a ∧ Weak a b := by
 induction h with
 |nil => exact ⟨by rfl,fun i b hb => by simp at hb⟩
 |cons h1 _ ih =>
  refine ⟨by simp [ih.1],fun i b hb => ?_⟩
  cases i with
  |zero => simp at hb;subst hb;exact ⟨_,by rfl,h1⟩
  |succ i => simpa using ih.2 i b (by simpa using hb)
theorem WeakL.agg {l m : List PV} (h : WeakL l m) : Weak (.agg l) (.agg m) := fun w ok v hv => by
 cases hv with
 |agg _ vs hl hd =>
  refine .agg _ vs (by rw [← h.spec.1];exact hl) fun i c u hc hu => ?_
  obtain ⟨a,ha,hw⟩ := h.spec.2 i c hc
  exact hw _ _ _ (hd i a u ha hu)
theorem WeakL.tup {l m : List PV} (h : WeakL l m) : Weak (.tup l) (.tup m) := fun w ok v hv => by
 cases hv with
 |tup _ vs hl hd =>
  refine .tup _ vs (by rw [← h.spec.1];exact hl) fun i c u hc hu => ?_
  obtain ⟨a,ha,hw⟩ := h.spec.2 i c hc
  exact hw _ _ _ (hd i a u ha hu)
theorem Ret.weak {P : Program} {m : Mode} {f : FuncId} {pargs pargs' : List PV} {r r' : PV} (h : Ret P m f pargs r') (ha : WeakL pargs' pargs) (hr : Weak r' r) : Ret P m f pargs' r := by
 obtain ⟨hc,h⟩ := h
 refine ⟨hc,fun w X args hg hX hl hargs => ?_⟩
 refine (h w X args hg hX (by rw [← ha.spec.1];exact hl) fun i c v e1 e2 => ?_).mono ?_
 ·obtain ⟨a,e3,hw⟩ := ha.spec.2 i c e1
  exact hw _ _ _ (hargs i a v e3 e2)
 ·rintro e w' ⟨u,h1,h2,h3⟩
  exact ⟨u,h1,h2,hr _ _ _ h3⟩
def zN : List PV := [.bool false,.nil,.bool false,.nil]
theorem zN_weak : WeakL zN (eR RR.zero) := .cons (.rfl _) (.cons .nil (.cons (.rfl _) (.cons .nil .nil)))
end Go.Pv


set_option maxHeartbeats 2000000
namespace Go.Pv
attribute [local irreducible] PWP POps PQuiet PSem XThen XBlock RetPost InlPost
open Go.Proofs
theorem wholeF (z : Int) (h : i64 z) : Ret Tryz.prog .shared 95 [I z] (.agg (eR (ofQ (z : Rat)))) := by
 have ho := of_ret z h.1 h.2
 have hw := whole_ret (ofZ z) (by have := ofZ_len4 (z := z) (by obtain ⟨h1,h2⟩ := h;omega);omega)
 rw [ofZ_val] at hw
 generalize ofQ (z : Rat) = X at *
 generalize ofZ z = Z at *
 refine Ret.of_pwp layOk mixed Go.Proofs.Tryz.func95 rfl (by decide) rfl rfl ?_
 repeat refine stq rfl ?_
 refine qst rfl rfl (q_cs rfl ho rfl rfl) ?_
 repeat refine stq rfl ?_
 refine qst rfl rfl (q_cs rfl hw rfl rfl) ?_
 repeat refine stq rfl ?_
 exact endm rfl (by repeat' constructor) rfl (by repeat' constructor) rfl
theorem signF (x : RR) {p : Rat} {n : Nat} [hx : Vq x p n] (hn : n ≤ 8000000) : Ret Tryz.prog .shared 98 [.agg (eR x)] (I (sgn p)) := by
 have hc := cmpR x RR.zero hn (by decide)
 rw [Rat.sub_eq_add_neg,Rat.neg_zero,Rat.add_zero] at hc
 have hc2 := hc.weak (.cons (.rfl _) (.cons zN_weak.agg .nil)) (.rfl _)
 generalize sgn p = g at *
 refine Ret.of_pwp layOk mixed Go.Proofs.Tryz.func98 rfl (by decide) rfl rfl ?_
 repeat refine stq rfl ?_
 refine qst rfl rfl (q_cp rfl hc2 rfl rfl rfl) ?_
 repeat refine stq rfl ?_
 exact end1i rfl rfl rfl
theorem overF (x y : RR) {p q : Rat} {n m : Nat} [hx : Vq x p n] [hy : Vq y q m] (hn : n ≤ 20000000) (hm : m ≤ 20000000) (h0 : q ≠ 0) : Ret Tryz.prog .shared 99 [.agg (eR x),.agg (eR y)] (.agg (eR (ofQ (p / q)))) := by
 have hq := quoR_ret x y hn hm
 rw [if_neg h0] at hq
 generalize ofQ (p / q) = X at *
 refine Ret.of_pwp layOk mixed Go.Proofs.Tryz.func99 rfl (by decide) rfl rfl ?_
 repeat refine stq rfl ?_
 refine qst rfl rfl (q_cs rfl hq rfl rfl) ?_
 repeat refine stq rfl ?_
 exact endm rfl (by repeat' constructor) rfl (by repeat' constructor) rfl
theorem negF (x : RR) {p : Rat} {n : Nat} [hx : Vq x p n] (hn : n ≤ 10000000) : Ret Tryz.prog .shared 166 [.agg (eR x)] (.agg (eR (ofQ (-p)))) := by
 have hs := subR RR.zero x (by decide) hn
 rw [Rat.sub_eq_add_neg,Rat.zero_add] at hs
 have hs2 := hs.weak (.cons zN_weak.agg (.cons (.rfl _) .nil)) (.rfl _)
 generalize ofQ (-p) = X at *
 refine Ret.of_pwp layOk mixed Go.Proofs.Tryz.func166 rfl (by decide) rfl rfl ?_
 repeat refine stq rfl ?_
 refine qst rfl rfl (q_cs rfl hs2 rfl rfl) ?_
 repeat refine stq rfl ?_
 exact endm rfl (by repeat' constructor) rfl (by repeat' constructor) rfl
theorem lowF (x : RR) {p : Rat} {n : Nat} [hx : Vq x p n] (hn : n ≤ 10000000) : Ret Tryz.prog .shared 171 [.agg (eR x)] (.agg (eR (ofQ p))) := by
 have hs := addR x RR.zero (by omega) (by decide)
 rw [Rat.add_zero] at hs
 have hs2 := hs.weak (.cons (.rfl _) (.cons zN_weak.agg .nil)) (.rfl _)
 generalize ofQ p = X at *
 refine Ret.of_pwp layOk mixed Go.Proofs.Tryz.func171 rfl (by decide) rfl rfl ?_
 repeat refine stq rfl ?_
 refine qst rfl rfl (q_cs rfl hs2 rfl rfl) ?_
 repeat refine stq rfl ?_
 exact endm rfl (by repeat' constructor) rfl (by repeat' constructor) rfl
structure SR.Lim (s : SR) : Prop where
 x : i64 s.x
 c : s.c.sz 12
 k : s.k.Lim
def yQ (s : SR) (z t : Rat) : Rat := s.c.val + (z + t * (s.x : Rat))
theorem yQ_hq {s : SR} (hs : s.Lim) {z t : Rat} {n m : Nat} (hz : HQ z n) (ht : HQ t m) : HQ (yQ s z t) (13 + (n + (m + 4) + 1) + 1) := by
 have hx : Zb s.x := zb_i64 hs.x.1 hs.x.2
 exact @HQ.add _ _ 13 (n + (m + 4) + 1) hs.c.v.hq (@HQ.add _ _ n (m + 4) hz (@HQ.mul _ _ m 4 ht HQ.int))
structure AR where
 z : RR
 t : RR
def eA (a : AR) : List PV := eR a.z ++ eR a.t
class Va (a : AR) (z t : outParam Rat) (n m : outParam Nat) : Prop where
 z : Vq a.z z n
 t : Vq a.t t m
theorem compr_ret (s : SR) (hs : s.Lim) (a : AR) {z t : Rat} {n m : Nat} [ha : Va a z t n m] (hn : n ≤ 1000000) (hm : m ≤ 1000000) : Ret Tryz.prog .shared 85 [.agg (eS s),.agg (eA a)] (.agg (eR (ofQ (yQ s z t)))) := by
 have hx : Zb s.x := zb_i64 hs.x.1 hs.x.2
 have hzh := ha.z.hq
 have hth := ha.t.hq
 have hw := wholeF s.x hs.x
 have h1 := mulR a.t (ofQ (s.x : Rat)) (hx := ha.t) (by omega) (by decide)
 have v1 : Vq (ofQ (t * (s.x : Rat))) (t * (s.x : Rat)) (m + 1 + 4) := Vq.ofQ (h := @HQ.mul _ _ (m + 1) 4 hth HQ.int)
 have h2 := addR a.z (ofQ (t * (s.x : Rat))) (hx := ha.z) (hy := v1) (by omega) (by omega)
 have v2 : Vq (ofQ (z + t * (s.x : Rat))) (z + t * (s.x : Rat)) (n + 1 + (m + 1 + 4) + 1) := Vq.ofQ (h := @HQ.add _ _ (n + 1) (m + 1 + 4) hzh (@HQ.mul _ _ (m + 1) 4 hth HQ.int))
 have h3 := addR s.c (ofQ (z + t * (s.x : Rat))) (hx := hs.c.v) (hy := v2) (by decide) (by omega)
 rw [yQ]
 obtain ⟨x,c,k⟩ := s
 obtain ⟨az,at'⟩ := a
 simp only at *
 generalize ofQ (c.val + (z + t * (x : Rat))) = X3 at *
 generalize ofQ (z + t * (x : Rat)) = X2 at *
 generalize ofQ (t * (x : Rat)) = X1 at *
 generalize ofQ (x : Rat) = X0 at *
 refine Ret.of_pwp layOk mixed Go.Proofs.Tryz.func85 rfl (by decide) rfl rfl ?_
 repeat refine stq rfl ?_
 refine pw_draw 12 [5,6,7,8,9,10,11,12,13,14,15,16] (by decide +kernel) ?_
 repeat refine stq rfl ?_
 refine qst rfl rfl (q_cs rfl hw rfl rfl) ?_
 repeat refine stq rfl ?_
 refine qst rfl rfl (q_cs rfl h1 rfl rfl) ?_
 repeat refine stq rfl ?_
 refine qst rfl rfl (q_cs rfl h2 rfl rfl) ?_
 repeat refine stq rfl ?_
 refine qst rfl rfl (q_cs rfl h3 rfl rfl) ?_
 repeat refine stq rfl ?_
 exact endm rfl (by repeat' constructor) rfl (by repeat' constructor) rfl
def fQ (s : SR) (z t : Rat) : Rat := valQ s.k.S.length s.k.s s.k.m (yQ s z t)
theorem force_ret (s : SR) (hs : s.Lim) (hk : curveE s.k = 0) (a : AR) {z t : Rat} {n m : Nat} [ha : Va a z t n m] (hn : n + m ≤ 90000) : Ret Tryz.prog .shared 83 [.agg (eS s),.agg (eA a)] (.agg (eR (ofQ (fQ s z t)))) := by
 have h1 := compr_ret s hs a (by omega) (by omega)
 have v1 : Vq (ofQ (yQ s z t)) (yQ s z t) (13 + (n + 1 + (m + 1 + 4) + 1) + 1) := Vq.ofQ (h := yQ_hq hs ha.z.hq ha.t.hq)
 have h2 := value_ret s.k hs.k hk (ofQ (yQ s z t)) (hy := v1) (by omega)
 rw [fQ]
 generalize ofQ (valQ s.k.S.length s.k.s s.k.m (yQ s z t)) = X2 at *
 generalize ofQ (yQ s z t) = X1 at *
 obtain ⟨x,c,k⟩ := s
 obtain ⟨az,at'⟩ := a
 simp only at *
 refine Ret.of_pwp layOk mixed Go.Proofs.Tryz.func83 rfl (by decide) rfl rfl ?_
 repeat refine stq rfl ?_
 refine pw_draw3 [5] [9,10] (by decide +kernel) ?_
 repeat refine stq rfl ?_
 refine qst rfl rfl (q_cs rfl h1 rfl rfl) ?_
 repeat refine stq rfl ?_
 refine qst rfl rfl (q_cs rfl h2 rfl rfl) ?_
 repeat refine stq rfl ?_
 exact endm rfl (by repeat' constructor) rfl (by repeat' constructor) rfl
end Go.Pv


set_option maxHeartbeats 2000000
namespace Go.Pv
attribute [local irreducible] PWP POps PQuiet PSem XThen XBlock RetPost InlPost
open Go.Proofs
theorem far_ret (x : Int) : Ret Tryz.prog .shared 76 [I x] (.bool (decide (x < -1000000 ∨ 1000000 < x))) := by
 by_cases h1 : x < -1000000
 ·rw [decide_eq_true (.inl h1)]
  refine Ret.of_pwp layOk mixed Go.Proofs.Tryz.func76 rfl (by decide) rfl rfl ?_
  repeat refine stq rfl ?_
  (first|refine ps_split rfl rfl ?_ ?_|refine pq_split rfl rfl ?_ ?_|refine p3_split rfl rfl ?_ ?_)<;>intro h
  ·repeat refine stq rfl ?_
   exact end1b rfl rfl rfl
  ·exact absurd h1 (of_decide_eq_false h)
 ·rw [show decide (x < -1000000 ∨ 1000000 < x) = decide (1000000 < x) by rw [decide_eq_decide];omega]
  refine Ret.of_pwp layOk mixed Go.Proofs.Tryz.func76 rfl (by decide) rfl rfl ?_
  repeat refine stq rfl ?_
  (first|refine ps_split rfl rfl ?_ ?_|refine pq_split rfl rfl ?_ ?_|refine p3_split rfl rfl ?_ ?_)<;>intro h
  ·exact absurd (of_decide_eq_true h) h1
  ·repeat refine stq rfl ?_
   exact end1b rfl rfl rfl
theorem beyond_ret (x : RR) {p : Rat} {m : Nat} [hx : Vq x p m] (hm : m ≤ 1000000) (n : Int) (h0 : 0 ≤ n) (h1 : n ≤ 1000000000) : Ret Tryz.prog .shared 77 [.agg (eR x),I n] (.bool (decide (p < -(n : Rat) ∨ (n : Rat) < p))) := by
 have hw1 := wholeF (-n) ⟨by omega,by omega⟩
 have hw2 := wholeF n ⟨by omega,by omega⟩
 have z1 : Zb (-n) := zb_i64 (by omega) (by omega)
 have z2 : Zb n := zb_i64 (by omega) (by omega)
 have hc1 := cmpR x (ofQ ((-n : Int) : Rat)) (by omega) (by decide)
 have hc2 := cmpR x (ofQ (n : Rat)) (by omega) (by decide)
 have hn : IntKind.i64.wrap (0 - n) = -n := by rw [wrap_i64 (by omega) (by omega)];omega
 have e1 := sgn_lt (p - ((-n : Int) : Rat))
 have e2 := sgn_gt (p - (n : Rat))
 have en : (((-n : Int)) : Rat) = -(n : Rat) := by push_cast;rfl
 have key : decide (p < -(n : Rat) ∨ (n : Rat) < p) = (decide (sgn (p - ((-n : Int) : Rat)) < 0) || decide (0 < sgn (p - (n : Rat)))) := by
  rw [← Bool.decide_or,decide_eq_decide,e1,e2,en]
  constructor
  ·rintro (h | h)
   ·left;grind
   ·right;grind
  ·rintro (h | h)
   ·left;grind
   ·right;grind
 rw [key]
 generalize sgn (p - ((-n : Int) : Rat)) = g1 at *
 generalize sgn (p - (n : Rat)) = g2 at *
 generalize ofQ ((-n : Int) : Rat) = W1 at *
 generalize ofQ (n : Rat) = W2 at *
 refine Ret.of_pwp layOk mixed Go.Proofs.Tryz.func77 rfl (by decide) rfl rfl ?_
 repeat refine stq rfl ?_
 refine pw_draw 14 [5,6,7,8,9,10,11,12,13,14,15,16,17,4] (by decide +kernel) ?_
 repeat refine stq rfl ?_
 rw [hn]
 refine qst rfl rfl (q_cs rfl hw1 rfl rfl) ?_
 repeat refine stq rfl ?_
 refine qst rfl rfl (q_cp rfl hc1 rfl rfl rfl) ?_
 repeat refine stq rfl ?_
 (first|refine ps_split rfl rfl ?_ ?_|refine pq_split rfl rfl ?_ ?_|refine p3_split rfl rfl ?_ ?_)<;>intro h
 ·rw [h]
  clear h
  repeat refine stq rfl ?_
  exact end1b rfl rfl rfl
 ·rw [h]
  clear h
  repeat refine stq rfl ?_
  refine qst rfl rfl (q_cs rfl hw2 rfl rfl) ?_
  repeat refine stq rfl ?_
  refine qst rfl rfl (q_cp rfl hc2 rfl rfl rfl) ?_
  repeat refine stq rfl ?_
  exact end1b rfl rfl rfl
def firstE {α : Type} (f : α → Int) : List α → Int
 |[] => 0
 |s :: r => if f s = 0 then firstE f r else f s
theorem firstE_drop {α : Type} (f : α → Int) {l : List α} {i : Nat} {s : α} (h : l[i]? = some s) : firstE f (l.drop i) = if f s = 0 then firstE f (l.drop (i + 1)) else f s := by
 obtain ⟨hl,rfl⟩ := List.getElem?_eq_some_iff.1 h
 rw [List.drop_eq_getElem_cons hl,firstE]
theorem firstE_all {α : Type} {f : α → Int} : ∀ {l : List α},firstE f l = 0 → ∀ s ∈ l,f s = 0
 |[],_,s,hs => by cases hs
 |a :: l,h,s,hs => by
  rw [firstE] at h
  by_cases ha : f a = 0
  ·rw [if_pos ha] at h
   rcases List.mem_cons.1 hs with rfl | hs
   ·exact ha
   ·exact firstE_all h s hs
  ·rw [if_neg ha] at h;exact absurd h ha
def supE (s : SR) : Int := if (s.x < -1000000 ∨ 1000000 < s.x) ∨ (s.c.val < -((10000000 : Int) : Rat) ∨ ((10000000 : Int) : Rat) < s.c.val) then 2 else curveE s.k
def checkL (l : List SR) : Int := if 100 < l.length then 8 else firstE supE l
def LimL (l : List SR) : Prop := (∀ s ∈ l,s.Lim) ∧ l.length ≤ 1000000000
set_option maxRecDepth 20000 in
theorem check_ret (l : List SR) (hl : LimL l) : Ret Tryz.prog .shared 18 [.sl (l.map eS)] (I (checkL l)) := by
 have hml : (l.map eS).length = l.length := by simp
 generalize hE : checkL l = E
 rw [checkL] at hE
 obtain ⟨hs,hll⟩ := hl
 refine Ret.of_pwp layOk mixed Go.Proofs.Tryz.func18 rfl (by decide) rfl rfl ?_
 repeat refine stq rfl ?_
 refine pw_cond rfl (fun h => ?_) (fun h => ?_)
 ·have h1 := of_decide_eq_true h
  rw [if_pos (by omega)] at hE
  subst hE
  repeat refine stq rfl ?_
  exact end1i rfl rfl rfl
 have h1 : ¬ 100 < l.length := by have h1 := of_decide_eq_false h;omega
 clear h
 rw [if_neg h1] at hE
 repeat refine stq rfl ?_
 refine pw_loop (fun i : Nat => i ≤ l.length ∧ firstE supE (l.drop i) = E) (fun i => [(9,.sl (l.map eS)),(10,I l.length),(11,I (i : Nat))]) (fun _ => []) (fun i => l.length - i) 0 ⟨Nat.zero_le _,by rw [List.drop_zero];exact hE⟩ ⟨rfl,by rw [← hml];rfl,rfl,trivial⟩ ?_
 intro i s ⟨hi,hF⟩
 repeat refine stq rfl ?_
 refine pw_cond rfl (fun h => ?_) (fun h => ?_)
 ·have hlt : i < l.length := by have := of_decide_eq_true h;omega
  clear h
  obtain ⟨x,hx⟩ := get_lt hlt
  have hx' := hs x (List.mem_of_getElem? hx)
  rw [firstE_drop _ hx] at hF
  have hfa := far_ret x.x
  have hbe := beyond_ret x.c (hx := hx'.c.v) (by decide) 10000000 (by decide) (by decide)
  have hcc := checkCurve_ret x.k hx'.k
  have hw : IntKind.i64.wrap (((i : Nat) : Int) + 1) = ((i + 1 : Nat) : Int) := by rw [wrap_i64 (by omega) (by omega)];omega
  have hse : supE x = supE x := rfl
  conv at hse => rhs;rw [supE]
  generalize supE x = se at *
  generalize curveE x.k = ce at *
  by_cases hq1 : x.x < -1000000 ∨ 1000000 < x.x
  ·rw [decide_eq_true hq1] at hfa
   rw [if_pos (.inl hq1)] at hse
   subst hse
   rw [if_neg (by decide)] at hF
   subst hF
   repeat refine stq rfl ?_
   refine qst rfl rfl (q_idxm rfl rfl rfl rfl rfl (by omega) hx rfl) ?_
   repeat refine stq rfl ?_
   refine qst rfl rfl (q_cp rfl hfa rfl rfl rfl) ?_
   repeat refine stq rfl ?_
   exact end1i rfl rfl rfl
  rw [decide_eq_false hq1] at hfa
  by_cases hq2 : x.c.val < -((10000000 : Int) : Rat) ∨ ((10000000 : Int) : Rat) < x.c.val
  ·rw [decide_eq_true hq2] at hbe
   rw [if_pos (.inr hq2)] at hse
   subst hse
   rw [if_neg (by decide)] at hF
   subst hF
   repeat refine stq rfl ?_
   refine qst rfl rfl (q_idxm rfl rfl rfl rfl rfl (by omega) hx rfl) ?_
   repeat refine stq rfl ?_
   refine qst rfl rfl (q_cp rfl hfa rfl rfl rfl) ?_
   repeat refine stq rfl ?_
   refine qst rfl rfl (q_cp rfl hbe rfl rfl rfl) ?_
   repeat refine stq rfl ?_
   exact end1i rfl rfl rfl
  rw [decide_eq_false hq2] at hbe
  rw [if_neg (fun h => h.elim hq1 hq2)] at hse
  subst hse
  repeat refine stq rfl ?_
  refine qst rfl rfl (q_idxm rfl rfl rfl rfl rfl (by omega) hx rfl) ?_
  repeat refine stq rfl ?_
  refine qst rfl rfl (q_cp rfl hfa rfl rfl rfl) ?_
  repeat refine stq rfl ?_
  refine qst rfl rfl (q_cp rfl hbe rfl rfl rfl) ?_
  repeat refine stq rfl ?_
  refine qst rfl rfl (q_cp rfl hcc rfl rfl rfl) ?_
  repeat refine stq rfl ?_
  refine pw_cond rfl (fun h => ?_) (fun h => ?_)
  ·have h2 : se ≠ 0 := by simpa using h
   clear h
   rw [if_neg h2] at hF
   subst hF
   repeat refine stq rfl ?_
   exact end1i rfl rfl rfl
  ·have h2 : se = 0 := by simpa using h
   clear h
   rw [if_pos h2] at hF
   repeat refine stq rfl ?_
   exact ⟨i + 1,⟨by omega,hF⟩,by omega,rfl,rfl,congrArg I hw,trivial⟩
 ·have hie : i = l.length := by have := of_decide_eq_false h;omega
  clear h
  rw [hie,List.drop_length,firstE] at hF
  subst hF
  repeat refine stq rfl ?_
  exact end1i rfl rfl rfl
end Go.Pv


set_option maxHeartbeats 2000000
namespace Go.Pv
attribute [local irreducible] PWP POps PQuiet PSem XThen XBlock RetPost InlPost
open Go.Proofs
theorem take_snoc {α : Type} {l : List α} {k : Nat} {x : α} (hx : l[k]? = some x) : l.take (k + 1) = l.take k ++ [x] := by
 rw [List.take_add_one,hx];rfl
structure BR.Lim (b : BR) : Prop where
 w : i64 b.w
 a : b.a.sz 12
 l : LimL b.l
def bodyE (b : BR) : Int := if (b.w < 1 ∨ 1000000000 < b.w) ∨ (b.a.val < -((1000000 : Int) : Rat) ∨ ((1000000 : Int) : Rat) < b.a.val) then 2 else checkL b.l
theorem checkBody_ret (b : BR) (hb : b.Lim) : Ret Tryz.prog .shared 20 [.agg (eB b)] (I (bodyE b)) := by
 have hbe := beyond_ret b.a (hx := hb.a.v) (by decide) 1000000 (by decide) (by decide)
 have hc := check_ret b.l hb.l
 generalize hE : bodyE b = E
 rw [bodyE] at hE
 obtain ⟨w,a,l⟩ := b
 simp only at *
 generalize checkL l = ce at *
 by_cases h1 : w < 1
 ·rw [if_pos (.inl (.inl h1))] at hE
  subst hE
  refine Ret.of_pwp layOk mixed Go.Proofs.Tryz.func20 rfl (by decide) rfl rfl ?_
  repeat refine stq rfl ?_
  (first|refine ps_split rfl rfl ?_ ?_|refine pq_split rfl rfl ?_ ?_|refine p3_split rfl rfl ?_ ?_)<;>intro h
  ·repeat refine stq rfl ?_
   exact end1i rfl rfl rfl
  ·exact absurd h1 (of_decide_eq_false h)
 by_cases h2 : 1000000000 < w
 ·rw [if_pos (.inl (.inr h2))] at hE
  subst hE
  refine Ret.of_pwp layOk mixed Go.Proofs.Tryz.func20 rfl (by decide) rfl rfl ?_
  repeat refine stq rfl ?_
  (first|refine ps_split rfl rfl ?_ ?_|refine pq_split rfl rfl ?_ ?_|refine p3_split rfl rfl ?_ ?_)<;>intro h
  ·repeat refine stq rfl ?_
   exact end1i rfl rfl rfl
  ·clear h
   repeat refine stq rfl ?_
   (first|refine ps_split rfl rfl ?_ ?_|refine pq_split rfl rfl ?_ ?_|refine p3_split rfl rfl ?_ ?_)<;>intro h
   ·repeat refine stq rfl ?_
    exact end1i rfl rfl rfl
   ·exact absurd h2 (of_decide_eq_false h)
 by_cases h3 : a.val < -((1000000 : Int) : Rat) ∨ ((1000000 : Int) : Rat) < a.val
 ·rw [decide_eq_true h3] at hbe
  rw [if_pos (.inr h3)] at hE
  subst hE
  refine Ret.of_pwp layOk mixed Go.Proofs.Tryz.func20 rfl (by decide) rfl rfl ?_
  repeat refine stq rfl ?_
  (first|refine ps_split rfl rfl ?_ ?_|refine pq_split rfl rfl ?_ ?_|refine p3_split rfl rfl ?_ ?_)<;>intro h
  ·repeat refine stq rfl ?_
   exact end1i rfl rfl rfl
  ·clear h
   repeat refine stq rfl ?_
   (first|refine ps_split rfl rfl ?_ ?_|refine pq_split rfl rfl ?_ ?_|refine p3_split rfl rfl ?_ ?_)<;>intro h
   ·repeat refine stq rfl ?_
    exact end1i rfl rfl rfl
   ·clear h
    repeat refine stq rfl ?_
    refine qst rfl rfl (q_cp rfl hbe rfl rfl rfl) ?_
    repeat refine stq rfl ?_
    exact end1i rfl rfl rfl
 ·rw [decide_eq_false h3] at hbe
  rw [if_neg (fun h => h.elim (fun h => h.elim h1 h2) h3)] at hE
  subst hE
  refine Ret.of_pwp layOk mixed Go.Proofs.Tryz.func20 rfl (by decide) rfl rfl ?_
  repeat refine stq rfl ?_
  (first|refine ps_split rfl rfl ?_ ?_|refine pq_split rfl rfl ?_ ?_|refine p3_split rfl rfl ?_ ?_)<;>intro h
  ·exact absurd (of_decide_eq_true h) h1
  ·clear h
   repeat refine stq rfl ?_
   (first|refine ps_split rfl rfl ?_ ?_|refine pq_split rfl rfl ?_ ?_|refine p3_split rfl rfl ?_ ?_)<;>intro h
   ·exact absurd (of_decide_eq_true h) h2
   ·clear h
    repeat refine stq rfl ?_
    refine qst rfl rfl (q_cp rfl hbe rfl rfl rfl) ?_
    repeat refine stq rfl ?_
    refine qst rfl rfl (q_cp rfl hc rfl rfl rfl) ?_
    repeat refine stq rfl ?_
    exact end1i rfl rfl rfl
set_option maxRecDepth 20000 in
theorem collected_ret (l : List SR) (hl : LimL l) (hc : checkL l = 0) (f : FuncId) (caps : List PV) (hcaps : ∃ c,caps = [.dref c 0]) (g : SR → RR) (hg : ∀ s ∈ l,Ret Tryz.prog .shared f [.agg (eS s),caps.headD .nil] (.agg (eR (g s)))) :
  Ret Tryz.prog .shared 81 [.sl (l.map eS),.clo f caps] (.tup [.sl ((l.map g).map eR),I 0]) := by
 have hck := check_ret l hl
 rw [hc] at hck
 have hml : (l.map eS).length = l.length := by simp
 obtain ⟨cc,rfl⟩ := hcaps
 simp only [List.headD_cons] at hg
 refine Ret.of_pwp layOk mixed Go.Proofs.Tryz.func81 rfl (by decide) rfl rfl ?_
 repeat refine stq rfl ?_
 refine qst rfl rfl (q_cp rfl hck rfl rfl rfl) ?_
 repeat refine stq rfl ?_
 refine pw_ghost (Ghost.nilreg (k := 7) (t := 7) 26 4 1 rfl rfl) ?_
 have hrows : ∀ (k : Nat) x,l[k]? = some x → ((l.take (k + 1)).map g).map eR = ((l.take k).map g).map eR ++ [eR (g x)] := fun k x hx => by rw [take_snoc hx,List.map_append,List.map_append];rfl
 refine pw_loop (fun k => k ≤ l.length) (fun k => [(1,.clo f [.dref cc 0]),(7,.als 7 (k + 1) 0 (((l.take k).map g).map eR).length),(15,.sl (l.map eS)),(16,I l.length),(17,I k)]) (fun k => [(7,k + 1,⟨26,4,((l.take k).map g).map eR,1⟩)]) (fun k => l.length - k) 0 (Nat.zero_le _) ⟨rfl,rfl,rfl,by rw [← hml];rfl,rfl,rfl,trivial⟩ ?_
 intro k s hk
 repeat refine stq rfl ?_
 refine pw_cond rfl (fun h => ?_) (fun h => ?_)
 ·have hlt : k < l.length := by have := of_decide_eq_true h;omega
  clear h
  obtain ⟨x,hx⟩ := get_lt hlt
  have hgx := hg x (List.mem_of_getElem? hx)
  have hw : IntKind.i64.wrap (((k : Nat) : Int) + 1) = ((k + 1 : Nat) : Int) := by have := hl.2;rw [wrap_i64 (by omega) (by omega)];omega
  have hll := hl.2
  repeat refine stq rfl ?_
  refine qst rfl rfl (q_idxm rfl rfl rfl rfl rfl (by omega) hx rfl) ?_
  repeat refine stq rfl ?_
  refine qst rfl rfl (q_cs rfl hgx rfl rfl) ?_
  repeat refine stq rfl ?_
  refine ps_run (o_slit 1 rfl rfl rfl rfl rfl rfl rfl rfl rfl rfl rfl (by repeat' constructor) rfl ?_)
  repeat refine stq rfl ?_
  refine ps_run (o_app 1 rfl rfl rfl rfl rfl rfl rfl rfl rfl rfl rfl (by repeat' constructor) (by intro row hr;first | (simp at hr;subst hr;rfl) | simp at hr) rfl rfl (by simp;omega) (by simp;omega) ?_)
  repeat refine stq rfl ?_
  refine ⟨k + 1,hlt,by omega,rfl,?_,rfl,rfl,congrArg I hw,?_,trivial⟩
  ·rw [hrows k x hx];rfl
  ·rw [hrows k x hx];rfl
 ·have hge : k = l.length := by have := of_decide_eq_false h;omega
  clear h
  repeat refine stq rfl ?_
  exact endm rfl (by repeat' constructor) rfl (by repeat' constructor) (by rw [hge,List.take_length];rfl)
end Go.Pv


set_option maxHeartbeats 2000000
namespace Go.Pv
attribute [local irreducible] PWP POps PQuiet PSem XThen XBlock RetPost InlPost
open Go.Proofs
theorem forces1_ret (s : SR) (hs : s.Lim) (hk : curveE s.k = 0) (a : AR) {z t : Rat} {n m : Nat} [ha : Va a z t n m] (hn : n + m ≤ 90000) : Ret Tryz.prog .shared 82 [.agg (eS s),.dref (eA a) 0] (.agg (eR (ofQ (fQ s z t)))) := by
 have h1 := force_ret s hs hk a hn
 generalize ofQ (fQ s z t) = X at *
 obtain ⟨x,c,k⟩ := s
 obtain ⟨az,at'⟩ := a
 try simp only at *
 refine Ret.of_pwp layOk mixed Go.Proofs.Tryz.func82 rfl (by decide) rfl rfl ?_
 repeat refine stq rfl ?_
 refine qst rfl rfl (q_cs rfl h1 rfl rfl) ?_
 repeat refine stq rfl ?_
 exact endm rfl (by repeat' constructor) rfl (by repeat' constructor) rfl
theorem checkL_curve {l : List SR} (h : checkL l = 0) : ∀ s ∈ l,curveE s.k = 0 := by
 intro s hs
 rw [checkL] at h
 split at h
 ·omega
 ·have := firstE_all h s hs
  rw [supE] at this
  split at this
  ·omega
  ·exact this
def FL (l : List SR) (z t : Rat) : List RR := l.map fun s => ofQ (fQ s z t)
theorem forces_ret (l : List SR) (hl : LimL l) (hc : checkL l = 0) (a : AR) {z t : Rat} {n m : Nat} [ha : Va a z t n m] (hn : n + m ≤ 90000) : Ret Tryz.prog .shared 23 [.sl (l.map eS),.agg (eA a)] (.tup [.sl ((FL l z t).map eR),I 0]) := by
 have h1 := collected_ret l hl hc 82 [.dref (eA a) 0] ⟨_,rfl⟩ (fun s => ofQ (fQ s z t)) fun s hs => forces1_ret s (hl.1 s hs) (checkL_curve hc s hs) a hn
 rw [← FL] at h1
 generalize FL l z t = X at *
 obtain ⟨az,at'⟩ := a
 refine Ret.of_pwp layOk mixed Go.Proofs.Tryz.func23 rfl (by decide) rfl rfl ?_
 (repeat ((fail_if_success (with_reducible refine pw_at 1 ?_));refine stx rfl ?_))
 refine pw_ghost (Ghost.data (k := 3) (t := 3) rfl rfl rfl rfl) ?_
 repeat refine stq rfl ?_
 refine qst rfl rfl (q_cs rfl h1 rfl rfl) ?_
 repeat refine stq rfl ?_
 exact endm rfl (by repeat' constructor) rfl (by repeat' constructor) rfl
def FewL (l : List SR) : Prop := l.length ≤ 12 ∧ ∀ s ∈ l,s.k.S.length ≤ 8
theorem fQ_hq {s : SR} (hs : s.Lim) (h8 : s.k.S.length ≤ 8) {z t : Rat} {n m : Nat} (hz : HQ z n) (ht : HQ t m) : HQ (fQ s z t) (8 * (n + m + 60) + 4) := by
 rw [fQ,valQ]
 exact (sumN_hq s.k.S.length fun k _ => ramp_hq hs.k (yQ_hq hs hz ht) k).mono (by have := Nat.mul_le_mul h8 (show 13 + (n + (m + 4) + 1) + 1 + 32 + 1 ≤ n + m + 60 by omega);omega)
def dS : SR := ⟨0,RR.zero,⟨[],[]⟩⟩
def bd (b : BR) : Bd := { N := b.l.length,X := fun i => ((b.l.getD i dS).x : Rat),C := fun i => (b.l.getD i dS).c.val,n := fun i => (b.l.getD i dS).k.S.length,S := fun i => (b.l.getD i dS).k.s,M := fun i => (b.l.getD i dS).k.m,w := b.w,A := b.a.val }
def fI (l : List SR) (z t : Rat) (i : Nat) : Rat := fQ (l.getD i dS) z t
def gI (l : List SR) (z t : Rat) (i : Nat) : Rat := fQ (l.getD i dS) z t * ((l.getD i dS).x : Rat)
theorem getD_mem {l : List SR} {i : Nat} (h : i < l.length) : l.getD i dS ∈ l := List.mem_of_getElem? (get_some h)
set_option maxRecDepth 20000 in
theorem total_ret (l : List SR) (hl : LimL l) (hf : FewL l) {z t : Rat} {n m : Nat} (hz : HQ z n) (ht : HQ t m) (hn : n + m ≤ 100000) : Ret Tryz.prog .shared 130 [.sl (l.map eS),.sl ((FL l z t).map eR)] (.agg (eR (ofQ (sumN (fI l z t) l.length)) ++ eR (ofQ (sumN (gI l z t) l.length)))) := by
 have hw0 := wholeF 0 ⟨by decide,by decide⟩
 rw [show (((0 : Int) : Rat)) = 0 from rfl] at hw0
 have hml : (l.map eS).length = l.length := by simp
 have hFl : ((FL l z t).map eR).length = l.length := by simp [FL]
 have hFH : ∀ i,i < l.length → HQ (fI l z t i) (8 * (n + m + 60) + 4) := fun i hi => fQ_hq (hl.1 _ (getD_mem hi)) (hf.2 _ (getD_mem hi)) hz ht
 have hGH : ∀ i,i < l.length → HQ (gI l z t i) (8 * (n + m + 60) + 4 + 4) := fun i hi => by
  have hx := (hl.1 _ (getD_mem hi)).x
  have hx : Zb (l.getD i dS).x := zb_i64 hx.1 hx.2
  exact @HQ.mul _ _ _ 4 (hFH i hi) HQ.int
 have hB : ∀ i,i ≤ l.length → i * (8 * (n + m + 60) + 4 + 4 + 1) + 4 ≤ 12000000 := fun i hi => by
  have := hf.1
  have := Nat.mul_le_mul (show i ≤ 12 by omega) (show 8 * (n + m + 60) + 4 + 4 + 1 ≤ 800489 by omega)
  omega
 refine Ret.of_pwp layOk mixed Go.Proofs.Tryz.func130 rfl (by decide) rfl rfl ?_
 repeat refine stq rfl ?_
 refine qst rfl rfl (q_cs rfl hw0 rfl rfl) ?_
 repeat refine stq rfl ?_
 refine qst rfl rfl (q_cs rfl hw0 rfl rfl) ?_
 repeat refine stq rfl ?_
 refine pw_loop (fun i : Nat => i ≤ l.length) (fun i => [(1,.sl ((FL l z t).map eR)),(4,.ptr 4 1 0 0),(5,.ptr 5 1 0 0),(11,.sl (l.map eS)),(12,I l.length),(13,I (i : Nat))])
  (fun i => [(4,1,⟨90,8,[zN ++ zN],2⟩),(5,1,⟨90,8,[eR (ofQ (sumN (fI l z t) i)) ++ eR (ofQ (sumN (gI l z t) i))],2⟩)]) (fun i => l.length - i) 0 (Nat.zero_le _) ⟨rfl,rfl,rfl,rfl,by rw [← hml];rfl,rfl,rfl,rfl,trivial⟩ ?_
 intro i s hi
 repeat refine stq rfl ?_
 refine pw_cond rfl (fun h => ?_) (fun h => ?_)
 ·have hlt : i < l.length := by have := of_decide_eq_true h;omega
  clear h
  have hx := get_some (d := dS) hlt
  have hFi : (FL l z t)[i]? = some (ofQ (fI l z t i)) := by rw [FL,List.getElem?_map,hx];rfl
  have hxx := (hl.1 _ (getD_mem hlt)).x
  have hzb : Zb (l.getD i dS).x := zb_i64 hxx.1 hxx.2
  have hw : IntKind.i64.wrap (((i : Nat) : Int) + 1) = ((i + 1 : Nat) : Int) := by have := hf.1;rw [wrap_i64 (by omega) (by omega)];omega
  have hBi := hB i hi
  have v0 : Vq (ofQ (fI l z t i)) (fI l z t i) (8 * (n + m + 60) + 4) := Vq.ofQ (h := hFH i hlt)
  have vg : Vq (ofQ (gI l z t i)) (gI l z t i) (8 * (n + m + 60) + 4 + 4) := Vq.ofQ (h := hGH i hlt)
  have v1 : Vq (ofQ (sumN (fI l z t) i)) (sumN (fI l z t) i) (i * (8 * (n + m + 60) + 4 + 1) + 4) := Vq.ofQ (h := sumN_hq i fun k hk => hFH k (by omega))
  have v2 : Vq (ofQ (sumN (gI l z t) i)) (sumN (gI l z t) i) (i * (8 * (n + m + 60) + 4 + 4 + 1) + 4) := Vq.ofQ (h := sumN_hq i fun k hk => hGH k (by omega))
  have h1 := addR (ofQ (sumN (fI l z t) i)) (ofQ (fI l z t i)) (hx := v1) (hy := v0) (by have := Nat.mul_le_mul (Nat.le_refl i) (show 8 * (n + m + 60) + 4 + 1 ≤ 8 * (n + m + 60) + 4 + 4 + 1 by omega);omega) (by omega)
  have h2 := wholeF (l.getD i dS).x hxx
  have h3 := mulR (ofQ (fI l z t i)) (ofQ ((l.getD i dS).x : Rat)) (hx := v0) (by omega) (by decide)
  have h4 := addR (ofQ (sumN (gI l z t) i)) (ofQ (gI l z t i)) (hx := v2) (hy := vg) (by omega) (by omega)
  rw [show sumN (fI l z t) i + fI l z t i = sumN (fI l z t) (i + 1) from rfl] at h1
  rw [show sumN (gI l z t) i + gI l z t i = sumN (gI l z t) (i + 1) from rfl] at h4
  rw [show fI l z t i * ((l.getD i dS).x : Rat) = gI l z t i from rfl] at h3
  generalize hF1 : ofQ (sumN (fI l z t) (i + 1)) = F1 at *
  generalize hG1 : ofQ (sumN (gI l z t) (i + 1)) = G1 at *
  generalize ofQ (sumN (fI l z t) i) = F0 at *
  generalize ofQ (sumN (gI l z t) i) = G0 at *
  repeat refine stq rfl ?_
  refine qst rfl rfl (q_idxm rfl rfl rfl rfl rfl (by omega) hx rfl) ?_
  repeat refine stq rfl ?_
  refine pw_draw 8 [18,19,20,21,22,23,24,25] (by decide +kernel) ?_
  repeat refine stq rfl ?_
  refine qst rfl rfl (q_idxm rfl rfl rfl rfl rfl (by omega) hFi rfl) ?_
  repeat refine stq rfl ?_
  refine qst rfl rfl (q_cs rfl h1 rfl rfl) ?_
  repeat refine stq rfl ?_
  refine pw_draw 12 [26,27,28,29,30,31,32,33,34,35,36,37] (by decide +kernel) ?_
  repeat refine stq rfl ?_
  refine qst rfl rfl (q_idxm rfl rfl rfl rfl rfl (by omega) hFi rfl) ?_
  repeat refine stq rfl ?_
  refine qst rfl rfl (q_cs rfl h2 rfl rfl) ?_
  repeat refine stq rfl ?_
  refine qst rfl rfl (q_cs rfl h3 rfl rfl) ?_
  repeat refine stq rfl ?_
  refine qst rfl rfl (q_cs rfl h4 rfl rfl) ?_
  repeat refine stq rfl ?_
  refine ⟨i + 1,hlt,by omega,rfl,rfl,rfl,rfl,rfl,congrArg I hw,rfl,?_,trivial⟩
  show (_ : Nat × Option Cont) = (1,some (Cont.mk 90 8 [eR (ofQ (sumN (fI l z t) (i + 1))) ++ eR (ofQ (sumN (gI l z t) (i + 1)))] 2))
  rw [hF1,hG1]
  rfl
 ·have hie : i = l.length := by have := of_decide_eq_false h;omega
  clear h
  subst hie
  repeat refine stq rfl ?_
  exact endm rfl (by repeat' constructor) rfl (by repeat' constructor) rfl
end Go.Pv


set_option maxHeartbeats 2000000
namespace Go.Pv
attribute [local irreducible] PWP POps PQuiet PSem XThen XBlock RetPost InlPost
open Go.Proofs
structure BR.Ok (b : BR) : Prop where
 lim : b.Lim
 chk : bodyE b = 0
 few : FewL b.l
theorem body_chk {b : BR} (h : bodyE b = 0) : 1 ≤ b.w ∧ b.w ≤ 1000000000 ∧ checkL b.l = 0 := by
 rw [bodyE] at h
 split at h
 ·omega
 ·rename_i h1
  exact ⟨by omega,by omega,h⟩
theorem BR.Ok.chkL {b : BR} (h : b.Ok) : checkL b.l = 0 := (body_chk h.chk).2.2
set_option maxRecDepth 20000 in
theorem F_hq {l : List SR} (hl : LimL l) (hf : FewL l) {z t : Rat} {n m : Nat} (hz : HQ z n) (ht : HQ t m) : HQ (sumN (fI l z t) l.length) (96 * (n + m + 60) + 200) :=
 (sumN_hq l.length fun i hi => fQ_hq (hl.1 _ (getD_mem hi)) (hf.2 _ (getD_mem hi)) hz ht).mono (by have := Nat.mul_le_mul hf.1 (Nat.le_refl (8 * (n + m + 60) + 4 + 1));omega)
set_option maxRecDepth 20000 in
theorem G_hq {l : List SR} (hl : LimL l) (hf : FewL l) {z t : Rat} {n m : Nat} (hz : HQ z n) (ht : HQ t m) : HQ (sumN (gI l z t) l.length) (96 * (n + m + 60) + 200) :=
 (sumN_hq (m := 8 * (n + m + 60) + 4 + 4) l.length fun i hi => by
  have hx := (hl.1 _ (getD_mem hi)).x
  have hx : Zb (l.getD i dS).x := zb_i64 hx.1 hx.2
  exact @HQ.mul _ _ _ 4 (fQ_hq (hl.1 _ (getD_mem hi)) (hf.2 _ (getD_mem hi)) hz ht) HQ.int).mono (by have := Nat.mul_le_mul hf.1 (Nat.le_refl (8 * (n + m + 60) + 4 + 4 + 1));omega)
theorem totalF_ret (l : List SR) (hl : LimL l) (hc : checkL l = 0) (hf : FewL l) (a : AR) {z t : Rat} {n m : Nat} [ha : Va a z t n m] (hn : n + m ≤ 90000) :
  Ret Tryz.prog .shared 51 [.sl (l.map eS),.agg (eA a)] (.tup [.agg (eR (ofQ (sumN (fI l z t) l.length)) ++ eR (ofQ (sumN (gI l z t) l.length))),I 0]) := by
 have h1 := forces_ret l hl hc a hn
 have h2 := total_ret l hl hf ha.z.hq ha.t.hq (by omega)
 generalize ofQ (sumN (fI l z t) l.length) = X1 at *
 generalize ofQ (sumN (gI l z t) l.length) = X2 at *
 generalize FL l z t = L at *
 obtain ⟨az,at'⟩ := a
 refine Ret.of_pwp layOk mixed Go.Proofs.Tryz.func51 rfl (by decide) rfl rfl ?_
 repeat refine stq rfl ?_
 refine qst rfl rfl (q_cs rfl h1 rfl rfl) ?_
 repeat refine stq rfl ?_
 refine qst rfl rfl (q_cs rfl h2 rfl rfl) ?_
 repeat refine stq rfl ?_
 exact endm rfl (by repeat' constructor) rfl (by repeat' constructor) rfl
theorem wA_hq {b : BR} (hb : b.Ok) : HQ ((b.w : Rat) * b.a.val) 17 := by
 have hw : Zb b.w := zb_i64 hb.lim.w.1 hb.lim.w.2
 exact @HQ.mul _ _ 4 13 HQ.int hb.lim.a.v.hq
theorem excess_ret (b : BR) (hb : b.Ok) (a : AR) {z t : Rat} {n m : Nat} [ha : Va a z t n m] (hn : n + m ≤ 60000) : Ret Tryz.prog .shared 164 [.agg (eB b),.agg (eA a)] (.agg (eR (ofQ ((bd b).e z t)))) := by
 have h1 := totalF_ret b.l hb.lim.l hb.chkL hb.few a (by omega)
 have h2 := wholeF b.w hb.lim.w
 have hw : Zb b.w := zb_i64 hb.lim.w.1 hb.lim.w.2
 have h3 := mulR (ofQ (b.w : Rat)) b.a (hy := hb.lim.a.v) (by decide) (by decide)
 have v1 : Vq (ofQ (sumN (gI b.l z t) b.l.length)) (sumN (gI b.l z t) b.l.length) (96 * (n + 1 + (m + 1) + 60) + 200) := Vq.ofQ (h := G_hq hb.lim.l hb.few ha.z.hq ha.t.hq)
 have v2 : Vq (ofQ ((b.w : Rat) * b.a.val)) ((b.w : Rat) * b.a.val) 17 := Vq.ofQ (h := wA_hq hb)
 have h4 := subR (ofQ (sumN (gI b.l z t) b.l.length)) (ofQ ((b.w : Rat) * b.a.val)) (hx := v1) (hy := v2) (by omega) (by decide)
 rw [show sumN (gI b.l z t) b.l.length - (b.w : Rat) * b.a.val = (bd b).e z t from rfl] at h4
 generalize ofQ ((bd b).e z t) = X0 at *
 generalize ofQ (sumN (fI b.l z t) b.l.length) = X1 at *
 generalize ofQ (sumN (gI b.l z t) b.l.length) = X2 at *
 generalize ofQ ((b.w : Rat) * b.a.val) = X3 at *
 generalize ofQ (b.w : Rat) = X4 at *
 obtain ⟨w,ba,l⟩ := b
 obtain ⟨az,at'⟩ := a
 simp only at *
 refine Ret.of_pwp layOk mixed Go.Proofs.Tryz.func164 rfl (by decide) rfl rfl ?_
 repeat refine stq rfl ?_
 refine qst rfl rfl (q_cs rfl h1 rfl rfl) ?_
 repeat refine stq rfl ?_
 refine pw_draw 9 [14,15,16,17,18,19,20,21,22] (by decide +kernel) ?_
 repeat refine stq rfl ?_
 refine qst rfl rfl (q_cs rfl h2 rfl rfl) ?_
 repeat refine stq rfl ?_
 refine qst rfl rfl (q_cs rfl h3 rfl rfl) ?_
 repeat refine stq rfl ?_
 refine qst rfl rfl (q_cs rfl h4 rfl rfl) ?_
 repeat refine stq rfl ?_
 exact endm rfl (by repeat' constructor) rfl (by repeat' constructor) rfl
theorem e_hq {b : BR} (hb : b.Ok) {z t : Rat} {n m : Nat} (hz : HQ z n) (ht : HQ t m) : HQ ((bd b).e z t) (96 * (n + m + 60) + 200 + 17 + 1) := @HQ.sub _ _ _ 17 (G_hq hb.lim.l hb.few hz ht) (wA_hq hb)
instance (b : Bd) (z t : Rat) : Decidable (b.Bal z t) := inferInstanceAs (Decidable (_ ∧ _))
theorem balanced_ret (b : BR) (hb : b.Ok) (a : AR) {z t : Rat} {n m : Nat} [ha : Va a z t n m] (hn : n + m ≤ 60000) : Ret Tryz.prog .shared 115 [.agg (eB b),.agg (eA a)] (.bool (decide ((bd b).Bal z t))) := by
 have h1 := totalF_ret b.l hb.lim.l hb.chkL hb.few a (by omega)
 have h2 := wholeF b.w hb.lim.w
 have hw : Zb b.w := zb_i64 hb.lim.w.1 hb.lim.w.2
 have v0 : Vq (ofQ (sumN (fI b.l z t) b.l.length)) (sumN (fI b.l z t) b.l.length) (96 * (n + 1 + (m + 1) + 60) + 200) := Vq.ofQ (h := F_hq hb.lim.l hb.few ha.z.hq ha.t.hq)
 have h5 := cmpR (ofQ (sumN (fI b.l z t) b.l.length)) (ofQ (b.w : Rat)) (hx := v0) (by omega) (by decide)
 have h3 := mulR (ofQ (b.w : Rat)) b.a (hy := hb.lim.a.v) (by decide) (by decide)
 have v1 : Vq (ofQ (sumN (gI b.l z t) b.l.length)) (sumN (gI b.l z t) b.l.length) (96 * (n + 1 + (m + 1) + 60) + 200) := Vq.ofQ (h := G_hq hb.lim.l hb.few ha.z.hq ha.t.hq)
 have v2 : Vq (ofQ ((b.w : Rat) * b.a.val)) ((b.w : Rat) * b.a.val) 17 := Vq.ofQ (h := wA_hq hb)
 have h4 := cmpR (ofQ (sumN (gI b.l z t) b.l.length)) (ofQ ((b.w : Rat) * b.a.val)) (hx := v1) (hy := v2) (by omega) (by decide)
 have key : decide ((bd b).Bal z t) = (decide (sgn (sumN (fI b.l z t) b.l.length - (b.w : Rat)) = 0) && decide (sgn (sumN (gI b.l z t) b.l.length - (b.w : Rat) * b.a.val) = 0)) := by
  rw [← Bool.decide_and,decide_eq_decide,sgn_eq,sgn_eq]
  show sumN (fI b.l z t) b.l.length = (b.w : Rat) ∧ sumN (gI b.l z t) b.l.length = (b.w : Rat) * b.a.val ↔ _
  constructor
  ·rintro ⟨e1,e2⟩;rw [e1,e2];constructor <;> grind
  ·rintro ⟨e1,e2⟩;constructor <;> grind
 rw [key]
 generalize sgn (sumN (fI b.l z t) b.l.length - (b.w : Rat)) = g1 at *
 generalize sgn (sumN (gI b.l z t) b.l.length - (b.w : Rat) * b.a.val) = g2 at *
 generalize ofQ (sumN (fI b.l z t) b.l.length) = X1 at *
 generalize ofQ (sumN (gI b.l z t) b.l.length) = X2 at *
 generalize ofQ ((b.w : Rat) * b.a.val) = X3 at *
 generalize ofQ (b.w : Rat) = X4 at *
 obtain ⟨w,ba,l⟩ := b
 obtain ⟨az,at'⟩ := a
 simp only at *
 refine Ret.of_pwp layOk mixed Go.Proofs.Tryz.func115 rfl (by decide) rfl rfl ?_
 repeat refine stq rfl ?_
 refine qst rfl rfl (q_cs rfl h1 rfl rfl) ?_
 repeat refine stq rfl ?_
 refine pw_draw 20 [14,15,16,17,18,19,20,21,22,23,24,25,26,27,28,29,30,31,32,4] (by decide +kernel) ?_
 repeat refine stq rfl ?_
 refine qst rfl rfl (q_cs rfl h2 rfl rfl) ?_
 repeat refine stq rfl ?_
 refine qst rfl rfl (q_cp rfl h5 rfl rfl rfl) ?_
 repeat refine stq rfl ?_
 (first|refine ps_split rfl rfl ?_ ?_|refine pq_split rfl rfl ?_ ?_|refine p3_split rfl rfl ?_ ?_)<;>intro h
 ·rw [h]
  clear h
  repeat refine stq rfl ?_
  refine qst rfl rfl (q_cs rfl h2 rfl rfl) ?_
  repeat refine stq rfl ?_
  refine qst rfl rfl (q_cs rfl h3 rfl rfl) ?_
  repeat refine stq rfl ?_
  refine qst rfl rfl (q_cp rfl h4 rfl rfl rfl) ?_
  repeat refine stq rfl ?_
  exact end1b rfl rfl rfl
 ·rw [h]
  clear h
  repeat refine stq rfl ?_
  exact end1b rfl rfl rfl
end Go.Pv


set_option maxHeartbeats 2000000
namespace Go.Pv
attribute [local irreducible] PWP POps PQuiet PSem XThen XBlock RetPost InlPost
open Go.Proofs
theorem slop_pr {S M : Nat → Rat} {n : Nat} {y : Rat} (h : ∀ k,k + 1 < n → S k < S (k + 1)) : ∀ m,m ≤ n → sumN (slopT S M y) m = befQ M (prI S y m)
 |0,_ => rfl
 |m + 1,hm => by
  rw [sumN,slop_pr h m (by omega),prI,slopT]
  by_cases hy : S m ≤ y
  ·rw [if_pos hy,if_neg (by grind)]
   have : prI S y m = m := by
    cases m with
    |zero => rfl
    |succ j =>
     have := h j (by omega)
     rw [prI,if_pos (by grind)]
   rw [this,befQ]
   grind
  ·rw [if_neg hy,if_pos (by grind)]
   grind
def lfR (c : CR) (y : Rat) : Nat → RR
 |0 => ofQ 0
 |i + 1 => if c.s i < y then c.M.getD i RR.zero else lfR c y i
theorem lfR_v {c : CR} (hc : c.Lim) (y : Rat) : ∀ i,Vq (lfR c y i) (befQ c.m (plI c.s y i)) 12
 |0 => bfR_v c hc 0
 |i + 1 => by
  rw [lfR,plI]
  split
  ·exact mR_v c hc i
  ·exact lfR_v hc y i
theorem right1_ret (s : SR) (hs : s.Lim) (hk : curveE s.k = 0) (a : AR) {z t : Rat} {n m : Nat} [ha : Va a z t n m] (hn : n + m ≤ 90000) : Ret Tryz.prog .shared 173 [.agg (eS s),.dref (eA a) 0] (.agg (eR (ofQ (befQ s.k.m (prI s.k.s (yQ s z t) s.k.S.length))))) := by
 have h1 := compr_ret s hs a (by omega) (by omega)
 have v1 : Vq (ofQ (yQ s z t)) (yQ s z t) (13 + (n + 1 + (m + 1 + 4) + 1) + 1) := Vq.ofQ (h := yQ_hq hs ha.z.hq ha.t.hq)
 have h2 := slope_ret s.k hs.k hk (ofQ (yQ s z t)) (hy := v1) (by omega)
 rw [slopQ,slop_pr (curve_ok hk).2.2.2 _ (Nat.le_refl _)] at h2
 generalize ofQ (befQ s.k.m (prI s.k.s (yQ s z t) s.k.S.length)) = X2 at *
 generalize ofQ (yQ s z t) = X1 at *
 obtain ⟨x,c,k⟩ := s
 obtain ⟨az,at'⟩ := a
 try simp only at *
 refine Ret.of_pwp layOk mixed Go.Proofs.Tryz.func173 rfl (by decide) rfl rfl ?_
 repeat refine stq rfl ?_
 refine pw_draw3 [4] [9,10] (by decide +kernel) ?_
 repeat refine stq rfl ?_
 refine qst rfl rfl (q_cs rfl h1 rfl rfl) ?_
 repeat refine stq rfl ?_
 refine qst rfl rfl (q_cs rfl h2 rfl rfl) ?_
 repeat refine stq rfl ?_
 exact endm rfl (by repeat' constructor) rfl (by repeat' constructor) rfl
set_option maxRecDepth 20000 in
theorem left1_ret (s : SR) (hs : s.Lim) (hk : curveE s.k = 0) (a : AR) {z t : Rat} {n m : Nat} [ha : Va a z t n m] (hn : n + m ≤ 90000) : Ret Tryz.prog .shared 206 [.agg (eS s),.dref (eA a) 0] (.agg (eR (lfR s.k (yQ s z t) s.k.S.length))) := by
 have h1 := compr_ret s hs a (by omega) (by omega)
 have v1 : Vq (ofQ (yQ s z t)) (yQ s z t) (13 + (n + 1 + (m + 1 + 4) + 1) + 1) := Vq.ofQ (h := yQ_hq hs ha.z.hq ha.t.hq)
 have hw0 := wholeF 0 ⟨by decide,by decide⟩
 rw [show (((0 : Int) : Rat)) = 0 from rfl] at hw0
 have hSM := (curve_ok hk).2.1
 have h40 := (curve_ok hk).1
 have hkl := hs.k
 obtain ⟨x,c,k⟩ := s
 obtain ⟨az,at'⟩ := a
 simp only at hSM h40 hkl
 dsimp only
 generalize yQ ⟨x,c,k⟩ z t = y at *
 generalize ofQ y = Y at *
 have hSl : (k.S.map eN).length = k.S.length := by simp
 refine Ret.of_pwp layOk mixed Go.Proofs.Tryz.func206 rfl (by decide) rfl rfl ?_
 repeat refine stq rfl ?_
 refine qst rfl rfl (q_cs rfl h1 rfl rfl) ?_
 repeat refine stq rfl ?_
 refine qst rfl rfl (q_cs rfl hw0 rfl rfl) ?_
 repeat refine stq rfl ?_
 refine pw_loop (fun i : Nat => i ≤ k.S.length) (fun i => [(2,.ptr 2 1 0 0),(3,.ptr 3 1 0 0),(4,.ptr 4 1 0 0),(5,.ptr 5 1 0 0),(14,.sl (k.S.map eN)),(15,I k.S.length),(16,I (i : Nat))])
  (fun i => [(2,1,⟨122,7,[eS ⟨x,c,k⟩],2⟩),(3,1,⟨26,4,[zN],2⟩),(4,1,⟨26,4,[eR Y],2⟩),(5,1,⟨26,4,[eR (lfR k y i)],2⟩)]) (fun i => k.S.length - i) 0 (Nat.zero_le _) ⟨rfl,rfl,rfl,rfl,rfl,by rw [← hSl];rfl,rfl,rfl,rfl,rfl,rfl,trivial⟩ ?_
 intro i s hi
 repeat refine stq rfl ?_
 refine pw_cond rfl (fun h => ?_) (fun h => ?_)
 ·have hlt : i < k.S.length := by have := of_decide_eq_true h;omega
  clear h
  have hx := get_some (d := 0) hlt
  have hmx := get_some (l := k.M) (i := i) (d := RR.zero) (by omega)
  have hxb := sI_zb hkl i
  have hnum := wholeF (k.S.getD i 0) hxb
  have hzb : Zb (k.S.getD i 0) := zb_i64 hxb.1 hxb.2
  have hcm := cmpR (ofQ ((k.S.getD i 0 : Int) : Rat)) Y (hy := v1) (by decide) (by omega)
  have hsl := sgn_lt (k.s i - y)
  rw [show ((k.S.getD i 0 : Int) : Rat) = k.s i from rfl] at hnum hcm
  have hw : IntKind.i64.wrap (((i : Nat) : Int) + 1) = ((i + 1 : Nat) : Int) := by rw [wrap_i64 (by omega) (by omega)];omega
  have hst : lfR k y (i + 1) = if k.s i < y then k.M.getD i RR.zero else lfR k y i := rfl
  generalize ofQ (k.s i) = N at *
  repeat refine stq rfl ?_
  refine qst rfl rfl (q_idxm rfl rfl rfl rfl rfl (by omega) hx rfl) ?_
  repeat refine stq rfl ?_
  refine pw_draw 5 [21,22,23,24,25] (by decide +kernel) ?_
  repeat refine stq rfl ?_
  refine qst rfl rfl (q_cs rfl hnum rfl rfl) ?_
  repeat refine stq rfl ?_
  refine qst rfl rfl (q_cp rfl hcm rfl rfl rfl) ?_
  repeat refine stq rfl ?_
  refine pw_cond rfl (fun h => ?_) (fun h => ?_)
  ·have h3 : k.s i < y := by have := hsl.1 (of_decide_eq_true h);grind
   clear h
   rw [if_pos h3] at hst
   repeat refine stq rfl ?_
   refine qst rfl rfl (q_idxm rfl rfl rfl rfl rfl (by omega) hmx rfl) ?_
   repeat refine stq rfl ?_
   refine ⟨i + 1,hlt,by omega,rfl,rfl,rfl,rfl,rfl,rfl,congrArg I hw,rfl,rfl,rfl,?_,trivial⟩
   show (_ : Nat × Option Cont) = (1,some (Cont.mk 26 4 [eR (lfR k y (i + 1))] 2))
   rw [hst]
   rfl
  ·have h3 : ¬ k.s i < y := fun h2 => (of_decide_eq_false h) (hsl.2 (by grind))
   clear h
   rw [if_neg h3] at hst
   repeat refine stq rfl ?_
   refine ⟨i + 1,hlt,by omega,rfl,rfl,rfl,rfl,rfl,rfl,congrArg I hw,rfl,rfl,rfl,?_,trivial⟩
   show (_ : Nat × Option Cont) = (1,some (Cont.mk 26 4 [eR (lfR k y (i + 1))] 2))
   rw [hst]
   rfl
 ·have hie : i = k.S.length := by have := of_decide_eq_false h;omega
  clear h
  subst hie
  repeat refine stq rfl ?_
  exact endm rfl (by repeat' constructor) rfl (by repeat' constructor) rfl
theorem right_ret (a : AR) : Ret Tryz.prog .shared 127 [.agg (eA a)] (.clo 173 [.dref (eA a) 0]) := by
 obtain ⟨az,at'⟩ := a
 refine Ret.of_pwp layOk mixed Go.Proofs.Tryz.func127 rfl (by decide) rfl rfl ?_
 repeat refine stq rfl ?_
 exact endm rfl (by repeat' constructor) rfl (by repeat' constructor) rfl
theorem left_ret (a : AR) : Ret Tryz.prog .shared 194 [.agg (eA a)] (.clo 206 [.dref (eA a) 0]) := by
 obtain ⟨az,at'⟩ := a
 refine Ret.of_pwp layOk mixed Go.Proofs.Tryz.func194 rfl (by decide) rfl rfl ?_
 repeat refine stq rfl ?_
 exact endm rfl (by repeat' constructor) rfl (by repeat' constructor) rfl
end Go.Pv


set_option maxHeartbeats 2000000
namespace Go.Pv
attribute [local irreducible] PWP POps PQuiet PSem XThen XBlock RetPost InlPost
open Go.Proofs
def xI (l : List SR) (i : Nat) : Rat := ((l.getD i dS).x : Rat)
def eK (a b c : RR) : List PV := eR a ++ (eR b ++ eR c)
set_option maxRecDepth 20000 in
theorem stiff_ret (l : List SR) (hl : LimL l) (hf : FewL l) (f : FuncId) (cc : List PV) (g : SR → RR) (κ : Nat → Rat) (hg : ∀ s ∈ l,Ret Tryz.prog .shared f [.agg (eS s),.dref cc 0] (.agg (eR (g s)))) (hv : ∀ i,i < l.length → Vq (g (l.getD i dS)) (κ i) 1000) :
  Ret Tryz.prog .shared 126 [.sl (l.map eS),.clo f [.dref cc 0]] (.agg (eK (ofQ (sumN κ l.length)) (ofQ (sumN (fun i => κ i * xI l i) l.length)) (ofQ (sumN (fun i => κ i * xI l i * xI l i) l.length)))) := by
 have hw0 := wholeF 0 ⟨by decide,by decide⟩
 rw [show (((0 : Int) : Rat)) = 0 from rfl] at hw0
 have hml : (l.map eS).length = l.length := by simp
 have hX : ∀ i,i < l.length → HQ (xI l i) 4 := fun i hi => by
  have hx := (hl.1 _ (getD_mem hi)).x
  have hx : Zb (l.getD i dS).x := zb_i64 hx.1 hx.2
  exact HQ.int
 have hK : ∀ i,i < l.length → HQ (κ i) 1001 := fun i hi => (hv i hi).hq
 have hC : ∀ i,i < l.length → HQ (κ i * xI l i) 1005 := fun i hi => @HQ.mul _ _ 1001 4 (hK i hi) (hX i hi)
 have hP : ∀ i,i < l.length → HQ (κ i * xI l i * xI l i) 1009 := fun i hi => @HQ.mul _ _ 1005 4 (hC i hi) (hX i hi)
 have h12 := hf.1
 generalize hc : (fun i => κ i * xI l i) = C at *
 generalize hp : (fun i => κ i * xI l i * xI l i) = Pq at *
 have hCi : ∀ i,κ i * xI l i = C i := fun i => by rw [← hc]
 have hPi : ∀ i,C i * xI l i = Pq i := fun i => by rw [← hc,← hp]
 simp only [hCi,hPi] at hC hP
 clear hc hp
 refine Ret.of_pwp layOk mixed Go.Proofs.Tryz.func126 rfl (by decide) rfl rfl ?_
 repeat refine stq rfl ?_
 refine qst rfl rfl (q_cs rfl hw0 rfl rfl) ?_
 repeat refine stq rfl ?_
 refine qst rfl rfl (q_cs rfl hw0 rfl rfl) ?_
 repeat refine stq rfl ?_
 refine qst rfl rfl (q_cs rfl hw0 rfl rfl) ?_
 repeat refine stq rfl ?_
 refine pw_loop (fun i : Nat => i ≤ l.length) (fun i => [(1,.clo f [.dref cc 0]),(4,.ptr 4 1 0 0),(5,.ptr 5 1 0 0),(13,.sl (l.map eS)),(14,I l.length),(15,I (i : Nat))])
  (fun i => [(4,1,⟨94,12,[zN ++ (zN ++ zN)],2⟩),(5,1,⟨94,12,[eK (ofQ (sumN κ i)) (ofQ (sumN C i)) (ofQ (sumN Pq i))],2⟩)]) (fun i => l.length - i) 0 (Nat.zero_le _) ⟨rfl,rfl,rfl,rfl,by rw [← hml];rfl,rfl,rfl,rfl,trivial⟩ ?_
 intro i s hi
 repeat refine stq rfl ?_
 refine pw_cond rfl (fun h => ?_) (fun h => ?_)
 ·have hlt : i < l.length := by have := of_decide_eq_true h;omega
  clear h
  have hx := get_some (d := dS) hlt
  have hxx := (hl.1 _ (getD_mem hlt)).x
  have hgx := hg _ (getD_mem hlt)
  have hvi := hv i hlt
  have hw : IntKind.i64.wrap (((i : Nat) : Int) + 1) = ((i + 1 : Nat) : Int) := by rw [wrap_i64 (by omega) (by omega)];omega
  have hwx := wholeF (l.getD i dS).x hxx
  rw [show ((l.getD i dS).x : Rat) = xI l i from rfl] at hwx
  have vx : Vq (ofQ (xI l i)) (xI l i) 4 := Vq.ofQ (h := hX i hlt)
  have v1 : Vq (ofQ (sumN κ i)) (sumN κ i) (i * (1001 + 1) + 4) := Vq.ofQ (h := sumN_hq i fun k hk => hK k (by omega))
  have v2 : Vq (ofQ (sumN C i)) (sumN C i) (i * (1005 + 1) + 4) := Vq.ofQ (h := sumN_hq i fun k hk => hC k (by omega))
  have v3 : Vq (ofQ (sumN Pq i)) (sumN Pq i) (i * (1009 + 1) + 4) := Vq.ofQ (h := sumN_hq i fun k hk => hP k (by omega))
  have w2 : Vq (ofQ (C i)) (C i) 1005 := Vq.ofQ (h := hC i hlt)
  have w3 : Vq (ofQ (Pq i)) (Pq i) 1009 := Vq.ofQ (h := hP i hlt)
  have a1 := addR (ofQ (sumN κ i)) (g (l.getD i dS)) (hx := v1) (hy := hvi) (by omega) (by decide)
  have m1 := mulR (g (l.getD i dS)) (ofQ (xI l i)) (hx := hvi) (hy := vx) (by decide) (by decide)
  rw [hCi] at m1
  have a2 := addR (ofQ (sumN C i)) (ofQ (C i)) (hx := v2) (hy := w2) (by omega) (by decide)
  have m2 := mulR (ofQ (C i)) (ofQ (xI l i)) (hx := w2) (hy := vx) (by decide) (by decide)
  rw [hPi] at m2
  have a3 := addR (ofQ (sumN Pq i)) (ofQ (Pq i)) (hx := v3) (hy := w3) (by omega) (by decide)
  rw [show sumN κ i + κ i = sumN κ (i + 1) from rfl] at a1
  rw [show sumN C i + C i = sumN C (i + 1) from rfl] at a2
  rw [show sumN Pq i + Pq i = sumN Pq (i + 1) from rfl] at a3
  have hout : eK (ofQ (sumN κ (i + 1))) (ofQ (sumN C (i + 1))) (ofQ (sumN Pq (i + 1))) = eK (ofQ (sumN κ (i + 1))) (ofQ (sumN C (i + 1))) (ofQ (sumN Pq (i + 1))) := rfl
  generalize ofQ (sumN κ i) = K0 at *
  generalize ofQ (sumN C i) = C0 at *
  generalize ofQ (sumN Pq i) = P0 at *
  generalize hK1 : ofQ (sumN κ (i + 1)) = K1 at *
  generalize hC1 : ofQ (sumN C (i + 1)) = C1 at *
  generalize hP1 : ofQ (sumN Pq (i + 1)) = P1 at *
  generalize ofQ (xI l i) = XI at *
  generalize ofQ (C i) = CI at *
  generalize ofQ (Pq i) = PI at *
  repeat refine stq rfl ?_
  refine qst rfl rfl (q_idxm rfl rfl rfl rfl rfl (by omega) hx rfl) ?_
  repeat refine stq rfl ?_
  refine qst rfl rfl (q_cs rfl hgx rfl rfl) ?_
  repeat refine stq rfl ?_
  refine qst rfl rfl (q_cs rfl a1 rfl rfl) ?_
  repeat refine stq rfl ?_
  refine pw_draw 5 [27,28,29,30,31] (by decide +kernel) ?_
  repeat refine stq rfl ?_
  refine qst rfl rfl (q_cs rfl hwx rfl rfl) ?_
  repeat refine stq rfl ?_
  refine qst rfl rfl (q_cs rfl m1 rfl rfl) ?_
  repeat refine stq rfl ?_
  refine qst rfl rfl (q_cs rfl a2 rfl rfl) ?_
  repeat refine stq rfl ?_
  refine pw_draw 9 [37,38,39,40,41,42,43,44,45] (by decide +kernel) ?_
  repeat refine stq rfl ?_
  refine qst rfl rfl (q_cs rfl hwx rfl rfl) ?_
  repeat refine stq rfl ?_
  refine qst rfl rfl (q_cs rfl m2 rfl rfl) ?_
  repeat refine stq rfl ?_
  refine qst rfl rfl (q_cs rfl a3 rfl rfl) ?_
  repeat refine stq rfl ?_
  refine ⟨i + 1,hlt,by omega,rfl,rfl,rfl,rfl,rfl,congrArg I hw,rfl,?_,trivial⟩
  show (_ : Nat × Option Cont) = (1,some (Cont.mk 94 12 [eK (ofQ (sumN κ (i + 1))) (ofQ (sumN C (i + 1))) (ofQ (sumN Pq (i + 1)))] 2))
  rw [hK1,hC1,hP1]
  rfl
 ·have hie : i = l.length := by have := of_decide_eq_false h;omega
  clear h
  subst hie
  repeat refine stq rfl ?_
  exact endm rfl (by repeat' constructor) rfl (by repeat' constructor) rfl
theorem after_ret (a d : AR) {z t : Rat} {n m : Nat} {z' t' : Rat} {n' m' : Nat} [ha : Va a z t n m] [hd : Va d z' t' n' m'] (h1 : n ≤ 8000000) (h2 : m ≤ 8000000) (h3 : n' ≤ 8000000) (h4 : m' ≤ 8000000) : Ret Tryz.prog .shared 128 [.agg (eA a),.agg (eA d)] (.agg (eA ⟨ofQ (z + z'),ofQ (t + t')⟩)) := by
 have a1 := addR a.z d.z (hx := ha.z) (hy := hd.z) (by omega) (by omega)
 have a2 := addR a.t d.t (hx := ha.t) (hy := hd.t) (by omega) (by omega)
 generalize ofQ (z + z') = X at *
 generalize ofQ (t + t') = Y at *
 obtain ⟨az,at'⟩ := a
 obtain ⟨dz,dt⟩ := d
 try simp only at *
 refine Ret.of_pwp layOk mixed Go.Proofs.Tryz.func128 rfl (by decide) rfl rfl ?_
 repeat refine stq rfl ?_
 refine pw_draw 11 [5,6,7,8,9,10,11,12,13,14,15] (by decide +kernel) ?_
 repeat refine stq rfl ?_
 refine qst rfl rfl (q_cs rfl a1 rfl rfl) ?_
 repeat refine stq rfl ?_
 refine qst rfl rfl (q_cs rfl a2 rfl rfl) ?_
 repeat refine stq rfl ?_
 exact endm rfl (by repeat' constructor) rfl (by repeat' constructor) rfl
end Go.Pv


set_option maxHeartbeats 2000000
namespace Go.Pv
attribute [local irreducible] PWP POps PQuiet PSem XThen XBlock RetPost InlPost
open Go.Proofs
theorem vq_hq2 {q : Rat} {n : Nat} (h : Vq (ofQ q) q n) : HQ q n := by
 refine ⟨?_⟩
 obtain ⟨_,h1,h2⟩ := h
 have e1 := nv_lt (ofQ q).n.l
 have e2 := nv_lt (ofQ q).d.l
 rw [show (ofQ q).n.l = limbs q.num.natAbs from rfl] at e1 h1
 rw [show (ofQ q).d.l = limbs q.den from rfl] at e2 h2
 rw [nv_limbs] at e1 e2
 exact ⟨Nat.lt_of_lt_of_le e1 (pw_mono h1),Nat.lt_of_lt_of_le e2 (pw_mono h2)⟩
def movedR (d : Option (Rat × Rat)) : PV := match d with
 |none => .tup [.agg (zN ++ zN),.bool false]
 |some d => .tup [.agg (eA ⟨ofQ d.1,ofQ d.2⟩),.bool true]
set_option maxRecDepth 20000 in
theorem moved_ret (kh kc kp fo mo : RR) {η c p u v : Rat} {a b : Nat} (hh : Vq kh η a) (hc : Vq kc c a) (hp : Vq kp p a) (hu : Vq fo u b) (hv : Vq mo v b) (ha : a ≤ 20000) (hb : b ≤ 7000000) :
  Ret Tryz.prog .shared 125 [.agg (eK kh kc kp),.agg (eR fo),.agg (eR mo)] (movedR (Bd.newt η c p u v)) := by
 have m1 := mulR kh kp (hx := hh) (hy := hp) (by omega) (by omega)
 have m2 := mulR kc kc (hx := hc) (hy := hc) (by omega) (by omega)
 have v1 : Vq (ofQ (η * p)) (η * p) (a + 1 + (a + 1)) := Vq.ofQ (h := @HQ.mul _ _ (a + 1) (a + 1) hh.hq hp.hq)
 have v2 : Vq (ofQ (c * c)) (c * c) (a + 1 + (a + 1)) := Vq.ofQ (h := @HQ.mul _ _ (a + 1) (a + 1) hc.hq hc.hq)
 have s1 := subR (ofQ (η * p)) (ofQ (c * c)) (hx := v1) (hy := v2) (by omega) (by omega)
 have v3 : Vq (ofQ (η * p - c * c)) (η * p - c * c) (a + 1 + (a + 1) + (a + 1 + (a + 1)) + 1) := Vq.ofQ (h := @HQ.sub _ _ _ _ (vq_hq2 v1) (vq_hq2 v2))
 have sg := signF (ofQ (η * p - c * c)) (hx := v3) (by omega)
 have hs0 := sgn_eq (η * p - c * c)
 by_cases h0 : η * p - c * c = 0
 ·have hn : Bd.newt η c p u v = none := by rw [Bd.newt,if_pos h0]
  rw [hn]
  have e0 := hs0.2 h0
  rw [e0] at sg
  generalize ofQ (η * p - c * c) = D at *
  generalize ofQ (η * p) = D1 at *
  generalize ofQ (c * c) = D2 at *
  clear hn
  refine Ret.of_pwp layOk mixed Go.Proofs.Tryz.func125 rfl (by decide) rfl rfl ?_
  repeat refine stq rfl ?_
  refine pw_draw2 11 1 [11,12,13,14,15,16,17,18,19,20,21,8] [] (by decide +kernel) rfl ?_
  repeat refine stq rfl ?_
  refine qst rfl rfl (q_cs rfl m1 rfl rfl) ?_
  repeat refine stq rfl ?_
  refine qst rfl rfl (q_cs rfl m2 rfl rfl) ?_
  repeat refine stq rfl ?_
  refine qst rfl rfl (q_cs rfl s1 rfl rfl) ?_
  repeat refine stq rfl ?_
  refine qst rfl rfl (q_cp rfl sg rfl rfl rfl) ?_
  repeat refine stq rfl ?_
  exact endm rfl (by repeat' constructor) rfl (by repeat' constructor) rfl
 ·have hn : Bd.newt η c p u v = some ((p * u - c * v) / (η * p - c * c),(η * v - c * u) / (η * p - c * c)) := by rw [Bd.newt,if_neg h0]
  rw [hn]
  have m3 := mulR kp fo (hx := hp) (hy := hu) (by omega) (by omega)
  have m4 := mulR kc mo (hx := hc) (hy := hv) (by omega) (by omega)
  have m5 := mulR kh mo (hx := hh) (hy := hv) (by omega) (by omega)
  have m6 := mulR kc fo (hx := hc) (hy := hu) (by omega) (by omega)
  have w3 : Vq (ofQ (p * u)) (p * u) (a + 1 + (b + 1)) := Vq.ofQ (h := @HQ.mul _ _ (a + 1) (b + 1) hp.hq hu.hq)
  have w4 : Vq (ofQ (c * v)) (c * v) (a + 1 + (b + 1)) := Vq.ofQ (h := @HQ.mul _ _ (a + 1) (b + 1) hc.hq hv.hq)
  have w5 : Vq (ofQ (η * v)) (η * v) (a + 1 + (b + 1)) := Vq.ofQ (h := @HQ.mul _ _ (a + 1) (b + 1) hh.hq hv.hq)
  have w6 : Vq (ofQ (c * u)) (c * u) (a + 1 + (b + 1)) := Vq.ofQ (h := @HQ.mul _ _ (a + 1) (b + 1) hc.hq hu.hq)
  have s2 := subR (ofQ (p * u)) (ofQ (c * v)) (hx := w3) (hy := w4) (by omega) (by omega)
  have s3 := subR (ofQ (η * v)) (ofQ (c * u)) (hx := w5) (hy := w6) (by omega) (by omega)
  have x2 : Vq (ofQ (p * u - c * v)) (p * u - c * v) (a + 1 + (b + 1) + (a + 1 + (b + 1)) + 1) := Vq.ofQ (h := @HQ.sub _ _ _ _ (vq_hq2 w3) (vq_hq2 w4))
  have x3 : Vq (ofQ (η * v - c * u)) (η * v - c * u) (a + 1 + (b + 1) + (a + 1 + (b + 1)) + 1) := Vq.ofQ (h := @HQ.sub _ _ _ _ (vq_hq2 w5) (vq_hq2 w6))
  have q2 := overF (ofQ (p * u - c * v)) (ofQ (η * p - c * c)) (hx := x2) (hy := v3) (by omega) (by omega) h0
  have q3 := overF (ofQ (η * v - c * u)) (ofQ (η * p - c * c)) (hx := x3) (hy := v3) (by omega) (by omega) h0
  have hsn : sgn (η * p - c * c) ≠ 0 := fun e => h0 (hs0.1 e)
  simp only [movedR]
  generalize ofQ ((p * u - c * v) / (η * p - c * c)) = R1 at *
  generalize ofQ ((η * v - c * u) / (η * p - c * c)) = R2 at *
  generalize sgn (η * p - c * c) = gs at *
  generalize ofQ (η * p - c * c) = D at *
  generalize ofQ (η * p) = D1 at *
  generalize ofQ (c * c) = D2 at *
  generalize ofQ (p * u - c * v) = D3 at *
  generalize ofQ (η * v - c * u) = D4 at *
  generalize ofQ (p * u) = D5 at *
  generalize ofQ (c * v) = D6 at *
  generalize ofQ (η * v) = D7 at *
  generalize ofQ (c * u) = D8 at *
  clear hn
  refine Ret.of_pwp layOk mixed Go.Proofs.Tryz.func125 rfl (by decide) rfl rfl ?_
  repeat refine stq rfl ?_
  refine pw_draw2 11 1 [11,12,13,14,15,16,17,18,19,20,21,8] [] (by decide +kernel) rfl ?_
  repeat refine stq rfl ?_
  refine qst rfl rfl (q_cs rfl m1 rfl rfl) ?_
  repeat refine stq rfl ?_
  refine qst rfl rfl (q_cs rfl m2 rfl rfl) ?_
  repeat refine stq rfl ?_
  refine qst rfl rfl (q_cs rfl s1 rfl rfl) ?_
  repeat refine stq rfl ?_
  refine qst rfl rfl (q_cp rfl sg rfl rfl rfl) ?_
  repeat refine stq rfl ?_
  refine pw_cond rfl (fun h => ?_) (fun h => ?_)
  ·exact absurd (of_decide_eq_true h) hsn
  clear h
  repeat refine stq rfl ?_
  refine pw_draw2 9 1 [26,27,28,29,30,31,32,33,34,9] [] (by decide +kernel) rfl ?_
  repeat refine stq rfl ?_
  refine qst rfl rfl (q_cs rfl m3 rfl rfl) ?_
  repeat refine stq rfl ?_
  refine qst rfl rfl (q_cs rfl m4 rfl rfl) ?_
  repeat refine stq rfl ?_
  refine qst rfl rfl (q_cs rfl s2 rfl rfl) ?_
  repeat refine stq rfl ?_
  refine pw_draw2 9 1 [35,36,37,38,39,40,41,42,43,10] [] (by decide +kernel) rfl ?_
  repeat refine stq rfl ?_
  refine qst rfl rfl (q_cs rfl m5 rfl rfl) ?_
  repeat refine stq rfl ?_
  refine qst rfl rfl (q_cs rfl m6 rfl rfl) ?_
  repeat refine stq rfl ?_
  refine qst rfl rfl (q_cs rfl s3 rfl rfl) ?_
  repeat refine stq rfl ?_
  refine pw_draw 7 [44,45,46,47,48,49,50] (by decide +kernel) ?_
  repeat refine stq rfl ?_
  refine qst rfl rfl (q_cs rfl q2 rfl rfl) ?_
  repeat refine stq rfl ?_
  refine qst rfl rfl (q_cs rfl q3 rfl rfl) ?_
  repeat refine stq rfl ?_
  exact endm rfl (by repeat' constructor) rfl (by repeat' constructor) rfl
end Go.Pv


set_option maxHeartbeats 2000000
namespace Go.Pv
attribute [local irreducible] PWP POps PQuiet PSem XThen XBlock RetPost InlPost
open Go.Proofs
def capT (S M : Nat → Rat) (k : Nat) : Rat := M k * (S (k + 1) - S k)
theorem off_abel (S M : Nat → Rat) : ∀ m,offQ S M (m + 1) = M m * S m - sumN (capT S M) m
 |0 => by rw [offQ,sumN,sumN,sumN,befQ];grind
 |m + 1 => by
  have := off_abel S M m
  rw [offQ] at this ⊢
  rw [sumN,this,sumN,befQ,capT];grind
theorem cap_sum {S M : Nat → Rat} {n : Nat} (h : befQ M n = 0) : capQ n S M = sumN (capT S M) (n - 1) := by
 cases n with
 |zero => rw [capQ,offQ,sumN,sumN];grind
 |succ m =>
  rw [befQ] at h
  rw [capQ,off_abel,h,show m + 1 - 1 = m by omega];grind
def capR (c : CR) : PV := if befQ c.m c.S.length = 0 then .tup [.agg (eR (ofQ (capQ c.S.length c.s c.m))),.bool true,I 0] else .tup [.agg zN,.bool false,I 0]
theorem capT_hq {c : CR} (hc : c.Lim) (k : Nat) : HQ (capT c.s c.m k) (13 + (4 + 4 + 1)) := by
 have h1 := sI_zb hc k
 have h2 := sI_zb hc (k + 1)
 have z1 : Zb (c.S.getD k 0) := zb_i64 h1.1 h1.2
 have z2 : Zb (c.S.getD (k + 1) 0) := zb_i64 h2.1 h2.2
 exact @HQ.mul _ _ 13 9 (mR_v c hc k).hq (@HQ.sub _ _ 4 4 HQ.int HQ.int)
set_option maxRecDepth 20000 in
theorem capacity_ret (c : CR) (hc : c.Lim) (h0 : curveE c = 0) : Ret Tryz.prog .shared 131 [.agg (eC c)] (capR c) := by
 have hcc := checkCurve_ret c hc
 rw [h0] at hcc
 obtain ⟨h40,hSM,hrange,-⟩ := curve_ok h0
 have hz := number_ret 0 (by decide) (by decide)
 rw [show (((0 : Int) : Rat)) = 0 from rfl] at hz
 have hSl : (c.S.map eN).length = c.S.length := by simp
 generalize hR : capR c = R
 rw [capR] at hR
 refine Ret.of_pwp layOk mixed Go.Proofs.Tryz.func131 rfl (by decide) rfl rfl ?_
 repeat refine stq rfl ?_
 refine qst rfl rfl (q_cp rfl hcc rfl rfl rfl) ?_
 repeat refine stq rfl ?_
 refine qst rfl rfl (q_cs rfl hz rfl rfl) ?_
 repeat refine stq rfl ?_
 refine pw_loop (fun i : Nat => i ≤ c.S.length ∧ (i = c.S.length → befQ c.m c.S.length = 0)) (fun i => [(1,.ptr 1 1 0 0),(2,.ptr 2 1 0 0),(6,.ptr 6 1 0 0),(17,.sl (c.S.map eN)),(18,I c.S.length),(19,I (i : Nat))])
  (fun i => [(1,1,⟨120,2,[eC c],2⟩),(2,1,⟨26,4,[zN],2⟩),(6,1,⟨26,4,[eR (ofQ (sumN (capT c.s c.m) (min i (c.S.length - 1))))],2⟩)]) (fun i => c.S.length - i) 0 ⟨Nat.zero_le _,fun h => by rw [← h];rfl⟩ ⟨rfl,rfl,rfl,rfl,by rw [← hSl];rfl,rfl,rfl,rfl,?_,trivial⟩ ?_
 ·show (_ : Nat × Option Cont) = (1,some (Cont.mk 26 4 [eR (ofQ (sumN (capT c.s c.m) (min 0 (c.S.length - 1))))] 2))
  rw [Nat.zero_min]
  rfl
 intro i s ⟨hi,hlast⟩
 repeat refine stq rfl ?_
 refine pw_cond rfl (fun h => ?_) (fun h => ?_)
 ·have hlt : i < c.S.length := by have := of_decide_eq_true h;omega
  clear h
  have hx := get_some (d := 0) hlt
  have hmx := get_some (l := c.M) (i := i) (d := RR.zero) (by omega)
  have hw : IntKind.i64.wrap (((i : Nat) : Int) + 1) = ((i + 1 : Nat) : Int) := by rw [wrap_i64 (by omega) (by omega)];omega
  by_cases hn : i + 1 < c.S.length
  ·have hy := get_some (d := 0) hn
   have r1 := (hrange i hlt)
   have r2 := (hrange (i + 1) hn)
   have hd : IntKind.i64.wrap (c.S.getD (i + 1) 0 - c.S.getD i 0) = c.S.getD (i + 1) 0 - c.S.getD i 0 := wrap_i64 (by omega) (by omega)
   have hnum := number_ret (c.S.getD (i + 1) 0 - c.S.getD i 0) (by omega) (by omega)
   have ed : ((c.S.getD (i + 1) 0 - c.S.getD i 0 : Int) : Rat) = c.s (i + 1) - c.s i := by rw [CR.s,CR.s];push_cast;rfl
   rw [ed] at hnum
   have z1 : Zb (c.S.getD i 0) := zb_i64 (by omega) (by omega)
   have z2 : Zb (c.S.getD (i + 1) 0) := zb_i64 (by omega) (by omega)
   have v1 : Vq (ofQ (c.s (i + 1) - c.s i)) (c.s (i + 1) - c.s i) 9 := Vq.ofQ (h := @HQ.sub _ _ 4 4 HQ.int HQ.int)
   have m1 := mulR (c.M.getD i RR.zero) (ofQ (c.s (i + 1) - c.s i)) (hx := mR_v c hc i) (hy := v1) (by decide) (by decide)
   have v2 : Vq (ofQ (sumN (capT c.s c.m) i)) (sumN (capT c.s c.m) i) (i * (13 + (4 + 4 + 1) + 1) + 4) := Vq.ofQ (h := sumN_hq i fun k _ => capT_hq hc k)
   have v3 : Vq (ofQ (capT c.s c.m i)) (capT c.s c.m i) (13 + (4 + 4 + 1)) := Vq.ofQ (h := capT_hq hc i)
   rw [show c.m i * (c.s (i + 1) - c.s i) = capT c.s c.m i from rfl] at m1
   have a1 := addR (ofQ (sumN (capT c.s c.m) i)) (ofQ (capT c.s c.m i)) (hx := v2) (hy := v3) (by omega) (by decide)
   rw [show sumN (capT c.s c.m) i + capT c.s c.m i = sumN (capT c.s c.m) (i + 1) from rfl] at a1
   rw [show min i (c.S.length - 1) = i by omega]
   generalize ofQ (sumN (capT c.s c.m) i) = K0 at *
   generalize hK1 : ofQ (sumN (capT c.s c.m) (i + 1)) = K1 at *
   generalize ofQ (capT c.s c.m i) = T0 at *
   generalize ofQ (c.s (i + 1) - c.s i) = D0 at *
   repeat refine stq rfl ?_
   refine qst rfl rfl (q_idxm rfl rfl rfl rfl rfl (by omega) hx rfl) ?_
   repeat refine stq rfl ?_
   rw [hw]
   refine pw_cond rfl (fun h => ?_) (fun h => ?_)
   ·clear h
    repeat refine stq rfl ?_
    refine pw_draw 17 [30,31,32,33,34,35,36,37,38,39,40,41,42,43,44,45,46] (by decide +kernel) ?_
    repeat refine stq rfl ?_
    refine qst rfl rfl (q_idxm rfl rfl rfl rfl rfl (by omega) hmx rfl) ?_
    repeat refine stq rfl ?_
    rw [hw]
    refine qst rfl rfl (q_idxm rfl rfl rfl rfl rfl (by omega) hy rfl) ?_
    repeat refine stq rfl ?_
    rw [hd]
    refine qst rfl rfl (q_cs rfl hnum rfl rfl) ?_
    repeat refine stq rfl ?_
    refine qst rfl rfl (q_cs rfl m1 rfl rfl) ?_
    repeat refine stq rfl ?_
    refine qst rfl rfl (q_cs rfl a1 rfl rfl) ?_
    repeat refine stq rfl ?_
    refine ⟨i + 1,⟨by omega,fun h => by omega⟩,by omega,rfl,rfl,rfl,rfl,rfl,congrArg I hw,rfl,rfl,?_,trivial⟩
    show (_ : Nat × Option Cont) = (1,some (Cont.mk 26 4 [eR (ofQ (sumN (capT c.s c.m) (min (i + 1) (c.S.length - 1))))] 2))
    rw [show min (i + 1) (c.S.length - 1) = i + 1 by omega,hK1]
    rfl
   ·have := of_decide_eq_false h
    exfalso
    omega
  ·have hie : i + 1 = c.S.length := by omega
   have hiz := isZeroR (c.M.getD i RR.zero) (hx := mR_v c hc i) (by decide)
   have hbf : befQ c.m c.S.length = c.m i := by rw [← hie];rfl
   rw [show min i (c.S.length - 1) = i by omega]
   by_cases hm : c.m i = 0
   ·rw [decide_eq_true hm] at hiz
    repeat refine stq rfl ?_
    refine qst rfl rfl (q_idxm rfl rfl rfl rfl rfl (by omega) hx rfl) ?_
    repeat refine stq rfl ?_
    rw [hw]
    refine pw_cond rfl (fun h => ?_) (fun h => ?_)
    ·have := of_decide_eq_true h
     exfalso
     omega
    ·clear h
     repeat refine stq rfl ?_
     refine qst rfl rfl (q_idxm rfl rfl rfl rfl rfl (by omega) hmx rfl) ?_
     repeat refine stq rfl ?_
     refine qst rfl rfl (q_cp rfl hiz rfl rfl rfl) ?_
     repeat refine stq rfl ?_
     refine ⟨i + 1,⟨by omega,fun _ => by rw [hbf];exact hm⟩,by omega,rfl,rfl,rfl,rfl,rfl,congrArg I hw,rfl,rfl,?_,trivial⟩
     show (_ : Nat × Option Cont) = (1,some (Cont.mk 26 4 [eR (ofQ (sumN (capT c.s c.m) (min (i + 1) (c.S.length - 1))))] 2))
     rw [show min (i + 1) (c.S.length - 1) = i by omega]
     rfl
   ·rw [decide_eq_false hm] at hiz
    rw [if_neg (by rw [hbf];exact hm)] at hR
    subst hR
    repeat refine stq rfl ?_
    refine qst rfl rfl (q_idxm rfl rfl rfl rfl rfl (by omega) hx rfl) ?_
    repeat refine stq rfl ?_
    rw [hw]
    refine pw_cond rfl (fun h => ?_) (fun h => ?_)
    ·have := of_decide_eq_true h
     exfalso
     omega
    ·clear h
     repeat refine stq rfl ?_
     refine qst rfl rfl (q_idxm rfl rfl rfl rfl rfl (by omega) hmx rfl) ?_
     repeat refine stq rfl ?_
     refine qst rfl rfl (q_cp rfl hiz rfl rfl rfl) ?_
     repeat refine stq rfl ?_
     exact endm rfl (by repeat' constructor) rfl (by repeat' constructor) rfl
 ·have hie : i = c.S.length := by have := of_decide_eq_false h;omega
  clear h
  have hb := hlast hie
  rw [if_pos hb,cap_sum hb] at hR
  subst hR
  rw [show min i (c.S.length - 1) = c.S.length - 1 by omega]
  repeat refine stq rfl ?_
  exact endm rfl (by repeat' constructor) rfl (by repeat' constructor) rfl
end Go.Pv

