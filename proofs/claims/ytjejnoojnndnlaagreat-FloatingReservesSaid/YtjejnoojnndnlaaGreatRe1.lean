/- Texts of one hand, gathered: FsF, FsG, FsH, FsJ, FsK, FsL, FsO, FsP, FmJ, FsQ, FsI, FsR, FsS, FtB, FtC, FtD, FtF, FsT, FtG. -/
import Derived.Test.YtjejnoojnndnlaaGreatBc5
set_option linter.unusedSectionVars false
set_option linter.unusedSimpArgs false
set_option linter.unusedVariables false
set_option linter.unnecessarySimpa false
set_option maxHeartbeats 2000000
namespace Go.Pv
attribute [local irreducible] PWP POps PQuiet PSem XThen XBlock RetPost InlPost
open Go.Proofs
theorem pl_ret (x y : RR) {p q : Rat} {n m : Nat} [hx : Vq x p n] [hy : Vq y q m] (hn : n ≤ 20000000) (hm : m ≤ 20000000) : Ret Tryz.prog .shared 108 [.agg (eR x),.agg (eR y)] (.agg (eR (ofQ (p + q)))) := by
 have h := raddR_ret x y hn hm
 generalize ofQ (p + q) = X at *
 refine Ret.of_pwp layOk mixed Go.Proofs.Tryz.func108 rfl (by decide) rfl rfl ?_
 repeat refine stq rfl ?_
 refine qst rfl rfl (q_cs rfl h rfl rfl) ?_
 repeat refine stq rfl ?_
 exact endm rfl (by repeat' constructor) rfl (by repeat' constructor) rfl
theorem ti_ret (x y : RR) {p q : Rat} {n m : Nat} [hx : Vq x p n] [hy : Vq y q m] (hn : n ≤ 20000000) (hm : m ≤ 20000000) : Ret Tryz.prog .shared 111 [.agg (eR x),.agg (eR y)] (.agg (eR (ofQ (p * q)))) := by
 have h := rmulR_ret x y hn hm
 generalize ofQ (p * q) = X at *
 refine Ret.of_pwp layOk mixed Go.Proofs.Tryz.func111 rfl (by decide) rfl rfl ?_
 repeat refine stq rfl ?_
 refine qst rfl rfl (q_cs rfl h rfl rfl) ?_
 repeat refine stq rfl ?_
 exact endm rfl (by repeat' constructor) rfl (by repeat' constructor) rfl
theorem ls_ret (x y : RR) {p q : Rat} {n m : Nat} [hx : Vq x p n] [hy : Vq y q m] (hn : n ≤ 10000000) (hm : m ≤ 10000000) : Ret Tryz.prog .shared 112 [.agg (eR x),.agg (eR y)] (.agg (eR (ofQ (p - q)))) := by
 have h := rsubR_ret x y hn hm
 generalize ofQ (p - q) = X at *
 refine Ret.of_pwp layOk mixed Go.Proofs.Tryz.func112 rfl (by decide) rfl rfl ?_
 repeat refine stq rfl ?_
 refine qst rfl rfl (q_cs rfl h rfl rfl) ?_
 repeat refine stq rfl ?_
 exact endm rfl (by repeat' constructor) rfl (by repeat' constructor) rfl
theorem by_ret (x y : RR) {p q : Rat} {n m : Nat} [hx : Vq x p n] [hy : Vq y q m] (hn : n ≤ 20000000) (hm : m ≤ 20000000) (h0 : q ≠ 0) : Ret Tryz.prog .shared 138 [.agg (eR x),.agg (eR y)] (.agg (eR (ofQ (p / q)))) := by
 have h := rquoR_ret x y hn hm h0
 generalize ofQ (p / q) = X at *
 refine Ret.of_pwp layOk mixed Go.Proofs.Tryz.func138 rfl (by decide) rfl rfl ?_
 repeat refine stq rfl ?_
 refine qst rfl rfl (q_cs rfl h rfl rfl) ?_
 repeat refine stq rfl ?_
 exact endm rfl (by repeat' constructor) rfl (by repeat' constructor) rfl
theorem w0_ret : Ret Tryz.prog .shared 25 [I 0] (.agg (eR (ofQ 0))) := by
 have := bW_ret 0 ⟨by decide,by decide⟩
 rwa [show (((0 : Int) : Rat)) = 0 from rfl] at this
theorem sg_ret (x : RR) {p : Rat} {n : Nat} [hx : Vq x p n] (hn : n ≤ 8000000) : Ret Tryz.prog .shared 117 [.agg (eR x)] (I (sgn p)) := by
 have h0 := w0_ret
 have hc := rcmpR_ret x (ofQ 0) (by omega) (by decide)
 rw [Rat.sub_eq_add_neg,Rat.neg_zero,Rat.add_zero] at hc
 generalize sgn p = g at *
 generalize ofQ 0 = Z at *
 refine Ret.of_pwp layOk mixed Go.Proofs.Tryz.func117 rfl (by decide) rfl rfl ?_
 repeat refine stq rfl ?_
 refine pw_draw 4 [3,4,5,2] (by decide +kernel) ?_
 repeat refine stq rfl ?_
 refine qst rfl rfl (q_cs rfl h0 rfl rfl) ?_
 repeat refine stq rfl ?_
 refine qst rfl rfl (q_cp rfl hc rfl rfl rfl) ?_
 repeat refine stq rfl ?_
 exact end1i rfl rfl rfl
theorem s_hq {c : CR} (hc : c.Lim) (k : Nat) : HQ (c.s k) 4 := by
 have h := sI_zb hc k
 have z1 : Zb (c.S.getD k 0) := zb_i64 h.1 h.2
 exact HQ.int
theorem top_hq {c : CR} (hc : c.Lim) {p : Rat} {n N : Nat} (hp : HQ p n) (k : Nat) : HQ (topQ c.s N p k) (n + 4) := by
 rw [topQ]
 split
 ·rw [minQ]
  split
  ·exact (s_hq hc (k + 1)).mono (by omega)
  ·exact hp.mono (by omega)
 ·exact hp.mono (by omega)
theorem d_hq {c : CR} (hc : c.Lim) {p : Rat} {n N : Nat} (hp : HQ p n) (k : Nat) : HQ (topQ c.s N p k - c.s k) (n + 9) := (@HQ.sub _ _ _ _ (top_hq hc hp k) (s_hq hc k)).mono (by omega)
theorem m_hq {c : CR} (hc : c.Lim) (k : Nat) : HQ (c.m k) 13 := by
 rw [CR.m]
 by_cases hk : k < c.M.length
 ·exact ((hc.m _ (List.mem_of_getElem? (get_some (d := RR.zero) hk))).v).hq
 ·rw [List.getD_eq_getElem?_getD,List.getElem?_eq_none (by omega)]
  show HQ RR.zero.val 13
  rw [RR.zero_val];exact HQ.zero.mono (by decide)
theorem pos_hq {x : Rat} {n : Nat} (h : HQ x n) : HQ (posQ x) (n + 4) := by
 rw [posQ];split
 ·exact h.mono (by omega)
 ·exact HQ.zero.mono (by omega)
theorem piece_hq {c : CR} (hc : c.Lim) {p : Rat} {n N : Nat} (hp : HQ p n) (k : Nat) : HQ (pieceQ c.s c.m N p k) (n + 30) := (@HQ.mul _ _ 13 (n + 9 + 4) (m_hq hc k) (pos_hq (d_hq hc hp k))).mono (by omega)
noncomputable def tpR (c : CR) (y : RR) (p : Rat) (N i : Nat) : RR := @ite _ (i + 1 < N ∧ c.s (i + 1) < p) (Classical.propDecidable _) (ofQ (c.s (i + 1))) y
theorem tpR_v {c : CR} (hc : c.Lim) {y : RR} {p : Rat} {N i n : Nat} [hy : Vq y p n] : Vq (tpR c y p N i) (topQ c.s N p i) (n + 8) := by
 rw [tpR,topQ]
 by_cases h1 : i + 1 < N
 ·rw [if_pos h1,minQ]
  by_cases h2 : c.s (i + 1) < p
  ·rw [if_pos ⟨h1,h2⟩,if_pos h2]
   exact vq_mono (Vq.ofQ (h := s_hq hc (i + 1))) (by omega)
  ·rw [if_neg (fun h => h2 h.2),if_neg h2]
   exact vq_mono hy (by omega)
 ·rw [if_neg (fun h => h1 h.1),if_neg h1]
  exact vq_mono hy (by omega)
set_option maxRecDepth 20000 in
theorem rforce_ret (c : CR) (hc : c.Lim) (h0 : curveE c = 0) (y : RR) {p : Rat} {n : Nat} [hy : Vq y p n] (hn : n ≤ 100000) : Ret Tryz.prog .shared 134 [.agg (eC c),.agg (eR y)] (.agg (eR (ofQ (valQ c.S.length c.s c.m p)))) := by
 obtain ⟨h40,hSM,-,hasc⟩ := curve_ok h0
 have w0 := w0_ret
 have hph := hy.hq
 rw [valQ,ramp_piece fun i hi => hasc i hi]
 have hSm : (c.S.map eN).length = c.S.length := by simp
 have hB : ∀ i,i ≤ 40 → i * (n + 1 + 30 + 1) + 4 ≤ 5000000 := fun i hi => by have := Nat.mul_le_mul hi (Nat.le_refl (n + 1 + 30 + 1));omega
 have vs : ∀ i,Vq (ofQ (sumN (pieceQ c.s c.m c.S.length p) i)) (sumN (pieceQ c.s c.m c.S.length p) i) (i * (n + 1 + 30 + 1) + 4) := fun i => Vq.ofQ (h := sumN_hq i fun k _ => piece_hq hc hph k)
 generalize hN : c.S.length = N at *
 refine Ret.of_pwp layOk mixed Go.Proofs.Tryz.func134 rfl (by decide) rfl rfl ?_
 repeat refine stq rfl ?_
 refine qst rfl rfl (q_cs rfl w0 rfl rfl) ?_
 repeat refine stq rfl ?_
 refine pw_loop (fun i : Nat => i ≤ N) (fun i => [(2,.ptr 2 1 0 0),(3,.ptr 3 1 0 0),(4,.ptr 4 1 0 0),(5,.ptr 5 1 0 0),(6,I (i : Nat))])
  (fun i => [(2,1,⟨120,2,[eC c],2⟩),(3,1,⟨26,4,[eR y],2⟩),(4,1,⟨26,4,[zN],2⟩),(5,1,⟨26,4,[eR (ofQ (sumN (pieceQ c.s c.m N p) i))],2⟩)]) (fun i => N - i) 0 (Nat.zero_le _) ⟨rfl,rfl,rfl,rfl,rfl,rfl,rfl,rfl,rfl,trivial⟩ ?_
 intro i s hi
 repeat refine stq rfl ?_
 refine pw_cond rfl (fun h => ?_) (fun h => ?_)
 ·have hlt : i < N := by have := of_decide_eq_true h;rw [hSm] at this;omega
  clear h
  have hx := get_some (l := c.S) (i := i) (d := 0) (by omega)
  have hmx := get_some (l := c.M) (i := i) (d := RR.zero) (by omega)
  have hxi := hc.s _ (List.mem_of_getElem? hx)
  have hmv := (hc.m _ (List.mem_of_getElem? hmx)).v
  have hw := bW_ret _ hxi
  have hnx : IntKind.i64.wrap (((i : Nat) : Int) + 1) = ((i + 1 : Nat) : Int) := by rw [wrap_i64 (by omega) (by omega)];omega
  (repeat ((fail_if_success (with_reducible refine pw_at 5 ?_));refine stx rfl ?_))
  iterate 6 refine stq rfl ?_
  refine pw_cut [(2,.ptr 2 1 0 0),(3,.ptr 3 1 0 0),(4,.ptr 4 1 0 0),(5,.ptr 5 1 0 0),(6,I (i : Nat)),(7,.ptr 7 ((s.own 7).1 + 1) 0 0)]
   [(2,1,⟨120,2,[eC c],2⟩),(3,1,⟨26,4,[eR y],2⟩),(4,1,⟨26,4,[zN],2⟩),(5,1,⟨26,4,[eR (ofQ (sumN (pieceQ c.s c.m N p) i))],2⟩),(7,(s.own 7).1 + 1,⟨26,4,[eR (tpR c y p N i)],2⟩)] ?_ (fun s3 => ?_)
  ·by_cases h1 : i + 1 < N
   ·have hx1 := get_some (l := c.S) (i := i + 1) (d := 0) (by omega)
    have hw1 := bW_ret _ (hc.s _ (List.mem_of_getElem? hx1))
    have zb1 : Zb (c.S.getD (i + 1) 0) := zb_i64 (hc.s _ (List.mem_of_getElem? hx1)).1 (hc.s _ (List.mem_of_getElem? hx1)).2
    have hc1 := rcmpR_ret y (ofQ ((c.S.getD (i + 1) 0 : Int) : Rat)) (by omega) (by decide)
    have hg := sgn_gt (p - ((c.S.getD (i + 1) 0 : Int) : Rat))
    have htp : tpR c y p N i = if 0 < sgn (p - ((c.S.getD (i + 1) 0 : Int) : Rat)) then ofQ ((c.S.getD (i + 1) 0 : Int) : Rat) else y := by
     rw [tpR]
     by_cases hlt1 : c.s (i + 1) < p
     ·rw [if_pos ⟨h1,hlt1⟩,if_pos (hg.2 (by have : ((c.S.getD (i + 1) 0 : Int) : Rat) < p := hlt1;grind))];rfl
     ·rw [if_neg (fun h => hlt1 h.2),if_neg (fun h => hlt1 (by have := hg.1 h;show ((c.S.getD (i + 1) 0 : Int) : Rat) < p;grind))]
    rw [htp]
    clear hg htp
    generalize sgn (p - ((c.S.getD (i + 1) 0 : Int) : Rat)) = sg at *
    generalize hW1 : ofQ ((c.S.getD (i + 1) 0 : Int) : Rat) = W1 at *
    generalize c.S.getD (i + 1) 0 = x1 at *
    repeat refine stq rfl ?_
    refine pw_draw 18 [18,19,20,21,22,23,24,25,26,27,28,29,30,31,32,33,34,35] (by decide +kernel) ?_
    repeat refine stq rfl ?_
    rw [hnx]
    repeat refine stq rfl ?_
    (first|refine ps_split rfl rfl ?_ ?_|refine pq_split rfl rfl ?_ ?_|refine p3_split rfl rfl ?_ ?_)<;>intro h
    ·clear h
     repeat refine stq rfl ?_
     rw [hnx]
     refine qst rfl rfl (q_idxm rfl rfl rfl rfl rfl (by omega) hx1 rfl) ?_
     repeat refine stq rfl ?_
     refine qst rfl rfl (q_cs rfl hw1 rfl rfl) ?_
     repeat refine stq rfl ?_
     refine qst rfl rfl (q_cp rfl hc1 rfl rfl rfl) ?_
     repeat refine stq rfl ?_
     refine pw_cond rfl (fun h => ?_) (fun h => ?_)
     ·rw [if_pos (of_decide_eq_true h)]
      clear h
      repeat refine stq rfl ?_
      rw [hnx]
      refine qst rfl rfl (q_idxm rfl rfl rfl rfl rfl (by omega) hx1 rfl) ?_
      repeat refine stq rfl ?_
      refine qst rfl rfl (q_cs rfl hw1 rfl rfl) ?_
      repeat refine stq rfl ?_
      exact ⟨rfl,rfl,rfl,rfl,rfl,rfl,rfl,rfl,rfl,rfl,rfl,trivial⟩
     ·rw [if_neg (of_decide_eq_false h)]
      clear h
      repeat refine stq rfl ?_
      exact ⟨rfl,rfl,rfl,rfl,rfl,rfl,rfl,rfl,rfl,rfl,rfl,trivial⟩
    ·exfalso
     have := of_decide_eq_false h
     rw [hSm] at this
     omega
   ·have htp : tpR c y p N i = y := by rw [tpR,if_neg (fun h => h1 h.1)]
    rw [htp]
    clear htp
    repeat refine stq rfl ?_
    refine pw_draw 18 [18,19,20,21,22,23,24,25,26,27,28,29,30,31,32,33,34,35] (by decide +kernel) ?_
    repeat refine stq rfl ?_
    rw [hnx]
    repeat refine stq rfl ?_
    (first|refine ps_split rfl rfl ?_ ?_|refine pq_split rfl rfl ?_ ?_|refine p3_split rfl rfl ?_ ?_)<;>intro h
    ·exfalso
     have := of_decide_eq_true h
     rw [hSm] at this
     omega
    ·clear h
     repeat refine stq rfl ?_
     exact ⟨rfl,rfl,rfl,rfl,rfl,rfl,rfl,rfl,rfl,rfl,rfl,trivial⟩
  have vT : Vq (tpR c y p N i) (topQ c.s N p i) (n + 8) := tpR_v hc
  have zbi : Zb (c.S.getD i 0) := zb_i64 hxi.1 hxi.2
  have e1 := ls_ret (tpR c y p N i) (ofQ ((c.S.getD i 0 : Int) : Rat)) (hx := vT) (by omega) (by decide)
  rw [show topQ c.s N p i - ((c.S.getD i 0 : Int) : Rat) = topQ c.s N p i - c.s i from rfl] at e1
  have vD : Vq (ofQ (topQ c.s N p i - c.s i)) (topQ c.s N p i - c.s i) (n + 1 + 9) := Vq.ofQ (h := d_hq hc hph i)
  have e2 := sg_ret (ofQ (topQ c.s N p i - c.s i)) (hx := vD) (by omega)
  have e3 := ti_ret (c.M.getD i RR.zero) (ofQ (topQ c.s N p i - c.s i)) (hx := hmv) (hy := vD) (by decide) (by omega)
  have hg := sgn_gt (topQ c.s N p i - c.s i)
  have hP : pieceQ c.s c.m N p i = (c.M.getD i RR.zero).val * posQ (topQ c.s N p i - c.s i) := rfl
  have hS : sumN (pieceQ c.s c.m N p) (i + 1) = sumN (pieceQ c.s c.m N p) i + pieceQ c.s c.m N p i := rfl
  by_cases hd : 0 < topQ c.s N p i - c.s i
  ·rw [posQ,if_pos hd] at hP
   rw [← hP] at e3
   have vP : Vq (ofQ (pieceQ c.s c.m N p i)) (pieceQ c.s c.m N p i) (n + 1 + 30) := Vq.ofQ (h := piece_hq hc hph i)
   have e4 := pl_ret (ofQ (sumN (pieceQ c.s c.m N p) i)) (ofQ (pieceQ c.s c.m N p i)) (hx := vs i) (hy := vP) (by have := hB i (by omega);omega) (by omega)
   rw [← hS] at e4
   have hgt := hg.2 hd
   generalize hSN : ofQ (sumN (pieceQ c.s c.m N p) (i + 1)) = S1 at *
   generalize ofQ (sumN (pieceQ c.s c.m N p) i) = S0 at *
   generalize ofQ (pieceQ c.s c.m N p i) = P0 at *
   generalize sgn (topQ c.s N p i - c.s i) = sg at *
   generalize ofQ (topQ c.s N p i - c.s i) = D0 at *
   generalize tpR c y p N i = T0 at *
   generalize ofQ ((c.S.getD i 0 : Int) : Rat) = W0 at *
   generalize c.S.getD i 0 = x0 at *
   generalize c.M.getD i RR.zero = m0 at *
   refine pw_seq ?_
   refine pw_ghost (gdrop 8) ?_
   refine pw_draw2 8 1 [43,44,45,46,47,48,49,50,8] [] (by decide +kernel) rfl ?_
   repeat refine stq rfl ?_
   refine qst rfl rfl (q_idxm rfl rfl rfl rfl rfl (by omega) hx rfl) ?_
   repeat refine stq rfl ?_
   refine qst rfl rfl (q_cs rfl hw rfl rfl) ?_
   repeat refine stq rfl ?_
   refine qst rfl rfl (q_cs rfl e1 rfl rfl) ?_
   repeat refine stq rfl ?_
   refine qst rfl rfl (q_cp rfl e2 rfl rfl rfl) ?_
   repeat refine stq rfl ?_
   refine pw_cond rfl (fun h => ?_) (fun h => ?_)
   ·clear h
    repeat refine stq rfl ?_
    refine pw_draw 9 [54,55,56,57,58,59,60,61,62] (by decide +kernel) ?_
    repeat refine stq rfl ?_
    refine qst rfl rfl (q_idxm rfl rfl rfl rfl rfl (by omega) hmx rfl) ?_
    repeat refine stq rfl ?_
    refine qst rfl rfl (q_cs rfl e3 rfl rfl) ?_
    repeat refine stq rfl ?_
    refine qst rfl rfl (q_cs rfl e4 rfl rfl) ?_
    repeat refine stq rfl ?_
    refine ⟨i + 1,hlt,by omega,rfl,rfl,rfl,rfl,congrArg I hnx,rfl,rfl,rfl,?_,trivial⟩
    show (_ : Nat × Option Cont) = (1,some (Cont.mk 26 4 [eR (ofQ (sumN (pieceQ c.s c.m N p) (i + 1)))] 2))
    rw [hSN]
    rfl
   ·exact absurd hgt (of_decide_eq_false h)
  ·rw [posQ,if_neg hd,Rat.mul_zero] at hP
   rw [hP,Rat.add_zero] at hS
   have hgt : ¬ 0 < sgn (topQ c.s N p i - c.s i) := fun h => hd (hg.1 h)
   rw [← hS]
   generalize hSN : ofQ (sumN (pieceQ c.s c.m N p) (i + 1)) = S0 at *
   generalize sgn (topQ c.s N p i - c.s i) = sg at *
   generalize ofQ (topQ c.s N p i - c.s i) = D0 at *
   generalize tpR c y p N i = T0 at *
   generalize ofQ ((c.S.getD i 0 : Int) : Rat) = W0 at *
   generalize c.S.getD i 0 = x0 at *
   refine pw_seq ?_
   refine pw_ghost (gdrop 8) ?_
   refine pw_draw2 8 1 [43,44,45,46,47,48,49,50,8] [] (by decide +kernel) rfl ?_
   repeat refine stq rfl ?_
   refine qst rfl rfl (q_idxm rfl rfl rfl rfl rfl (by omega) hx rfl) ?_
   repeat refine stq rfl ?_
   refine qst rfl rfl (q_cs rfl hw rfl rfl) ?_
   repeat refine stq rfl ?_
   refine qst rfl rfl (q_cs rfl e1 rfl rfl) ?_
   repeat refine stq rfl ?_
   refine qst rfl rfl (q_cp rfl e2 rfl rfl rfl) ?_
   repeat refine stq rfl ?_
   refine pw_cond rfl (fun h => ?_) (fun h => ?_)
   ·exact absurd (of_decide_eq_true h) hgt
   ·clear h
    repeat refine stq rfl ?_
    refine ⟨i + 1,hlt,by omega,rfl,rfl,rfl,rfl,congrArg I hnx,rfl,rfl,rfl,?_,trivial⟩
    show (_ : Nat × Option Cont) = (1,some (Cont.mk 26 4 [eR (ofQ (sumN (pieceQ c.s c.m N p) (i + 1)))] 2))
    rw [hSN]
    rfl
 ·have hie : i = N := by have := of_decide_eq_false h;rw [hSm] at this;omega
  clear h
  subst hie
  repeat refine stq rfl ?_
  exact endm rfl (by repeat' constructor) rfl (by repeat' constructor) rfl
end Go.Pv


set_option maxHeartbeats 2000000
namespace Go.Pv
attribute [local irreducible] PWP POps PQuiet PSem XThen XBlock RetPost InlPost
open Go.Proofs
def mostV (c : CR) : Rat := if c.S.length = 0 then 0 else valQ c.S.length c.s c.m (c.s (c.S.length - 1))
theorem most_cap {c : CR} (h0 : curveE c = 0) (hl : befQ c.m c.S.length = 0) : mostV c = capQ c.S.length c.s c.m := by
 rw [mostV]
 split
 ·rename_i h
  rw [h,capQ,offQ,sumN];grind
 ·rename_i h
  refine val_last (curve_crv h0) ⟨Nat.le_refl _,fun k hk => ?_,fun hlt => by omega⟩ hl
  have : c.S.length - 1 = k := by omega
  rw [this]
  exact Rat.le_refl
set_option maxRecDepth 20000 in
theorem rmost_ret (c : CR) (hc : c.Lim) (h0 : curveE c = 0) : Ret Tryz.prog .shared 118 [.agg (eC c)] (.tup [.agg (eR (ofQ (mostV c))),.bool (decide (befQ c.m c.S.length = 0))]) := by
 obtain ⟨h40,hSM,-,hasc⟩ := curve_ok h0
 have w0 := w0_ret
 have hSm : (c.S.map eN).length = c.S.length := by simp
 by_cases hz : c.S.length = 0
 ·rw [mostV,if_pos hz,hz,befQ,decide_eq_true rfl]
  generalize ofQ 0 = Z at *
  refine Ret.of_pwp layOk mixed Go.Proofs.Tryz.func118 rfl (by decide) rfl rfl ?_
  repeat refine stq rfl ?_
  refine pw_cond rfl (fun h => ?_) (fun h => ?_)
  ·clear h
   repeat refine stq rfl ?_
   refine qst rfl rfl (q_cs rfl w0 rfl rfl) ?_
   repeat refine stq rfl ?_
   exact endm rfl (by repeat' constructor) rfl (by repeat' constructor) rfl
  ·exfalso
   have := of_decide_eq_false h
   omega
 ·rw [mostV,if_neg hz]
  obtain ⟨j,hj⟩ : ∃ j,c.S.length = j + 1 := ⟨c.S.length - 1,by omega⟩
  have hx := get_some (l := c.S) (i := j) (d := 0) (by omega)
  have hmx := get_some (l := c.M) (i := j) (d := RR.zero) (by omega)
  have hxi := hc.s _ (List.mem_of_getElem? hx)
  have hmv := (hc.m _ (List.mem_of_getElem? hmx)).v
  have hw := bW_ret _ hxi
  have zbi : Zb (c.S.getD j 0) := zb_i64 hxi.1 hxi.2
  have hf := rforce_ret c hc h0 (ofQ ((c.S.getD j 0 : Int) : Rat)) (by decide)
  have hs := sg_ret (c.M.getD j RR.zero) (hx := hmv) (by decide)
  have hw1 : IntKind.i64.wrap ((((c.S.map eN).length : Nat) : Int) - 1) = (j : Nat) := by rw [hSm,hj,wrap_i64 (by omega) (by omega)];omega
  have e0 := sgn_eq (c.M.getD j RR.zero).val
  have e1 : decide (befQ c.m c.S.length = 0) = decide (sgn (c.M.getD j RR.zero).val = 0) := by rw [decide_eq_decide,e0,hj,befQ];rfl
  rw [e1,show c.s (c.S.length - 1) = ((c.S.getD j 0 : Int) : Rat) by rw [hj];rfl]
  clear e0 e1
  generalize ofQ (valQ c.S.length c.s c.m ((c.S.getD j 0 : Int) : Rat)) = V at *
  generalize sgn (c.M.getD j RR.zero).val = sg at *
  generalize ofQ ((c.S.getD j 0 : Int) : Rat) = W0 at *
  generalize c.S.getD j 0 = x0 at *
  generalize c.M.getD j RR.zero = m0 at *
  refine Ret.of_pwp layOk mixed Go.Proofs.Tryz.func118 rfl (by decide) rfl rfl ?_
  repeat refine stq rfl ?_
  refine pw_cond rfl (fun h => ?_) (fun h => ?_)
  ·exfalso
   have := of_decide_eq_true h
   omega
  clear h
  repeat refine stq rfl ?_
  refine pw_draw3 [2] [17] (by decide +kernel) ?_
  repeat refine stq rfl ?_
  rw [hw1]
  refine qst rfl rfl (q_idxm rfl rfl rfl rfl rfl (by omega) hx rfl) ?_
  repeat refine stq rfl ?_
  refine qst rfl rfl (q_cs rfl hw rfl rfl) ?_
  repeat refine stq rfl ?_
  refine qst rfl rfl (q_cs rfl hf rfl rfl) ?_
  repeat refine stq rfl ?_
  rw [hw1]
  refine qst rfl rfl (q_idxm rfl rfl rfl rfl rfl (by omega) hmx rfl) ?_
  repeat refine stq rfl ?_
  refine qst rfl rfl (q_cp rfl hs rfl rfl rfl) ?_
  repeat refine stq rfl ?_
  exact endm rfl (by repeat' constructor) rfl (by repeat' constructor) rfl
end Go.Pv


set_option maxHeartbeats 2000000
namespace Go.Pv
attribute [local irreducible] PWP POps PQuiet PSem XThen XBlock RetPost InlPost
open Go.Proofs
end Go.Pv


set_option maxHeartbeats 2000000
namespace Go.Pv
attribute [local irreducible] PWP POps PQuiet PSem XThen XBlock RetPost InlPost
open Go.Proofs
end Go.Pv


set_option maxHeartbeats 2000000
namespace Go.Pv
attribute [local irreducible] PWP POps PQuiet PSem XThen XBlock RetPost InlPost
open Go.Proofs
end Go.Pv


set_option maxHeartbeats 2000000
namespace Go.Pv
attribute [local irreducible] PWP POps PQuiet PSem XThen XBlock RetPost InlPost
open Go.Proofs
end Go.Pv


set_option maxHeartbeats 2000000
namespace Go.Pv
attribute [local irreducible] PWP POps PQuiet PSem XThen XBlock RetPost InlPost
open Go.Proofs
end Go.Pv


set_option maxHeartbeats 2000000
namespace Go.Pv
attribute [local irreducible] PWP POps PQuiet PSem XThen XBlock RetPost InlPost
open Go.Proofs
end Go.Pv


namespace Go.Pv
theorem asc_ext : ∀ {l m : List Int},l.Pairwise (· < ·) → m.Pairwise (· < ·) → (∀ x,x ∈ l ↔ x ∈ m) → l = m
 |[],[],_,_,_ => rfl
 |[],y :: m,_,_,h => by have := (h y).2 (by simp);cases this
 |x :: l,[],_,_,h => by have := (h x).1 (by simp);cases this
 |x :: l,y :: m,hl,hm,h => by
  obtain ⟨hl1,hl2⟩ := List.pairwise_cons.1 hl
  obtain ⟨hm1,hm2⟩ := List.pairwise_cons.1 hm
  have hxy : x = y := by
   have h1 := (h x).1 (by simp)
   have h2 := (h y).2 (by simp)
   rcases List.mem_cons.1 h1 with e | e
   ·exact e
   ·rcases List.mem_cons.1 h2 with e2 | e2
    ·exact e2.symm
    ·have := hm1 x e
     have := hl1 y e2
     omega
  subst hxy
  congr 1
  refine asc_ext hl2 hm2 fun z => ⟨fun hz => ?_,fun hz => ?_⟩
  ·rcases List.mem_cons.1 ((h z).1 (List.mem_cons_of_mem _ hz)) with e | e
   ·have := hl1 z hz;omega
   ·exact e
  ·rcases List.mem_cons.1 ((h z).2 (List.mem_cons_of_mem _ hz)) with e | e
   ·have := hm1 z hz;omega
   ·exact e
theorem compact_asc {l : List Int} (hs : l.Pairwise (· ≤ ·)) : (Lib.compact l).Pairwise (· < ·) := by
 rw [Lib.compact,Lib.compactUpTo,List.pairwise_map]
 have h : ((List.range l.length).filter (Lib.keeps l.toArray)).Pairwise (· < ·) := List.pairwise_lt_range.filter _
 refine h.imp_of_mem fun {i j} hi hj hij => ?_
 have hi := List.mem_range.1 (List.mem_filter.1 hi).1
 have hk := (List.mem_filter.1 hj).2
 have hj := List.mem_range.1 (List.mem_filter.1 hj).1
 simp only [List.getElem!_toArray]
 rw [Lib.keeps,decide_eq_true_eq] at hk
 simp only [List.getElem!_toArray] at hk
 rw [getElem!_pos l j hj,getElem!_pos l (j - 1) (by omega)] at hk
 rw [getElem!_pos l j hj,getElem!_pos l i hi]
 have h1 : l[i] ≤ l[j - 1] := by
  rcases Nat.lt_or_ge i (j - 1) with g | g
  ·exact List.pairwise_iff_getElem.1 hs i (j - 1) hi (by omega) g
  ·have : i = j - 1 := by omega
   subst this;exact Int.le_refl _
 have h2 : l[j - 1] ≤ l[j] := List.pairwise_iff_getElem.1 hs (j - 1) j (by omega) hj (by omega)
 rcases hk with hk | hk
 ·omega
 ·omega
theorem places_asc (l : List SR) : (placesL l).Pairwise (· < ·) := by
 refine compact_asc ?_
 have := List.pairwise_mergeSort (le := fun x y : Int => decide (x ≤ y)) (fun a b c h1 h2 => by simp at *;omega) (fun a b => by simp;omega) (l.map (·.x))
 refine List.Pairwise.imp ?_ this
 intro a b h
 simpa using h
theorem places_iff {l : List SR} {x : Int} : x ∈ placesL l ↔ ∃ s ∈ l,s.x = x := ⟨places_mem,fun ⟨_,hs,e⟩ => e ▸ mem_places hs⟩
def minL : List Rat → Option Rat
 |[] => none
 |x :: l => some (match minL l with
  |none => x
  |some y => if x < y then x else y)
theorem minL_none {l : List Rat} : minL l = none ↔ l = [] := by cases l <;> simp [minL]
theorem minL_some : ∀ {l : List Rat} {m : Rat},minL l = some m ↔ m ∈ l ∧ ∀ x ∈ l,m ≤ x
 |[],m => by simp [minL]
 |x :: l,m => by
  rw [minL]
  cases h : minL l with
  |none =>
   have := minL_none.1 h
   subst this
   simp only [Option.some.injEq,List.mem_singleton,forall_eq]
   constructor
   ·rintro rfl;exact ⟨rfl,Rat.le_refl⟩
   ·rintro ⟨rfl,_⟩;rfl
  |some y =>
   obtain ⟨h1,h2⟩ := minL_some.1 h
   simp only [Option.some.injEq,List.mem_cons]
   constructor
   ·rintro rfl
    split
    ·rename_i hlt
     refine ⟨.inl rfl,fun z hz => ?_⟩
     rcases hz with rfl | hz
     ·exact Rat.le_refl
     ·have := h2 z hz;grind
    ·rename_i hlt
     refine ⟨.inr h1,fun z hz => ?_⟩
     rcases hz with rfl | hz
     ·grind
     ·exact h2 z hz
   ·rintro ⟨h3,h4⟩
    have h5 := h4 x (.inl rfl)
    have h6 := h4 y (.inr h1)
    split
    ·rcases h3 with rfl | h3
     ·rfl
     ·have := h2 m h3;grind
    ·rcases h3 with rfl | h3
     ·grind
     ·have := h2 m h3;grind
theorem minL_ext {l m : List Rat} (h : ∀ x,x ∈ l ↔ x ∈ m) : minL l = minL m := by
 cases hl : minL l with
 |none =>
  have e := minL_none.1 hl
  subst e
  have : m = [] := List.eq_nil_iff_forall_not_mem.2 fun x hx => by have := (h x).2 hx;cases this
  subst this;rfl
 |some x =>
  obtain ⟨h1,h2⟩ := minL_some.1 hl
  exact (minL_some.2 ⟨(h x).1 h1,fun y hy => h2 y ((h y).2 hy)⟩).symm
theorem minL_snoc {l : List Rat} {x : Rat} : minL (l ++ [x]) = some (match minL l with
  |none => x
  |some y => if x < y then x else y) := by
 rw [minL_ext (m := x :: l) (fun z => by simp [or_comm])]
 rfl
end Go.Pv


set_option maxHeartbeats 2000000
namespace Go.Pv
attribute [local irreducible] PWP POps PQuiet PSem XThen XBlock RetPost InlPost
open Go.Proofs
theorem split_lt {A : List Int} {x : Int} {j : Nat} (hA : A.Pairwise (· < ·)) {y : Int} (hy : A[j]? = some y) (hx : x < y) : ∀ z ∈ A.drop j,x < z := by
 obtain ⟨hl,e⟩ := List.getElem?_eq_some_iff.1 hy
 have h := hA.sublist (List.drop_sublist j A)
 rw [List.drop_eq_getElem_cons hl,e] at h ⊢
 intro z hz
 rcases List.mem_cons.1 hz with rfl | hz
 ·exact hx
 ·have := (List.pairwise_cons.1 h).1 z hz;omega
theorem ins_asc {A : List Int} {x : Int} {j : Nat} (hA : A.Pairwise (· < ·)) (h1 : ∀ y ∈ A.take j,y < x) (h2 : ∀ y ∈ A.drop j,x < y) : (A.take j ++ [x] ++ A.drop j).Pairwise (· < ·) := by
 have h3 := hA.sublist (List.take_sublist j A)
 have h4 := hA.sublist (List.drop_sublist j A)
 rw [List.pairwise_append,List.pairwise_append]
 refine ⟨⟨h3,List.pairwise_singleton _ _,fun a ha b hb => ?_⟩,h4,fun a ha b hb => ?_⟩
 ·rw [List.mem_singleton.1 hb];exact h1 a ha
 ·have hb2 := h2 b hb
  rcases List.mem_append.1 ha with ha | ha
  ·have := h1 a ha;omega
  ·rw [List.mem_singleton.1 ha];exact hb2
theorem ins_mem {A : List Int} {x : Int} {j : Nat} (z : Int) : z ∈ A.take j ++ [x] ++ A.drop j ↔ z ∈ A ∨ z = x := by
 have h : z ∈ A ↔ z ∈ A.take j ∨ z ∈ A.drop j := by rw [← List.mem_append,List.take_append_drop]
 rw [h];simp only [List.mem_append,List.mem_singleton]
 constructor
 ·rintro ((q | q) | q)
  ·exact .inl (.inl q)
  ·exact .inr q
  ·exact .inl (.inr q)
 ·rintro ((q | q) | q)
  ·exact .inl (.inl q)
  ·exact .inr q
  ·exact .inl (.inr q)
theorem ins_len {A : List Int} {x : Int} {j : Nat} : (A.take j ++ [x] ++ A.drop j).length = A.length + 1 := by simp;omega
def PlInv (l : List SR) (i : Nat) (A : List Int) : Prop := A.length ≤ i ∧ A.Pairwise (· < ·) ∧ ∀ x,x ∈ A ↔ ∃ s ∈ l.take i,s.x = x
theorem pl_mem {l : List SR} {i : Nat} {s : SR} (hs : l[i]? = some s) (x : Int) : (∃ q ∈ l.take (i + 1),q.x = x) ↔ (∃ q ∈ l.take i,q.x = x) ∨ x = s.x := by
 rw [take_snocU hs]
 constructor
 ·rintro ⟨q,hq,rfl⟩
  rcases List.mem_append.1 hq with hq | hq
  ·exact .inl ⟨q,hq,rfl⟩
  ·rw [List.mem_singleton.1 hq];exact .inr rfl
 ·rintro (⟨q,hq,rfl⟩ | rfl)
  ·exact ⟨q,List.mem_append_left _ hq,rfl⟩
  ·exact ⟨s,List.mem_append_right _ (List.mem_singleton_self _),rfl⟩
theorem PlInv.same {l : List SR} {i : Nat} {A : List Int} {s : SR} (h : PlInv l i A) (hs : l[i]? = some s) (hm : s.x ∈ A) : PlInv l (i + 1) A := by
 obtain ⟨h1,h2,h3⟩ := h
 refine ⟨by omega,h2,fun x => ?_⟩
 rw [pl_mem hs,← h3]
 constructor
 ·exact .inl
 ·rintro (h | rfl)
  ·exact h
  ·exact hm
theorem PlInv.more {l : List SR} {i : Nat} {A : List Int} {s : SR} (h : PlInv l i A) (hs : l[i]? = some s) {j : Nat} (g1 : ∀ y ∈ A.take j,y < s.x) (g2 : ∀ y ∈ A.drop j,s.x < y) : PlInv l (i + 1) (A.take j ++ [s.x] ++ A.drop j) := by
 obtain ⟨h1,h2,h3⟩ := h
 refine ⟨by rw [ins_len];omega,ins_asc h2 g1 g2,fun x => ?_⟩
 rw [ins_mem,pl_mem hs,← h3]
theorem PlInv.all {l : List SR} {A : List Int} (h : PlInv l l.length A) : A = placesL l := by
 obtain ⟨-,h2,h3⟩ := h
 rw [List.take_length] at h3
 exact asc_ext h2 (places_asc l) fun x => by rw [h3,places_iff]
theorem eN_len (z : Int) : (eN z).length = 1 := rfl
set_option maxRecDepth 20000 in
theorem rplaces_ret (l : List SR) (h12 : l.length ≤ 1000) : Ret Tryz.prog .shared 103 [.sl (l.map eS)] (.sl ((placesL l).map eN)) := by
 have hml : (l.map eS).length = l.length := by simp
 refine Ret.of_pwp layOk mixed Go.Proofs.Tryz.func103 rfl (by decide) rfl rfl ?_
 repeat refine stq rfl ?_
 refine pw_ghost (Ghost.nilsl (t := 3) rfl) ?_
 refine pw_loop (fun q : Nat × List Int => q.1 ≤ l.length ∧ PlInv l q.1 q.2) (fun q => [(0,.sl (l.map eS)),(3,.sl (q.2.map eN)),(4,I (q.1 : Nat))]) (fun _ => []) (fun q => l.length - q.1) (0,[]) ⟨Nat.zero_le _,Nat.le_refl _,.nil,by simp⟩ ⟨rfl,rfl,rfl,trivial⟩ ?_
 rintro ⟨i,A⟩ s ⟨hi,hA⟩
 simp only at hi hA
 dsimp only
 repeat refine stq rfl ?_
 refine pw_cond rfl (fun h => ?_) (fun h => ?_)
 ·have hlt : i < l.length := by have := of_decide_eq_true h;omega
  clear h
  obtain ⟨x,hx⟩ := get_lt hlt
  have hAl := hA.1
  have hmA : (A.map eN).length = A.length := by simp
  have hw : IntKind.i64.wrap (((i : Nat) : Int) + 1) = ((i + 1 : Nat) : Int) := by rw [wrap_i64 (by omega) (by omega)];omega
  repeat refine stq rfl ?_
  refine pw_loop (fun j : Nat => j ≤ A.length ∧ ∀ y ∈ A.take j,y < x.x) (fun j => [(0,.sl (l.map eS)),(3,.sl (A.map eN)),(4,I (i : Nat)),(5,I (j : Nat))]) (fun _ => []) (fun j => A.length - j) 0 ⟨Nat.zero_le _,by simp⟩ ⟨rfl,rfl,rfl,rfl,trivial⟩ ?_
  intro j s ⟨hj,hjl⟩
  have hwj : IntKind.i64.wrap (((j : Nat) : Int) + 1) = ((j + 1 : Nat) : Int) := by rw [wrap_i64 (by omega) (by omega)];omega
  repeat refine stq rfl ?_
  refine pw_draw 16 [13,14,15,16,17,18,19,20,21,22,23,24,25,26,27,28] (by decide +kernel) ?_
  repeat refine stq rfl ?_
  (first|refine ps_split rfl rfl ?_ ?_|refine pq_split rfl rfl ?_ ?_|refine p3_split rfl rfl ?_ ?_)<;>intro h
  ·have hjlt : j < A.length := by have := of_decide_eq_true h;omega
   clear h
   obtain ⟨y,hy⟩ := get_lt hjlt
   repeat refine stq rfl ?_
   refine qst rfl rfl (q_idxm rfl rfl rfl rfl rfl (by omega) hy rfl) ?_
   repeat refine stq rfl ?_
   refine qst rfl rfl (q_idxm rfl rfl rfl rfl rfl (by omega) hx rfl) ?_
   repeat refine stq rfl ?_
   refine pw_cond rfl (fun h => ?_) (fun h => ?_)
   ·have hyx : y < x.x := of_decide_eq_true h
    clear h
    repeat refine stq rfl ?_
    refine ⟨j + 1,⟨hjlt,fun z hz => ?_⟩,by omega,rfl,rfl,rfl,congrArg I hwj,trivial⟩
    rw [take_snocU hy] at hz
    rcases List.mem_append.1 hz with hz | hz
    ·exact hjl z hz
    ·rw [List.mem_singleton.1 hz];exact hyx
   ·have hyx : ¬ y < x.x := of_decide_eq_false h
    clear h
    repeat refine stq rfl ?_
    refine pw_draw 16 [31,32,33,34,35,36,37,38,39,40,41,42,43,44,45,46] (by decide +kernel) ?_
    repeat refine stq rfl ?_
    (first|refine ps_split rfl rfl ?_ ?_|refine pq_split rfl rfl ?_ ?_|refine p3_split rfl rfl ?_ ?_)<;>intro h
    rotate_left
    ·exfalso
     have := of_decide_eq_false h
     omega
    clear h
    repeat refine stq rfl ?_
    refine qst rfl rfl (q_idxm rfl rfl rfl rfl rfl (by omega) hy rfl) ?_
    repeat refine stq rfl ?_
    refine qst rfl rfl (q_idxm rfl rfl rfl rfl rfl (by omega) hx rfl) ?_
    repeat refine stq rfl ?_
    refine pw_cond rfl (fun h => ?_) (fun h => ?_)
    ·have hxy : y = x.x := of_decide_eq_true h
     clear h
     repeat refine stq rfl ?_
     exact ⟨(i + 1,A),⟨hlt,hA.same hx (by rw [← hxy];exact List.mem_of_getElem? hy)⟩,by simp only;omega,rfl,rfl,congrArg I hw,trivial⟩
    ·have hxy : y ≠ x.x := of_decide_eq_false h
     clear h
     have hI := hA.more hx hjl (split_lt hA.2.1 hy (by omega))
     repeat refine stq rfl ?_
     refine qst rfl rfl (q_slD 0 j rfl rfl rfl rfl (.inl ⟨rfl,rfl⟩) (.inr ⟨_,_,rfl,rfl⟩) (Nat.zero_le _) hj eN_len) ?_
     repeat refine stq rfl ?_
     refine ps_run (o_appN rfl rfl rfl rfl rfl rfl rfl rfl (by repeat' constructor) (by intro row hr;obtain ⟨_,_,rfl⟩ := List.mem_map.1 hr;rfl) (by first | (simp;omega) | simp) (by first | (simp;omega) | simp) ?_)
     repeat refine stq rfl ?_
     refine qst rfl rfl (q_idxm rfl rfl rfl rfl rfl (by omega) hx rfl) ?_
     repeat refine stq rfl ?_
     refine qst rfl rfl (q_slit rfl rfl rfl rfl rfl rfl rfl rfl rfl rfl (by repeat' constructor) rfl) ?_
     refine ps_run (o_app 1 rfl rfl rfl rfl rfl rfl rfl rfl rfl rfl rfl (by repeat' constructor) (by intro row hr;first | (simp at hr;subst hr;rfl) | simp at hr) rfl rfl (by simp;omega) (by simp;omega) ?_)
     repeat refine stq rfl ?_
     refine qst rfl rfl (q_slD j A.length rfl rfl rfl rfl (.inr ⟨_,_,rfl,rfl⟩) (.inl ⟨rfl,rfl⟩) hj (Nat.le_refl _) eN_len) ?_
     repeat refine stq rfl ?_
     refine ps_run (o_app 1 rfl rfl rfl rfl rfl rfl rfl rfl rfl rfl rfl (by repeat' constructor) (by intro row hr;obtain ⟨_,_,rfl⟩ := List.mem_map.1 hr;rfl) rfl rfl (by first | (simp;omega) | simp) (by first | (simp;omega) | simp) ?_)
     (repeat ((fail_if_success (with_reducible refine pw_at 4 ?_));refine stx rfl ?_))
     refine pw_ghost (Ghost.takeL (k := 51) (t := 3) (A.take j ++ [x.x] ++ A.drop j) rfl rfl (by rw [List.take_length,List.map_append,List.map_append,List.drop_zero];rfl) rfl (fun _ => rfl)) ?_
     repeat refine stq rfl ?_
     exact ⟨(i + 1,A.take j ++ [x.x] ++ A.drop j),⟨hlt,hI⟩,by simp only;omega,rfl,rfl,congrArg I hw,trivial⟩
  ·have hje : j = A.length := by have := of_decide_eq_false h;omega
   clear h
   have hI := hA.more hx hjl (by rw [hje,List.drop_length];intro z hz;cases hz)
   repeat refine stq rfl ?_
   refine pw_draw 16 [31,32,33,34,35,36,37,38,39,40,41,42,43,44,45,46] (by decide +kernel) ?_
   repeat refine stq rfl ?_
   (first|refine ps_split rfl rfl ?_ ?_|refine pq_split rfl rfl ?_ ?_|refine p3_split rfl rfl ?_ ?_)<;>intro h
   ·exfalso
    have := of_decide_eq_true h
    omega
   clear h
   repeat refine stq rfl ?_
   refine qst rfl rfl (q_slD 0 j rfl rfl rfl rfl (.inl ⟨rfl,rfl⟩) (.inr ⟨_,_,rfl,rfl⟩) (Nat.zero_le _) hj eN_len) ?_
   repeat refine stq rfl ?_
   refine ps_run (o_appN rfl rfl rfl rfl rfl rfl rfl rfl (by repeat' constructor) (by intro row hr;obtain ⟨_,_,rfl⟩ := List.mem_map.1 hr;rfl) (by first | (simp;omega) | simp) (by first | (simp;omega) | simp) ?_)
   repeat refine stq rfl ?_
   refine qst rfl rfl (q_idxm rfl rfl rfl rfl rfl (by omega) hx rfl) ?_
   repeat refine stq rfl ?_
   refine qst rfl rfl (q_slit rfl rfl rfl rfl rfl rfl rfl rfl rfl rfl (by repeat' constructor) rfl) ?_
   refine ps_run (o_app 1 rfl rfl rfl rfl rfl rfl rfl rfl rfl rfl rfl (by repeat' constructor) (by intro row hr;first | (simp at hr;subst hr;rfl) | simp at hr) rfl rfl (by simp;omega) (by simp;omega) ?_)
   repeat refine stq rfl ?_
   refine qst rfl rfl (q_slD j A.length rfl rfl rfl rfl (.inr ⟨_,_,rfl,rfl⟩) (.inl ⟨rfl,rfl⟩) hj (Nat.le_refl _) eN_len) ?_
   repeat refine stq rfl ?_
   refine ps_run (o_app 1 rfl rfl rfl rfl rfl rfl rfl rfl rfl rfl rfl (by repeat' constructor) (by intro row hr;obtain ⟨_,_,rfl⟩ := List.mem_map.1 hr;rfl) rfl rfl (by first | (simp;omega) | simp) (by first | (simp;omega) | simp) ?_)
   (repeat ((fail_if_success (with_reducible refine pw_at 4 ?_));refine stx rfl ?_))
   refine pw_ghost (Ghost.takeL (k := 51) (t := 3) (A.take j ++ [x.x] ++ A.drop j) rfl rfl (by rw [List.take_length,List.map_append,List.map_append,List.drop_zero];rfl) rfl (fun _ => rfl)) ?_
   repeat refine stq rfl ?_
   exact ⟨(i + 1,A.take j ++ [x.x] ++ A.drop j),⟨hlt,hI⟩,by simp only;omega,rfl,rfl,congrArg I hw,trivial⟩
 ·have hge : i = l.length := by have := of_decide_eq_false h;omega
  subst hge
  clear h
  rw [hA.all]
  repeat refine stq rfl ?_
  exact endm rfl (by repeat' constructor) rfl (by repeat' constructor) rfl
end Go.Pv


set_option maxHeartbeats 2000000
namespace Go.Pv
attribute [local irreducible] PWP POps PQuiet PSem XThen XBlock RetPost InlPost
open Go.Proofs
theorem mostV_hq {c : CR} (hc : c.Lim) (h0 : curveE c = 0) (h8 : c.S.length ≤ 8) : HQ (mostV c) 600 := by
 rw [mostV]
 split
 ·exact HQ.zero.mono (by decide)
 ·obtain ⟨-,-,-,hasc⟩ := curve_ok h0
  rw [valQ,ramp_piece fun i hi => hasc i hi]
  exact (sumN_hq (m := 4 + 30) c.S.length fun k _ => piece_hq hc (s_hq hc _) k).mono (by omega)
theorem yT_pos {l : List SR} {A B : Rat} {i : Nat} (h : 0 < A + B * xI l i) : yT l A B i = cI l i * (A + B * xI l i) := by rw [yT,if_pos h]
theorem yT_neg {l : List SR} {A B : Rat} {i : Nat} (h : ¬ 0 < A + B * xI l i) : yT l A B i = 0 := by rw [yT,if_neg h]
set_option maxRecDepth 20000 in
theorem rrefuses_ret (b : BR) (hb : b.Ok) (r : AR) {A B : Rat} {n m : Nat} (hr : Va r A B n m) (h2 : n ≤ 90000) (h3 : m ≤ 90000) : Ret Tryz.prog .shared 39 [.agg (eB b),.agg (eA r)] (.bool (refB b A B)) := by
 have w0 := w0_ret
 have h12 := hb.few.1
 have hl := hb.lim.l
 have hf := hb.few
 have hck := hb.chkL
 have hml : (b.l.map eS).length = b.l.length := by simp
 have zw : Zb b.w := zb_i64 hb.lim.w.1 hb.lim.w.2
 have hrz := hr.z
 have hrt := hr.t
 have k1 := ti_ret r.t b.a (hx := hrt) (hy := hb.lim.a.v) (by omega) (by decide)
 have vk1 : Vq (ofQ (B * b.a.val)) (B * b.a.val) (m + 1 + 13) := Vq.ofQ (h := @HQ.mul _ _ _ _ hrt.hq hb.lim.a.v.hq)
 have k2 := pl_ret r.z (ofQ (B * b.a.val)) (hx := hrz) (hy := vk1) (by omega) (by omega)
 have vk2 : Vq (ofQ (A + B * b.a.val)) (A + B * b.a.val) (n + 1 + (m + 1 + 13) + 1) := Vq.ofQ (h := @HQ.add _ _ _ _ hrz.hq (vq_hq2 vk1))
 have k3 := bW_ret b.w hb.lim.w
 have k4 := ti_ret (ofQ (b.w : Rat)) (ofQ (A + B * b.a.val)) (hy := vk2) (by decide) (by omega)
 have vk4 : Vq (ofQ ((b.w : Rat) * (A + B * b.a.val))) ((b.w : Rat) * (A + B * b.a.val)) (4 + (n + 1 + (m + 1 + 13) + 1)) := Vq.ofQ (h := @HQ.mul _ _ 4 _ HQ.int (vq_hq2 vk2))
 have hF : ∀ F,refB b A B = F → True := fun _ _ => trivial
 clear hF
 have hvs : ∀ i,i ≤ b.l.length → AllLim b.l A B i → Vq (ofQ (sumN (yT b.l A B) i)) (sumN (yT b.l A B) i) (i * (200 + (n + 1 + (m + 1 + 4) + 1) + 1) + 4) := fun i hi hal => Vq.ofQ (h := sumN_hq i fun k hk => yT_hq hl hf hrz.hq hrt.hq (show k < b.l.length by omega) (hal k hk))
 have hBd : ∀ i,i ≤ b.l.length → i * (200 + (n + 1 + (m + 1 + 4) + 1) + 1) + 4 ≤ 2200000 := fun i hi => by have := Nat.mul_le_mul (show i ≤ 12 by omega) (show 200 + (n + 1 + (m + 1 + 4) + 1) + 1 ≤ 180210 by omega);omega
 have hend : AllLim b.l A B b.l.length → refB b A B = decide (sgn (sumN (yT b.l A B) b.l.length - (b.w : Rat) * (A + B * b.a.val)) < 0) := fun hal => by
  have hsl := sgn_lt (sumN (yT b.l A B) b.l.length - (b.w : Rat) * (A + B * b.a.val))
  rw [refB,decide_eq_decide,hsl]
  constructor
  ·intro h;have := h.2;grind
  ·intro h;exact ⟨hal,by grind⟩
 have hno : ∀ i,i < b.l.length → 0 < A + B * xI b.l i → ¬ limI b.l i → refB b A B = false := fun i hi hp hn => by
  cases hq : refB b A B with
  |false => rfl
  |true => exact absurd ((refB_iff.1 hq).1 i hi hp) hn
 have hend2 : AllLim b.l A B b.l.length → Ret Tryz.prog .shared 42 [.agg (eR (ofQ (sumN (yT b.l A B) b.l.length))),.agg (eR (ofQ ((b.w : Rat) * (A + B * b.a.val))))] (I (sgn (sumN (yT b.l A B) b.l.length - (b.w : Rat) * (A + B * b.a.val)))) := fun hal =>
  rcmpR_ret _ _ (hx := hvs _ (Nat.le_refl _) hal) (hy := vk4) (by have := hBd _ (Nat.le_refl b.l.length);omega) (by omega)
 generalize hRF : refB b A B = RF at *
 generalize (b.w : Rat) * (A + B * b.a.val) = DM at *
 generalize ofQ DM = D4 at *
 generalize ofQ (A + B * b.a.val) = D2 at *
 generalize ofQ (B * b.a.val) = D1 at *
 generalize ofQ (b.w : Rat) = D3 at *
 clear vk1 vk2 vk4 hRF hb
 obtain ⟨w,ba,l⟩ := b
 obtain ⟨rz,rt⟩ := r
 simp only at *
 refine Ret.of_pwp layOk mixed Go.Proofs.Tryz.func39 rfl (by decide) rfl rfl ?_
 repeat refine stq rfl ?_
 refine qst rfl rfl (q_cs rfl w0 rfl rfl) ?_
 repeat refine stq rfl ?_
 refine pw_loop (fun i : Nat => i ≤ l.length ∧ AllLim l A B i) (fun i => [(2,.ptr 2 1 0 0),(3,.ptr 3 1 0 0),(5,.ptr 5 1 0 0),(6,I (i : Nat))])
  (fun i => [(2,1,⟨29,6,[eB ⟨w,ba,l⟩],2⟩),(3,1,⟨62,8,[eA ⟨rz,rt⟩],2⟩),(5,1,⟨26,4,[eR (ofQ (sumN (yT l A B) i))],2⟩)]) (fun i => l.length - i) 0 ⟨Nat.zero_le _,fun k hk => by omega⟩ ⟨rfl,rfl,rfl,rfl,rfl,rfl,rfl,trivial⟩ ?_
 intro i s ⟨hi,hal⟩
 repeat refine stq rfl ?_
 refine pw_cond rfl (fun h => ?_) (fun h => ?_)
 ·have hlt : i < l.length := by have := of_decide_eq_true h;simp only at this;omega
  clear h
  have hx := get_some (d := dS) hlt
  have hxl := hl.1 _ (getD_mem hlt)
  have hxc := checkL_curve hck _ (getD_mem hlt)
  have h8 := hf.2 _ (getD_mem hlt)
  have zx : Zb (l.getD i dS).x := zb_i64 hxl.x.1 hxl.x.2
  have hw : IntKind.i64.wrap (((i : Nat) : Int) + 1) = ((i + 1 : Nat) : Int) := by rw [wrap_i64 (by omega) (by omega)];omega
  have e1 := bW_ret (l.getD i dS).x hxl.x
  have e2 := ti_ret rt (ofQ ((l.getD i dS).x : Rat)) (hx := hrt) (by omega) (by decide)
  have v2 : Vq (ofQ (B * ((l.getD i dS).x : Rat))) (B * ((l.getD i dS).x : Rat)) (m + 1 + 4) := Vq.ofQ (h := @HQ.mul _ _ (m + 1) 4 hrt.hq HQ.int)
  have e3 := pl_ret rz (ofQ (B * ((l.getD i dS).x : Rat))) (hx := hrz) (hy := v2) (by omega) (by omega)
  rw [show A + B * ((l.getD i dS).x : Rat) = dI l A B i from rfl] at e3
  have v3 : Vq (ofQ (dI l A B i)) (dI l A B i) (n + 1 + (m + 1 + 4) + 1) := Vq.ofQ (h := @HQ.add _ _ (n + 1) _ hrz.hq (vq_hq2 v2))
  have e4 := sg_ret (ofQ (dI l A B i)) (hx := v3) (by omega)
  have hsl := sgn_le (dI l A B i)
  have e5 := rmost_ret (l.getD i dS).k hxl.k hxc
  have vm : Vq (ofQ (mostV (l.getD i dS).k)) (mostV (l.getD i dS).k) 600 := Vq.ofQ (h := mostV_hq hxl.k hxc h8)
  have e6 := ti_ret (ofQ (mostV (l.getD i dS).k)) (ofQ (dI l A B i)) (hx := vm) (hy := v3) (by decide) (by omega)
  have hS : sumN (yT l A B) (i + 1) = sumN (yT l A B) i + yT l A B i := rfl
  by_cases hd : 0 < A + B * xI l i
  ·have hng : ¬ sgn (dI l A B i) ≤ 0 := fun h => by have := hsl.1 h;have hd2 : 0 < dI l A B i := hd;grind
   by_cases hlm : befQ (l.getD i dS).k.m (l.getD i dS).k.S.length = 0
   ·have hmc := most_cap hxc hlm
    rw [decide_eq_true hlm] at e5
    have hal2 : AllLim l A B (i + 1) := fun k hk hp => by
     rcases Nat.lt_or_ge k i with g | g
     ·exact hal k g hp
     ·obtain rfl : k = i := by omega
      exact hlm
    have hy : yT l A B i = mostV (l.getD i dS).k * dI l A B i := by rw [yT_pos hd,hmc];rfl
    rw [← hy] at e6
    have vy : Vq (ofQ (yT l A B i)) (yT l A B i) (200 + (n + 1 + (m + 1 + 4) + 1)) := Vq.ofQ (h := yT_hq hl hf hrz.hq hrt.hq hlt (fun _ => hlm))
    have e7 := pl_ret (ofQ (sumN (yT l A B) i)) (ofQ (yT l A B i)) (hx := hvs i hi hal) (hy := vy) (by have := hBd i hi;omega) (by omega)
    rw [← hS] at e7
    generalize hS1 : ofQ (sumN (yT l A B) (i + 1)) = S1 at *
    generalize ofQ (sumN (yT l A B) i) = S0 at *
    generalize ofQ (yT l A B i) = Y0 at *
    generalize ofQ (mostV (l.getD i dS).k) = M0 at *
    generalize sgn (dI l A B i) = sg at *
    generalize ofQ (dI l A B i) = E0 at *
    generalize ofQ (B * ((l.getD i dS).x : Rat)) = E1 at *
    generalize ofQ ((l.getD i dS).x : Rat) = E2 at *
    generalize l.getD i dS = x at *
    obtain ⟨xx,xc,xk⟩ := x
    simp only at *
    repeat refine stq rfl ?_
    refine qst rfl rfl (q_idxm rfl rfl rfl rfl rfl (by omega) hx rfl) ?_
    (repeat ((fail_if_success (with_reducible refine pw_at 6 ?_));refine stx rfl ?_))
    refine pw_ghost (gdrop 8) ?_
    refine pw_draw2 9 1 [24,25,26,27,28,29,30,31,32,8] [] (by decide +kernel) rfl ?_
    repeat refine stq rfl ?_
    refine qst rfl rfl (q_cs rfl e1 rfl rfl) ?_
    repeat refine stq rfl ?_
    refine qst rfl rfl (q_cs rfl e2 rfl rfl) ?_
    repeat refine stq rfl ?_
    refine qst rfl rfl (q_cs rfl e3 rfl rfl) ?_
    repeat refine stq rfl ?_
    refine qst rfl rfl (q_cp rfl e4 rfl rfl rfl) ?_
    repeat refine stq rfl ?_
    refine pw_cond rfl (fun h => ?_) (fun h => ?_)
    ·exact absurd (of_decide_eq_true h) hng
    clear h
    repeat refine stq rfl ?_
    refine qst rfl rfl (q_cs rfl e5 rfl rfl) ?_
    repeat refine stq rfl ?_
    refine pw_draw 5 [44,45,46,47,48] (by decide +kernel) ?_
    repeat refine stq rfl ?_
    refine qst rfl rfl (q_cs rfl e6 rfl rfl) ?_
    repeat refine stq rfl ?_
    refine qst rfl rfl (q_cs rfl e7 rfl rfl) ?_
    repeat refine stq rfl ?_
    refine ⟨i + 1,⟨hlt,hal2⟩,by omega,rfl,rfl,rfl,congrArg I hw,rfl,rfl,?_,trivial⟩
    show (_ : Nat × Option Cont) = (1,some (Cont.mk 26 4 [eR (ofQ (sumN (yT l A B) (i + 1)))] 2))
    rw [hS1]
    rfl
   ·have hRF := hno i hlt hd hlm
    rw [decide_eq_false hlm] at e5
    subst hRF
    generalize ofQ (mostV (l.getD i dS).k) = M0 at *
    generalize sgn (dI l A B i) = sg at *
    generalize ofQ (dI l A B i) = E0 at *
    generalize ofQ (B * ((l.getD i dS).x : Rat)) = E1 at *
    generalize ofQ ((l.getD i dS).x : Rat) = E2 at *
    generalize l.getD i dS = x at *
    obtain ⟨xx,xc,xk⟩ := x
    simp only at *
    repeat refine stq rfl ?_
    refine qst rfl rfl (q_idxm rfl rfl rfl rfl rfl (by omega) hx rfl) ?_
    (repeat ((fail_if_success (with_reducible refine pw_at 6 ?_));refine stx rfl ?_))
    refine pw_ghost (gdrop 8) ?_
    refine pw_draw2 9 1 [24,25,26,27,28,29,30,31,32,8] [] (by decide +kernel) rfl ?_
    repeat refine stq rfl ?_
    refine qst rfl rfl (q_cs rfl e1 rfl rfl) ?_
    repeat refine stq rfl ?_
    refine qst rfl rfl (q_cs rfl e2 rfl rfl) ?_
    repeat refine stq rfl ?_
    refine qst rfl rfl (q_cs rfl e3 rfl rfl) ?_
    repeat refine stq rfl ?_
    refine qst rfl rfl (q_cp rfl e4 rfl rfl rfl) ?_
    repeat refine stq rfl ?_
    refine pw_cond rfl (fun h => ?_) (fun h => ?_)
    ·exact absurd (of_decide_eq_true h) hng
    clear h
    repeat refine stq rfl ?_
    refine qst rfl rfl (q_cs rfl e5 rfl rfl) ?_
    repeat refine stq rfl ?_
    exact end1b rfl rfl rfl
  ·have hng : sgn (dI l A B i) ≤ 0 := hsl.2 (by have hd2 : ¬ 0 < dI l A B i := hd;grind)
   have hal2 : AllLim l A B (i + 1) := fun k hk hp => by
    rcases Nat.lt_or_ge k i with g | g
    ·exact hal k g hp
    ·obtain rfl : k = i := by omega
     exact absurd hp hd
   rw [yT_neg hd,Rat.add_zero] at hS
   generalize sgn (dI l A B i) = sg at *
   generalize ofQ (dI l A B i) = E0 at *
   generalize ofQ (B * ((l.getD i dS).x : Rat)) = E1 at *
   generalize ofQ ((l.getD i dS).x : Rat) = E2 at *
   generalize l.getD i dS = x at *
   obtain ⟨xx,xc,xk⟩ := x
   simp only at *
   repeat refine stq rfl ?_
   refine qst rfl rfl (q_idxm rfl rfl rfl rfl rfl (by omega) hx rfl) ?_
   (repeat ((fail_if_success (with_reducible refine pw_at 6 ?_));refine stx rfl ?_))
   refine pw_ghost (gdrop 8) ?_
   refine pw_draw2 9 1 [24,25,26,27,28,29,30,31,32,8] [] (by decide +kernel) rfl ?_
   repeat refine stq rfl ?_
   refine qst rfl rfl (q_cs rfl e1 rfl rfl) ?_
   repeat refine stq rfl ?_
   refine qst rfl rfl (q_cs rfl e2 rfl rfl) ?_
   repeat refine stq rfl ?_
   refine qst rfl rfl (q_cs rfl e3 rfl rfl) ?_
   repeat refine stq rfl ?_
   refine qst rfl rfl (q_cp rfl e4 rfl rfl rfl) ?_
   repeat refine stq rfl ?_
   refine pw_cond rfl (fun h => ?_) (fun h => ?_)
   ·clear h
    repeat refine stq rfl ?_
    refine ⟨i + 1,⟨hlt,hal2⟩,by omega,rfl,rfl,rfl,congrArg I hw,rfl,rfl,?_,trivial⟩
    show (_ : Nat × Option Cont) = (1,some (Cont.mk 26 4 [eR (ofQ (sumN (yT l A B) (i + 1)))] 2))
    rw [hS]
    rfl
   ·exact absurd hng (of_decide_eq_false h)
 ·have hie : i = l.length := by have := of_decide_eq_false h;simp only at this;omega
  clear h
  subst hie
  have e8 := hend2 hal
  have e9 := hend hal
  generalize sgn (sumN (yT l A B) l.length - DM) = sg at *
  generalize ofQ (sumN (yT l A B) l.length) = S0 at *
  subst e9
  repeat refine stq rfl ?_
  refine pw_draw 16 [49,50,51,52,53,54,55,56,57,58,59,60,61,62,63,4] (by decide +kernel) ?_
  repeat refine stq rfl ?_
  refine qst rfl rfl (q_cs rfl k3 rfl rfl) ?_
  repeat refine stq rfl ?_
  refine qst rfl rfl (q_cs rfl k1 rfl rfl) ?_
  repeat refine stq rfl ?_
  refine qst rfl rfl (q_cs rfl k2 rfl rfl) ?_
  repeat refine stq rfl ?_
  refine qst rfl rfl (q_cs rfl k4 rfl rfl) ?_
  repeat refine stq rfl ?_
  refine qst rfl rfl (q_cp rfl e8 rfl rfl rfl) ?_
  repeat refine stq rfl ?_
  exact end1b rfl rfl rfl
end Go.Pv


set_option maxHeartbeats 2000000
namespace Go.Pv
attribute [local irreducible] PWP POps PQuiet PSem XThen XBlock RetPost InlPost
open Go.Proofs
def dirA (u x : Int) : AR := ⟨ofQ ((-u * x : Int) : Rat),ofQ (u : Rat)⟩
theorem dir_up (x : Int) : dirA 1 x = upA x := by rw [dirA,upA,show (-1 * x : Int) = -x by omega]
theorem dir_dn (x : Int) : dirA (-1) x = dnA x := by rw [dirA,dnA,show (-(-1) * x : Int) = x by omega]
def restL (P : List Int) : Nat → List AR
 |0 => P.map (dirA 1) ++ P.map (dirA (-1))
 |1 => P.map (dirA (-1))
 |_ => []
theorem turn_rest (l : List SR) : turnA l = restL (placesL l) 0 := by
 rw [turnA,restL]
 congr 1
 ·exact List.map_congr_left fun x _ => (dir_up x).symm
 ·exact List.map_congr_left fun x _ => (dir_dn x).symm
theorem rest_step (P : List Int) {k : Nat} (hk : k < 2) : restL P k = P.map (dirA (1 - 2 * (k : Int))) ++ restL P (k + 1) := by
 match k,hk with
 |0,_ => rfl
 |1,_ =>
  show P.map (dirA (-1)) = P.map (dirA (1 - 2 * ((1 : Nat) : Int))) ++ []
  rw [List.append_nil];rfl
theorem rest_in {l : List SR} {k : Nat} (hk : k < 2) {x : Int} (hx : x ∈ placesL l) : dirA (1 - 2 * (k : Int)) x ∈ turnA l := by
 rw [turn_rest]
 match k,hk with
 |0,_ => exact List.mem_append_left _ (List.mem_map.2 ⟨x,hx,rfl⟩)
 |1,_ => exact List.mem_append_right _ (List.mem_map.2 ⟨x,hx,rfl⟩)
set_option maxRecDepth 20000 in
theorem rrefused_ret (b : BR) (hb : b.Ok) : Ret Tryz.prog .shared 102 [.agg (eB b)] (refusalR b) := by
 have w1 := bW_ret 1 ⟨by decide,by decide⟩
 have w0 := bW_ret 0 ⟨by decide,by decide⟩
 have hd := rrefuses_ret b hb downA down_va (by decide) (by decide)
 have ht := rplaces_ret b.l (by have := hb.few.1;omega)
 have hva0 : ∀ r ∈ turnA b.l,Ret Tryz.prog .shared 39 [.agg (eB b),.agg (eA r)] (.bool (refF b r)) := fun r hr => rrefuses_ret b hb r (turn_va hb.chkL hr) (by decide) (by decide)
 have hva : ∀ k : Nat,k < 2 → ∀ x ∈ placesL b.l,Ret Tryz.prog .shared 39 [.agg (eB b),.agg (eA (dirA (1 - 2 * (k : Int)) x))] (.bool (refF b (dirA (1 - 2 * (k : Int)) x))) := fun k hk x hx => hva0 _ (rest_in hk hx)
 clear hva0
 rw [show refB b downA.z.val downA.t.val = refF b downA from rfl] at hd
 have hrg : ∀ x ∈ placesL b.l,-1000000 ≤ x ∧ x ≤ 1000000 := fun x hx => place_range hb.chkL hx
 have hPl : (placesL b.l).length ≤ 1000 := by
  have := places_len b.l
  have := hb.few.1
  omega
 generalize hR : refusalR b = R
 rw [refusalR,turn_rest] at hR
 generalize placesL b.l = P at *
 have hml : (P.map eN).length = P.length := by simp
 generalize hfn : refF b = fn at *
 clear hfn
 obtain ⟨w,ba,l⟩ := b
 simp only at *
 rw [downA] at *
 by_cases h1 : fn ⟨ofQ ((1 : Int) : Rat),ofQ ((0 : Int) : Rat)⟩ = true
 ·rw [if_pos h1] at hR
  rw [h1] at hd
  subst hR
  refine Ret.of_pwp layOk mixed Go.Proofs.Tryz.func102 rfl (by decide) rfl rfl ?_
  repeat refine stq rfl ?_
  refine qst rfl rfl (q_cs rfl w1 rfl rfl) ?_
  repeat refine stq rfl ?_
  refine qst rfl rfl (q_cs rfl w0 rfl rfl) ?_
  repeat refine stq rfl ?_
  refine qst rfl rfl (q_cp rfl hd rfl rfl rfl) ?_
  repeat refine stq rfl ?_
  exact endm rfl (by repeat' constructor) rfl (by repeat' constructor) rfl
 ·rw [if_neg h1] at hR
  rw [Bool.not_eq_true] at h1
  rw [h1] at hd
  refine Ret.of_pwp layOk mixed Go.Proofs.Tryz.func102 rfl (by decide) rfl rfl ?_
  repeat refine stq rfl ?_
  refine qst rfl rfl (q_cs rfl w1 rfl rfl) ?_
  repeat refine stq rfl ?_
  refine qst rfl rfl (q_cs rfl w0 rfl rfl) ?_
  repeat refine stq rfl ?_
  refine qst rfl rfl (q_cp rfl hd rfl rfl rfl) ?_
  repeat refine stq rfl ?_
  refine qst rfl rfl (q_cs rfl ht rfl rfl) ?_
  repeat refine stq rfl ?_
  refine pw_loop (fun k : Nat => k ≤ 2 ∧ (restL P k).find? fn = (restL P 0).find? fn) (fun k => [(1,.ptr 1 1 0 0),(2,.ptr 2 1 0 0),(5,.sl (P.map eN)),(6,I (1 - 2 * (k : Int)))]) (fun _ => [(1,1,⟨29,6,[eB ⟨w,ba,l⟩],2⟩),(2,1,⟨62,8,[zN ++ zN],2⟩)]) (fun k => 2 - k) 0 ⟨by decide,rfl⟩ ⟨rfl,rfl,rfl,rfl,rfl,rfl,trivial⟩ ?_
  intro k s ⟨hk2,hF⟩
  repeat refine stq rfl ?_
  refine pw_cond rfl (fun h => ?_) (fun h => ?_)
  ·have hk : k < 2 := by have := of_decide_eq_true h;omega
   clear h
   have hvk := hva k hk
   rw [rest_step P hk] at hF
   have hwk : IntKind.i64.wrap ((1 - 2 * (k : Int)) - 2) = 1 - 2 * ((k + 1 : Nat) : Int) := by rw [wrap_i64 (by omega) (by omega)];omega
   have hu : (1 - 2 * (k : Int)) = 1 ∨ (1 - 2 * (k : Int)) = -1 := by omega
   generalize hU : 1 - 2 * (k : Int) = u at *
   have hn : IntKind.i64.wrap (0 - u) = -u := by rw [wrap_i64 (by omega) (by omega)];omega
   have wu := bW_ret u (by rcases hu with rfl | rfl <;> exact ⟨by decide,by decide⟩)
   repeat refine stq rfl ?_
   refine pw_loop (fun j : Nat => j ≤ P.length ∧ ((P.drop j).map (dirA u) ++ restL P (k + 1)).find? fn = (restL P 0).find? fn) (fun j => [(1,.ptr 1 1 0 0),(2,.ptr 2 1 0 0),(5,.sl (P.map eN)),(6,I u),(7,I (j : Nat))]) (fun _ => [(1,1,⟨29,6,[eB ⟨w,ba,l⟩],2⟩),(2,1,⟨62,8,[zN ++ zN],2⟩)]) (fun j => P.length - j) 0 ⟨Nat.zero_le _,by rw [List.drop_zero];exact hF⟩ ⟨rfl,rfl,rfl,rfl,rfl,rfl,rfl,trivial⟩ ?_
   intro j s ⟨hj,hG⟩
   repeat refine stq rfl ?_
   refine pw_cond rfl (fun h => ?_) (fun h => ?_)
   ·have hlt : j < P.length := by have := of_decide_eq_true h;omega
    clear h
    obtain ⟨x,hx⟩ := get_lt hlt
    have hxm := List.mem_of_getElem? hx
    have hxr := hrg x hxm
    have hrr := hvk x hxm
    have hb2 : -1000000 ≤ -u * x ∧ -u * x ≤ 1000000 := by rcases hu with rfl | rfl <;> omega
    have hm : IntKind.i64.wrap (-u * x) = -u * x := wrap_i64 (by omega) (by omega)
    have wx := bW_ret (-u * x) ⟨by omega,by omega⟩
    have hw : IntKind.i64.wrap (((j : Nat) : Int) + 1) = ((j + 1 : Nat) : Int) := by rw [wrap_i64 (by omega) (by omega)];omega
    have hdr : P.drop j = x :: P.drop (j + 1) := by
     obtain ⟨hl,e⟩ := List.getElem?_eq_some_iff.1 hx
     rw [List.drop_eq_getElem_cons hl,e]
    rw [hdr,List.map_cons,List.cons_append,List.find?_cons] at hG
    rw [show (dirA u x) = ⟨ofQ ((-u * x : Int) : Rat),ofQ (u : Rat)⟩ from rfl] at hG hrr
    cases hfr : fn ⟨ofQ ((-u * x : Int) : Rat),ofQ (u : Rat)⟩ with
    |true =>
     rw [hfr] at hrr hG
     simp only at hG
     rw [← hG] at hR
     simp only at hR
     subst hR
     repeat refine stq rfl ?_
     rw [hn]
     repeat refine stq rfl ?_
     refine qst rfl rfl (q_idxm rfl rfl rfl rfl rfl (by omega) hx rfl) ?_
     repeat refine stq rfl ?_
     rw [hm]
     refine qst rfl rfl (q_cs rfl wx rfl rfl) ?_
     repeat refine stq rfl ?_
     refine qst rfl rfl (q_cs rfl wu rfl rfl) ?_
     repeat refine stq rfl ?_
     refine qst rfl rfl (q_cp rfl hrr rfl rfl rfl) ?_
     repeat refine stq rfl ?_
     exact endm rfl (by repeat' constructor) rfl (by repeat' constructor) rfl
    |false =>
     rw [hfr] at hrr hG
     simp only at hG
     repeat refine stq rfl ?_
     rw [hn]
     repeat refine stq rfl ?_
     refine qst rfl rfl (q_idxm rfl rfl rfl rfl rfl (by omega) hx rfl) ?_
     repeat refine stq rfl ?_
     rw [hm]
     refine qst rfl rfl (q_cs rfl wx rfl rfl) ?_
     repeat refine stq rfl ?_
     refine qst rfl rfl (q_cs rfl wu rfl rfl) ?_
     repeat refine stq rfl ?_
     refine qst rfl rfl (q_cp rfl hrr rfl rfl rfl) ?_
     repeat refine stq rfl ?_
     exact ⟨j + 1,⟨hlt,hG⟩,by omega,rfl,rfl,rfl,rfl,congrArg I hw,rfl,rfl,trivial⟩
   ·have hie : j = P.length := by have := of_decide_eq_false h;omega
    clear h
    rw [hie,List.drop_length,List.map_nil,List.nil_append] at hG
    repeat refine stq rfl ?_
    exact ⟨k + 1,⟨hk,hG⟩,by omega,rfl,rfl,rfl,congrArg I hwk,rfl,rfl,trivial⟩
  ·have hk : k = 2 := by have := of_decide_eq_false h;omega
   clear h
   subst hk
   have hF : none = (restL P 0).find? fn := hF
   rw [← hF] at hR
   simp only at hR
   subst hR
   repeat refine stq rfl ?_
   exact endm rfl (by repeat' constructor) rfl (by repeat' constructor) rfl
noncomputable def roomQ (b : BR) (x : Int) (A B : Rat) : Option Rat := @ite _ (0 < A + B * (x : Rat) ∧ AllLim b.l A B b.l.length) (Classical.propDecidable _) (some ((sumN (yT b.l A B) b.l.length - (b.w : Rat) * (A + B * b.a.val)) / (A + B * (x : Rat)))) none
def roomV : Option Rat → PV
 |none => .tup [.agg zN,.bool false]
 |some v => .tup [.agg (eR (ofQ v)),.bool true]
theorem room_no {b : BR} {x : Int} {A B : Rat} (h : ¬ (0 < A + B * (x : Rat) ∧ AllLim b.l A B b.l.length)) : roomQ b x A B = none := by rw [roomQ,if_neg h]
theorem room_yes {b : BR} {x : Int} {A B : Rat} (h : 0 < A + B * (x : Rat) ∧ AllLim b.l A B b.l.length) : roomQ b x A B = some ((sumN (yT b.l A B) b.l.length - (b.w : Rat) * (A + B * b.a.val)) / (A + B * (x : Rat))) := by rw [roomQ,if_pos h]
set_option maxRecDepth 20000 in
theorem rroom_ret (b : BR) (hb : b.Ok) (r : AR) {A B : Rat} {n m : Nat} (hr : Va r A B n m) (h2 : n ≤ 90000) (h3 : m ≤ 90000) (x : Int) (hx64 : i64 x) : Ret Tryz.prog .shared 104 [.agg (eB b),.agg (eA r),I x] (roomV (roomQ b x A B)) := by
 have hb0 := body_chk hb.chk
 have w0 := w0_ret
 have h12 := hb.few.1
 have hl := hb.lim.l
 have hf := hb.few
 have hck := hb.chkL
 have hml : (b.l.map eS).length = b.l.length := by simp
 have zw : Zb (-b.w) := zb_i64 (by omega) (by omega)
 have zx : Zb x := zb_i64 hx64.1 hx64.2
 have hrz := hr.z
 have hrt := hr.t
 have hneg : IntKind.i64.wrap (0 - b.w) = -b.w := by rw [wrap_i64 (by omega) (by omega)];omega
 have t0 := bW_ret x hx64
 have t1 := ti_ret r.t (ofQ (x : Rat)) (hx := hrt) (by omega) (by decide)
 have vt1 : Vq (ofQ (B * (x : Rat))) (B * (x : Rat)) (m + 1 + 4) := Vq.ofQ (h := @HQ.mul _ _ (m + 1) 4 hrt.hq HQ.int)
 have t2 := pl_ret r.z (ofQ (B * (x : Rat))) (hx := hrz) (hy := vt1) (by omega) (by omega)
 have vt2 : Vq (ofQ (A + B * (x : Rat))) (A + B * (x : Rat)) (n + 1 + (m + 1 + 4) + 1) := Vq.ofQ (h := @HQ.add _ _ (n + 1) _ hrz.hq (vq_hq2 vt1))
 have t3 := sg_ret (ofQ (A + B * (x : Rat))) (hx := vt2) (by omega)
 have hst := sgn_le (A + B * (x : Rat))
 by_cases hT : 0 < A + B * (x : Rat)
 rotate_left
 ·rw [room_no fun h => hT h.1,roomV]
  have hle := hst.2 (by grind)
  generalize sgn (A + B * (x : Rat)) = sg at *
  generalize ofQ (A + B * (x : Rat)) = T2 at *
  generalize ofQ (B * (x : Rat)) = T1 at *
  generalize ofQ (x : Rat) = T0 at *
  obtain ⟨w,ba,l⟩ := b
  obtain ⟨rz,rt⟩ := r
  simp only at *
  refine Ret.of_pwp layOk mixed Go.Proofs.Tryz.func104 rfl (by decide) rfl rfl ?_
  repeat refine stq rfl ?_
  refine pw_draw2 8 1 [15,16,17,18,19,20,21,22,8] [] (by decide +kernel) rfl ?_
  repeat refine stq rfl ?_
  refine qst rfl rfl (q_cs rfl t0 rfl rfl) ?_
  repeat refine stq rfl ?_
  refine qst rfl rfl (q_cs rfl t1 rfl rfl) ?_
  repeat refine stq rfl ?_
  refine qst rfl rfl (q_cs rfl t2 rfl rfl) ?_
  repeat refine stq rfl ?_
  refine qst rfl rfl (q_cp rfl t3 rfl rfl rfl) ?_
  repeat refine stq rfl ?_
  refine pw_cond rfl (fun h => ?_) (fun h => ?_)
  ·clear h
   repeat refine stq rfl ?_
   exact endm rfl (by repeat' constructor) rfl (by repeat' constructor) rfl
  ·exact absurd hle (of_decide_eq_false h)
 have hnle : ¬ sgn (A + B * (x : Rat)) ≤ 0 := fun h => by have := hst.1 h;grind
 have k1 := ti_ret r.t b.a (hx := hrt) (hy := hb.lim.a.v) (by omega) (by decide)
 have vk1 : Vq (ofQ (B * b.a.val)) (B * b.a.val) (m + 1 + 13) := Vq.ofQ (h := @HQ.mul _ _ _ _ hrt.hq hb.lim.a.v.hq)
 have k2 := pl_ret r.z (ofQ (B * b.a.val)) (hx := hrz) (hy := vk1) (by omega) (by omega)
 have vk2 : Vq (ofQ (A + B * b.a.val)) (A + B * b.a.val) (n + 1 + (m + 1 + 13) + 1) := Vq.ofQ (h := @HQ.add _ _ _ _ hrz.hq (vq_hq2 vk1))
 have k3 := bW_ret (-b.w) ⟨by omega,by omega⟩
 have k4 := ti_ret (ofQ ((-b.w : Int) : Rat)) (ofQ (A + B * b.a.val)) (hy := vk2) (by decide) (by omega)
 have vk4 : Vq (ofQ (((-b.w : Int) : Rat) * (A + B * b.a.val))) (((-b.w : Int) : Rat) * (A + B * b.a.val)) (4 + (n + 1 + (m + 1 + 13) + 1)) := Vq.ofQ (h := @HQ.mul _ _ 4 _ HQ.int (vq_hq2 vk2))
 have eDM : ((-b.w : Int) : Rat) * (A + B * b.a.val) = -((b.w : Rat) * (A + B * b.a.val)) := by push_cast;grind
 have hDq := vq_hq2 vk4
 generalize hDM : ((-b.w : Int) : Rat) * (A + B * b.a.val) = DM at *
 have hvs : ∀ i,i ≤ b.l.length → AllLim b.l A B i → Vq (ofQ (DM + sumN (yT b.l A B) i)) (DM + sumN (yT b.l A B) i) (4 + (n + 1 + (m + 1 + 13) + 1) + (i * (200 + (n + 1 + (m + 1 + 4) + 1) + 1) + 4) + 1) := fun i hi hal => Vq.ofQ (h := @HQ.add _ _ _ _ hDq (sumN_hq i fun k hk => yT_hq hl hf hrz.hq hrt.hq (show k < b.l.length by omega) (hal k hk)))
 have hBd : ∀ i,i ≤ b.l.length → i * (200 + (n + 1 + (m + 1 + 4) + 1) + 1) + 4 ≤ 2200000 := fun i hi => by have := Nat.mul_le_mul (show i ≤ 12 by omega) (show 200 + (n + 1 + (m + 1 + 4) + 1) + 1 ≤ 180210 by omega);omega
 have hq0 : A + B * (x : Rat) ≠ 0 := by grind
 have hend : AllLim b.l A B b.l.length → Ret Tryz.prog .shared 138 [.agg (eR (ofQ (DM + sumN (yT b.l A B) b.l.length))),.agg (eR (ofQ (A + B * (x : Rat))))] (.agg (eR (ofQ ((sumN (yT b.l A B) b.l.length - (b.w : Rat) * (A + B * b.a.val)) / (A + B * (x : Rat)))))) := fun hal => by
  have := by_ret (ofQ (DM + sumN (yT b.l A B) b.l.length)) (ofQ (A + B * (x : Rat))) (hx := hvs _ (Nat.le_refl _) hal) (hy := vt2) (by have := hBd _ (Nat.le_refl b.l.length);omega) (by omega) hq0
  rwa [show DM + sumN (yT b.l A B) b.l.length = sumN (yT b.l A B) b.l.length - (b.w : Rat) * (A + B * b.a.val) by rw [eDM];grind] at this ⊢
 have hno : ∀ i,i < b.l.length → 0 < A + B * xI b.l i → ¬ limI b.l i → roomQ b x A B = none := fun i hi hp hn => room_no fun h => hn (h.2 i hi hp)
 have hyes : AllLim b.l A B b.l.length → roomQ b x A B = some ((sumN (yT b.l A B) b.l.length - (b.w : Rat) * (A + B * b.a.val)) / (A + B * (x : Rat))) := fun h => room_yes ⟨hT,h⟩
 generalize roomQ b x A B = RM at *
 generalize hVV : (sumN (yT b.l A B) b.l.length - (b.w : Rat) * (A + B * b.a.val)) / (A + B * (x : Rat)) = VV at *
 clear hVV hT hst
 generalize hVR : ofQ VV = VR at *
 generalize sgn (A + B * (x : Rat)) = sgT at *
 generalize ofQ (A + B * (x : Rat)) = T2 at *
 generalize ofQ (B * (x : Rat)) = T1 at *
 generalize ofQ (x : Rat) = T0 at *
 generalize ofQ (A + B * b.a.val) = D2 at *
 generalize ofQ (B * b.a.val) = D1 at *
 generalize ofQ ((-b.w : Int) : Rat) = D3 at *
 have hDM0 : ofQ DM = ofQ (DM + sumN (yT b.l A B) 0) := by rw [show sumN (yT b.l A B) 0 = 0 from rfl,Rat.add_zero]
 rw [hDM0] at k4
 clear vk1 vk2 vk4 vt1 vt2 hb hDM0 hDq zw zx
 obtain ⟨w,ba,l⟩ := b
 obtain ⟨rz,rt⟩ := r
 simp only at *
 refine Ret.of_pwp layOk mixed Go.Proofs.Tryz.func104 rfl (by decide) rfl rfl ?_
 repeat refine stq rfl ?_
 refine pw_draw2 8 1 [15,16,17,18,19,20,21,22,8] [] (by decide +kernel) rfl ?_
 repeat refine stq rfl ?_
 refine qst rfl rfl (q_cs rfl t0 rfl rfl) ?_
 repeat refine stq rfl ?_
 refine qst rfl rfl (q_cs rfl t1 rfl rfl) ?_
 repeat refine stq rfl ?_
 refine qst rfl rfl (q_cs rfl t2 rfl rfl) ?_
 repeat refine stq rfl ?_
 refine qst rfl rfl (q_cp rfl t3 rfl rfl rfl) ?_
 repeat refine stq rfl ?_
 refine pw_cond rfl (fun h => ?_) (fun h => ?_)
 ·exact absurd (of_decide_eq_true h) hnle
 clear h
 repeat refine stq rfl ?_
 refine pw_draw2 13 1 [27,28,29,30,31,32,33,34,35,36,37,38,39,9] [] (by decide +kernel) rfl ?_
 repeat refine stq rfl ?_
 rw [hneg]
 refine qst rfl rfl (q_cs rfl k3 rfl rfl) ?_
 repeat refine stq rfl ?_
 refine qst rfl rfl (q_cs rfl k1 rfl rfl) ?_
 repeat refine stq rfl ?_
 refine qst rfl rfl (q_cs rfl k2 rfl rfl) ?_
 repeat refine stq rfl ?_
 refine qst rfl rfl (q_cs rfl k4 rfl rfl) ?_
 repeat refine stq rfl ?_
 refine pw_loop (fun i : Nat => i ≤ l.length ∧ AllLim l A B i) (fun i => [(3,.ptr 3 1 0 0),(4,.ptr 4 1 0 0),(6,.ptr 6 1 0 0),(8,.ptr 8 1 0 0),(9,.ptr 9 1 0 0),(10,I (i : Nat))])
  (fun i => [(3,1,⟨29,6,[eB ⟨w,ba,l⟩],2⟩),(4,1,⟨62,8,[eA ⟨rz,rt⟩],2⟩),(6,1,⟨26,4,[zN],2⟩),(8,1,⟨26,4,[eR T2],2⟩),(9,1,⟨26,4,[eR (ofQ (DM + sumN (yT l A B) i))],2⟩)]) (fun i => l.length - i) 0 ⟨Nat.zero_le _,fun k hk => by omega⟩ ⟨rfl,rfl,rfl,rfl,rfl,rfl,rfl,rfl,rfl,rfl,rfl,trivial⟩ ?_
 intro i s ⟨hi,hal⟩
 repeat refine stq rfl ?_
 refine pw_cond rfl (fun h => ?_) (fun h => ?_)
 ·have hlt : i < l.length := by have := of_decide_eq_true h;simp only at this;omega
  clear h
  have hx := get_some (d := dS) hlt
  have hxl := hl.1 _ (getD_mem hlt)
  have hxc := checkL_curve hck _ (getD_mem hlt)
  have h8 := hf.2 _ (getD_mem hlt)
  have zx : Zb (l.getD i dS).x := zb_i64 hxl.x.1 hxl.x.2
  have hw : IntKind.i64.wrap (((i : Nat) : Int) + 1) = ((i + 1 : Nat) : Int) := by rw [wrap_i64 (by omega) (by omega)];omega
  have e1 := bW_ret (l.getD i dS).x hxl.x
  have e2 := ti_ret rt (ofQ ((l.getD i dS).x : Rat)) (hx := hrt) (by omega) (by decide)
  have v2 : Vq (ofQ (B * ((l.getD i dS).x : Rat))) (B * ((l.getD i dS).x : Rat)) (m + 1 + 4) := Vq.ofQ (h := @HQ.mul _ _ (m + 1) 4 hrt.hq HQ.int)
  have e3 := pl_ret rz (ofQ (B * ((l.getD i dS).x : Rat))) (hx := hrz) (hy := v2) (by omega) (by omega)
  rw [show A + B * ((l.getD i dS).x : Rat) = dI l A B i from rfl] at e3
  have v3 : Vq (ofQ (dI l A B i)) (dI l A B i) (n + 1 + (m + 1 + 4) + 1) := Vq.ofQ (h := @HQ.add _ _ (n + 1) _ hrz.hq (vq_hq2 v2))
  have e4 := sg_ret (ofQ (dI l A B i)) (hx := v3) (by omega)
  have hsl := sgn_le (dI l A B i)
  have e5 := rmost_ret (l.getD i dS).k hxl.k hxc
  have vm : Vq (ofQ (mostV (l.getD i dS).k)) (mostV (l.getD i dS).k) 600 := Vq.ofQ (h := mostV_hq hxl.k hxc h8)
  have e6 := ti_ret (ofQ (mostV (l.getD i dS).k)) (ofQ (dI l A B i)) (hx := vm) (hy := v3) (by decide) (by omega)
  have hS : DM + sumN (yT l A B) (i + 1) = DM + sumN (yT l A B) i + yT l A B i := by rw [sumN];grind
  by_cases hd : 0 < A + B * xI l i
  ·have hng : ¬ sgn (dI l A B i) ≤ 0 := fun h => by have := hsl.1 h;have hd2 : 0 < dI l A B i := hd;grind
   by_cases hlm : befQ (l.getD i dS).k.m (l.getD i dS).k.S.length = 0
   ·have hmc := most_cap hxc hlm
    rw [decide_eq_true hlm] at e5
    have hal2 : AllLim l A B (i + 1) := fun k hk hp => by
     rcases Nat.lt_or_ge k i with g | g
     ·exact hal k g hp
     ·obtain rfl : k = i := by omega
      exact hlm
    have hy : yT l A B i = mostV (l.getD i dS).k * dI l A B i := by rw [yT_pos hd,hmc];rfl
    rw [← hy] at e6
    have vy : Vq (ofQ (yT l A B i)) (yT l A B i) (200 + (n + 1 + (m + 1 + 4) + 1)) := Vq.ofQ (h := yT_hq hl hf hrz.hq hrt.hq hlt (fun _ => hlm))
    have e7 := pl_ret (ofQ (DM + sumN (yT l A B) i)) (ofQ (yT l A B i)) (hx := hvs i hi hal) (hy := vy) (by have := hBd i hi;omega) (by omega)
    rw [← hS] at e7
    generalize hS1 : ofQ (DM + sumN (yT l A B) (i + 1)) = S1 at *
    generalize ofQ (mostV (l.getD i dS).k) = M0 at *
    generalize sgn (dI l A B i) = sg at *
    generalize ofQ (dI l A B i) = E0 at *
    generalize ofQ (B * ((l.getD i dS).x : Rat)) = E1 at *
    generalize ofQ ((l.getD i dS).x : Rat) = E2 at *
    generalize l.getD i dS = x0 at *
    obtain ⟨xx,xc,xk⟩ := x0
    simp only at *
    generalize ofQ (DM + sumN (yT l A B) i) = S0 at *
    generalize ofQ (yT l A B i) = Y0 at *
    repeat refine stq rfl ?_
    refine qst rfl rfl (q_idxm rfl rfl rfl rfl rfl (by omega) hx rfl) ?_
    (repeat ((fail_if_success (with_reducible refine pw_at 9 ?_));refine stx rfl ?_))
    refine pw_ghost (gdrop 12) ?_
    refine pw_draw2 9 1 [52,53,54,55,56,57,58,59,60,12] [] (by decide +kernel) rfl ?_
    repeat refine stq rfl ?_
    refine qst rfl rfl (q_cs rfl e1 rfl rfl) ?_
    repeat refine stq rfl ?_
    refine qst rfl rfl (q_cs rfl e2 rfl rfl) ?_
    repeat refine stq rfl ?_
    refine qst rfl rfl (q_cs rfl e3 rfl rfl) ?_
    repeat refine stq rfl ?_
    refine qst rfl rfl (q_cs rfl e5 rfl rfl) ?_
    repeat refine stq rfl ?_
    refine qst rfl rfl (q_cp rfl e4 rfl rfl rfl) ?_
    repeat refine stq rfl ?_
    (first|refine ps_split rfl rfl ?_ ?_|refine pq_split rfl rfl ?_ ?_|refine p3_split rfl rfl ?_ ?_)<;>intro h
    rotate_left
    ·exact absurd (by have := of_decide_eq_false h;omega) hng
    clear h
    repeat refine stq rfl ?_
    refine qst rfl rfl (q_cp rfl e4 rfl rfl rfl) ?_
    repeat refine stq rfl ?_
    refine pw_cond rfl (fun h => ?_) (fun h => ?_)
    rotate_left
    ·exact absurd (by have := of_decide_eq_false h;omega) hng
    clear h
    repeat refine stq rfl ?_
    refine pw_draw 5 [78,79,80,81,82] (by decide +kernel) ?_
    repeat refine stq rfl ?_
    refine qst rfl rfl (q_cs rfl e6 rfl rfl) ?_
    repeat refine stq rfl ?_
    refine qst rfl rfl (q_cs rfl e7 rfl rfl) ?_
    repeat refine stq rfl ?_
    refine ⟨i + 1,⟨hlt,hal2⟩,by omega,rfl,rfl,rfl,rfl,rfl,congrArg I hw,rfl,rfl,rfl,rfl,?_,trivial⟩
    show (_ : Nat × Option Cont) = (1,some (Cont.mk 26 4 [eR (ofQ (DM + sumN (yT l A B) (i + 1)))] 2))
    rw [hS1]
    rfl
   ·have hRF := hno i hlt hd hlm
    rw [decide_eq_false hlm] at e5
    subst hRF
    generalize ofQ (mostV (l.getD i dS).k) = M0 at *
    generalize sgn (dI l A B i) = sg at *
    generalize ofQ (dI l A B i) = E0 at *
    generalize ofQ (B * ((l.getD i dS).x : Rat)) = E1 at *
    generalize ofQ ((l.getD i dS).x : Rat) = E2 at *
    generalize l.getD i dS = x0 at *
    obtain ⟨xx,xc,xk⟩ := x0
    simp only at *
    repeat refine stq rfl ?_
    refine qst rfl rfl (q_idxm rfl rfl rfl rfl rfl (by omega) hx rfl) ?_
    (repeat ((fail_if_success (with_reducible refine pw_at 9 ?_));refine stx rfl ?_))
    refine pw_ghost (gdrop 12) ?_
    refine pw_draw2 9 1 [52,53,54,55,56,57,58,59,60,12] [] (by decide +kernel) rfl ?_
    repeat refine stq rfl ?_
    refine qst rfl rfl (q_cs rfl e1 rfl rfl) ?_
    repeat refine stq rfl ?_
    refine qst rfl rfl (q_cs rfl e2 rfl rfl) ?_
    repeat refine stq rfl ?_
    refine qst rfl rfl (q_cs rfl e3 rfl rfl) ?_
    repeat refine stq rfl ?_
    refine qst rfl rfl (q_cs rfl e5 rfl rfl) ?_
    repeat refine stq rfl ?_
    refine qst rfl rfl (q_cp rfl e4 rfl rfl rfl) ?_
    repeat refine stq rfl ?_
    (first|refine ps_split rfl rfl ?_ ?_|refine pq_split rfl rfl ?_ ?_|refine p3_split rfl rfl ?_ ?_)<;>intro h
    rotate_left
    ·exact absurd (by have := of_decide_eq_false h;omega) hng
    clear h
    repeat refine stq rfl ?_
    exact endm rfl (by repeat' constructor) rfl (by repeat' constructor) rfl
  ·have hng : sgn (dI l A B i) ≤ 0 := hsl.2 (by have hd2 : ¬ 0 < dI l A B i := hd;grind)
   have hal2 : AllLim l A B (i + 1) := fun k hk hp => by
    rcases Nat.lt_or_ge k i with g | g
    ·exact hal k g hp
    ·obtain rfl : k = i := by omega
     exact absurd hp hd
   rw [yT_neg hd,Rat.add_zero] at hS
   generalize decide (befQ (l.getD i dS).k.m (l.getD i dS).k.S.length = 0) = LM at *
   generalize ofQ (mostV (l.getD i dS).k) = M0 at *
   generalize sgn (dI l A B i) = sg at *
   generalize ofQ (dI l A B i) = E0 at *
   generalize ofQ (B * ((l.getD i dS).x : Rat)) = E1 at *
   generalize ofQ ((l.getD i dS).x : Rat) = E2 at *
   generalize l.getD i dS = x0 at *
   obtain ⟨xx,xc,xk⟩ := x0
   simp only at *
   repeat refine stq rfl ?_
   refine qst rfl rfl (q_idxm rfl rfl rfl rfl rfl (by omega) hx rfl) ?_
   (repeat ((fail_if_success (with_reducible refine pw_at 9 ?_));refine stx rfl ?_))
   refine pw_ghost (gdrop 12) ?_
   refine pw_draw2 9 1 [52,53,54,55,56,57,58,59,60,12] [] (by decide +kernel) rfl ?_
   repeat refine stq rfl ?_
   refine qst rfl rfl (q_cs rfl e1 rfl rfl) ?_
   repeat refine stq rfl ?_
   refine qst rfl rfl (q_cs rfl e2 rfl rfl) ?_
   repeat refine stq rfl ?_
   refine qst rfl rfl (q_cs rfl e3 rfl rfl) ?_
   repeat refine stq rfl ?_
   refine qst rfl rfl (q_cs rfl e5 rfl rfl) ?_
   repeat refine stq rfl ?_
   refine qst rfl rfl (q_cp rfl e4 rfl rfl rfl) ?_
   repeat refine stq rfl ?_
   (first|refine ps_split rfl rfl ?_ ?_|refine pq_split rfl rfl ?_ ?_|refine p3_split rfl rfl ?_ ?_)<;>intro h
   ·exact absurd hng (by have := of_decide_eq_true h;omega)
   clear h
   repeat refine stq rfl ?_
   refine qst rfl rfl (q_cp rfl e4 rfl rfl rfl) ?_
   repeat refine stq rfl ?_
   refine pw_cond rfl (fun h => ?_) (fun h => ?_)
   ·exact absurd hng (by have := of_decide_eq_true h;omega)
   clear h
   repeat refine stq rfl ?_
   refine ⟨i + 1,⟨hlt,hal2⟩,by omega,rfl,rfl,rfl,rfl,rfl,congrArg I hw,rfl,rfl,rfl,rfl,?_,trivial⟩
   show (_ : Nat × Option Cont) = (1,some (Cont.mk 26 4 [eR (ofQ (DM + sumN (yT l A B) (i + 1)))] 2))
   rw [hS]
   rfl
 ·have hie : i = l.length := by have := of_decide_eq_false h;simp only at this;omega
  clear h
  subst hie
  have e8 := hend hal
  rw [hyes hal,roomV,hVR]
  generalize ofQ (DM + sumN (yT l A B) l.length) = S0 at *
  repeat refine stq rfl ?_
  refine qst rfl rfl (q_cs rfl e8 rfl rfl) ?_
  repeat refine stq rfl ?_
  exact endm rfl (by repeat' constructor) rfl (by repeat' constructor) rfl
end Go.Pv


set_option maxHeartbeats 2000000
namespace Go.Pv
attribute [local irreducible] PWP POps PQuiet PSem XThen XBlock RetPost InlPost
open Go.Proofs
set_option maxRecDepth 20000 in
theorem turning_sm3 {K : St → Prop} {s : St} {d g2 g3 g4 : Nat} {R2 R3 R4 : Cont} {x : Operand} {tys : Array TypeId} {ty : TypeId} {pos : String} {af : Array Edge} (l : List SR) (hl : LimL l) (h12 : l.length ≤ 1000) (hck : checkL l = 0)
  (hx : s.ev x = .sl (l.map eS)) (ho : FitO s [(2,g2,R2),(1003,g3,R3),(1004,g4,R4)])
  (hK : ∀ (s1 : St) (g : Nat),K (({ reg := s.reg,own := (s1.over [] [(2,g2,R2),(1003,g3,R3),(1004,g4,R4),(3,g,⟨62,8,(turnA l).map eA,1⟩)]).own } : St).putR d (.als 3 g 0 ((turnA l).map eA).length))) :
  Sm Tryz.prog lay.get s ⟨some d,.call ⟨.value (.func 94),#[x],tys⟩,ty,pos,af,none⟩ K := by
 have hp := places_ret l hl h12
 have hrg : ∀ x ∈ placesL l,-1000000 ≤ x ∧ x ≤ 1000000 := fun x hx => place_range hck hx
 have hpl := places_len l
 have w1 := wholeF 1 ⟨by decide,by decide⟩
 have w2 := wholeF (-1) ⟨by decide,by decide⟩
 rw [turnA] at hK
 generalize placesL l = Pl at *
 have hml : (Pl.map eN).length = Pl.length := by simp
 have hrows : ∀ (k : Nat) x,Pl[k]? = some x → ((Pl.take (k + 1)).map upA).map eA = ((Pl.take k).map upA).map eA ++ [eA (upA x)] := fun k x hx => by rw [take_snoc hx,List.map_append,List.map_append];rfl
 have hrows2 : ∀ (k : Nat) x,Pl[k]? = some x → (Pl.map upA ++ (Pl.take (k + 1)).map dnA).map eA = (Pl.map upA ++ (Pl.take k).map dnA).map eA ++ [eA (dnA x)] := fun k x hx => by rw [take_snoc hx];simp [List.map_append]
 refine sm_inline layOk rfl rfl Tryz.func94 rfl (by decide) rfl rfl ?_
 show PWP _ _ _ _ (callSt s (([x] : List Operand).map s.ev ++ []))
 rw [show (([x] : List Operand).map s.ev ++ ([] : List PV)) = [.sl (l.map eS)] by simp [hx]]
 rw [show callSt s [.sl (l.map eS)] = callSt (s.over [] [(2,g2,R2),(1003,g3,R3),(1004,g4,R4)]) [.sl (l.map eS)] by rw [Fit.over (l := []) ho]]
 ((repeat (first | refine ps_nil ?_ | refine pq_nil ?_ | refine x_norm ?_ | refine pw_seq ?_));refine pw_region ?_)
 refine ps_v rfl trivial ?_
 ((repeat (first | refine ps_nil ?_ | refine pq_nil ?_ | refine x_norm ?_ | refine pw_seq ?_));refine pw_region ?_)
 (first | refine ps_run (o_nilm 62 8 1 rfl rfl ?_) | refine ps_run (o_nila 62 8 1 rfl rfl ?_))
 repeat refine stq rfl ?_
 refine qst rfl rfl (q_cs rfl hp rfl rfl) ?_
 repeat refine stq rfl ?_
 refine pw_norm [(0,.sl (l.map eS)),(3,.als 3 ((s.own 3).1 + 1) 0 0),(9,.sl (Pl.map eN)),(10,I (Pl.map eN).length),(11,I ((0 : Nat) : Int))] [(2,g2,R2),(1003,g3,R3),(1004,g4,R4),(3,(s.own 3).1 + 1,⟨62,8,[],1⟩)] ⟨rfl,rfl,rfl,rfl,rfl,rfl,rfl,rfl,rfl,trivial⟩ ?_
 generalize (s.own 3).1 + 1 = g
 rw [hml]
 intro s0
 refine pw_loop (fun k => k ≤ Pl.length) (fun k => [(0,.sl (l.map eS)),(3,.als 3 (g + k) 0 (((Pl.take k).map upA).map eA).length),(9,.sl (Pl.map eN)),(10,I Pl.length),(11,I k)]) (fun k => [(2,g2,R2),(1003,g3,R3),(1004,g4,R4),(3,g + k,⟨62,8,((Pl.take k).map upA).map eA,1⟩)]) (fun k => Pl.length - k) 0 (Nat.zero_le _) ⟨rfl,rfl,rfl,rfl,rfl,rfl,rfl,rfl,rfl,trivial⟩ ?_
 intro k s1 hk
 repeat refine stq rfl ?_
 refine pw_cond rfl (fun h => ?_) (fun h => ?_)
 ·have hlt : k < Pl.length := by have := of_decide_eq_true h;omega
  clear h
  obtain ⟨x,hx⟩ := get_lt hlt
  have hr := hrg x (List.mem_of_getElem? hx)
  have hnx := wholeF (-x) ⟨by omega,by omega⟩
  have hw : IntKind.i64.wrap (((k : Nat) : Int) + 1) = ((k + 1 : Nat) : Int) := by rw [wrap_i64 (by omega) (by omega)];omega
  have hn : IntKind.i64.wrap (0 - x) = -x := by rw [wrap_i64 (by omega) (by omega)];omega
  repeat refine stq rfl ?_
  refine qst rfl rfl (q_idxm rfl rfl rfl rfl rfl (by omega) hx rfl) ?_
  repeat refine stq rfl ?_
  rw [hn]
  refine qst rfl rfl (q_cs rfl hnx rfl rfl) ?_
  repeat refine stq rfl ?_
  refine qst rfl rfl (q_cs rfl w1 rfl rfl) ?_
  repeat refine stq rfl ?_
  refine ps_run (o_slit 1 rfl rfl rfl rfl rfl rfl rfl rfl rfl rfl rfl (by repeat' constructor) rfl ?_)
  repeat refine stq rfl ?_
  refine ps_run (o_app 1 rfl rfl rfl rfl rfl rfl rfl rfl rfl rfl rfl (by repeat' constructor) (by intro row hr;first | (simp at hr;subst hr;rfl) | simp at hr) rfl rfl (by simp;omega) (by simp;omega) ?_)
  repeat refine stq rfl ?_
  refine ⟨k + 1,hlt,by omega,rfl,?_,rfl,rfl,congrArg I hw,rfl,rfl,rfl,?_,trivial⟩
  ·rw [hrows k x hx];rfl
  ·rw [hrows k x hx];rfl
 ·have hge : k = Pl.length := by have := of_decide_eq_false h;omega
  subst hge
  clear h
  rw [List.take_length]
  repeat refine stq rfl ?_
  refine qst rfl rfl (q_cs rfl hp rfl rfl) ?_
  repeat refine stq rfl ?_
  refine pw_loop (fun k => k ≤ Pl.length) (fun k => [(3,.als 3 (g + Pl.length + k) 0 ((Pl.map upA ++ (Pl.take k).map dnA).map eA).length),(25,.sl (Pl.map eN)),(26,I Pl.length),(27,I k)]) (fun k => [(2,g2,R2),(1003,g3,R3),(1004,g4,R4),(3,g + Pl.length + k,⟨62,8,(Pl.map upA ++ (Pl.take k).map dnA).map eA,1⟩)]) (fun k => Pl.length - k) 0 (Nat.zero_le _) ⟨by rw [List.take_zero,List.map_nil,List.append_nil];rfl,rfl,by rw [← hml];rfl,rfl,rfl,rfl,rfl,by rw [List.take_zero,List.map_nil,List.append_nil];rfl,trivial⟩ ?_
  intro k s2 hk
  repeat refine stq rfl ?_
  refine pw_cond rfl (fun h => ?_) (fun h => ?_)
  ·have hlt : k < Pl.length := by have := of_decide_eq_true h;omega
   clear h
   obtain ⟨x,hx⟩ := get_lt hlt
   have hr := hrg x (List.mem_of_getElem? hx)
   have hnx := wholeF x ⟨by omega,by omega⟩
   have hw : IntKind.i64.wrap (((k : Nat) : Int) + 1) = ((k + 1 : Nat) : Int) := by rw [wrap_i64 (by omega) (by omega)];omega
   repeat refine stq rfl ?_
   refine qst rfl rfl (q_idxm rfl rfl rfl rfl rfl (by omega) hx rfl) ?_
   repeat refine stq rfl ?_
   refine qst rfl rfl (q_cs rfl hnx rfl rfl) ?_
   repeat refine stq rfl ?_
   refine qst rfl rfl (q_cs rfl w2 rfl rfl) ?_
   repeat refine stq rfl ?_
   refine ps_run (o_slit 1 rfl rfl rfl rfl rfl rfl rfl rfl rfl rfl rfl (by repeat' constructor) rfl ?_)
   repeat refine stq rfl ?_
   refine ps_run (o_app 1 rfl rfl rfl rfl rfl rfl rfl rfl rfl rfl rfl (by repeat' constructor) (by intro row hr;first | (simp at hr;subst hr;rfl) | simp at hr) rfl rfl (by simp;omega) (by simp;omega) ?_)
   repeat refine stq rfl ?_
   refine ⟨k + 1,hlt,by omega,?_,rfl,rfl,congrArg I hw,rfl,rfl,rfl,?_,trivial⟩
   ·rw [hrows2 k x hx];rfl
   ·rw [hrows2 k x hx];rfl
  ·have hge : k = Pl.length := by have := of_decide_eq_false h;omega
   subst hge
   clear h
   rw [List.take_length]
   repeat refine stq rfl ?_
   exact inl_one rfl rfl (hK s2 (g + Pl.length + Pl.length))
noncomputable def rmV (b : BR) (x : Int) (d : AR) : Option Rat := roomQ b x d.z.val d.t.val
noncomputable def bestM (b : BR) (x : Int) (L : List AR) : Option Rat := minL (L.filterMap (rmV b x))
def mC : Option Rat → List PV
 |none => zN
 |some y => eR (ofQ y)
theorem rmV_hq {b : BR} (hb : b.Ok) {x : Int} (hx : i64 x) {d : AR} (hd : Va d d.z.val d.t.val 4 4) {v : Rat} (h : rmV b x d = some v) : HQ v 10000 := by
 have h12 := hb.few.1
 have zx : Zb x := zb_i64 hx.1 hx.2
 have zw : Zb b.w := zb_i64 hb.lim.w.1 hb.lim.w.2
 rw [rmV,roomQ] at h
 split at h
 ·rename_i hc
  rw [← Option.some.inj h]
  have hs := sumN_hq (m := 215) b.l.length fun k hk => (yT_hq hb.lim.l hb.few hd.z.hq hd.t.hq hk (hc.2 k hk)).mono (by decide)
  have hw := @HQ.mul _ _ 4 _ (HQ.int (z := b.w)) (@HQ.add _ _ (4 + 1) _ hd.z.hq (@HQ.mul _ _ (4 + 1) 13 hd.t.hq hb.lim.a.v.hq))
  have hp := @HQ.add _ _ (4 + 1) _ hd.z.hq (@HQ.mul _ _ (4 + 1) 4 hd.t.hq (HQ.int (z := x)))
  exact (@HQ.div _ _ _ _ (@HQ.sub _ _ _ _ hs hw) hp).mono (by omega)
 ·cases h
theorem best_snoc (b : BR) (x : Int) (L : List AR) (d : AR) : bestM b x (L ++ [d]) = match rmV b x d with
  |none => bestM b x L
  |some v => some (match bestM b x L with
   |none => v
   |some y => if v < y then v else y) := by
 cases h : rmV b x d with
 |none => rw [bestM,List.filterMap_append,show List.filterMap (rmV b x) [d] = [] by simp [h],List.append_nil];rfl
 |some v => rw [bestM,List.filterMap_append,show List.filterMap (rmV b x) [d] = [v] by simp [h],minL_snoc];rfl
theorem best_hq {b : BR} (hb : b.Ok) {x : Int} (hx : i64 x) {L : List AR} (hL : ∀ d ∈ L,Va d d.z.val d.t.val 4 4) {y : Rat} (h : bestM b x L = some y) : HQ y 10000 := by
 obtain ⟨d,hd,e⟩ := List.mem_filterMap.1 (minL_some.1 h).1
 exact rmV_hq hb hx (hL d hd) e
def dirsR (l : List SR) : List AR := turnA l ++ [downA]
theorem dirsR_va {l : List SR} (hck : checkL l = 0) {r : AR} (h : r ∈ dirsR l) : Va r r.z.val r.t.val 4 4 := by
 rw [dirsR,List.mem_append] at h
 rcases h with h | h
 ·exact turn_va hck h
 ·rw [List.mem_singleton.1 h];exact down_va
theorem res_body (b : BR) (hb : b.Lim) (h0 : bodyE b ≠ 0) (x : Int) : Ret Tryz.prog .shared 31 [.agg (eB b),I x] (.tup [.agg zN,.bool false,I (bodyE b)]) := by
 have h1 := checkBody_ret b hb
 generalize bodyE b = e at *
 refine Ret.of_pwp layOk mixed Go.Proofs.Tryz.func31 rfl (by decide) rfl rfl ?_
 repeat refine stq rfl ?_
 refine qst rfl rfl (q_cp rfl h1 rfl rfl rfl) ?_
 repeat refine stq rfl ?_
 refine pw_cond rfl (fun h => ?_) (fun h => ?_)
 ·clear h
  repeat refine stq rfl ?_
  exact endm rfl (by repeat' constructor) rfl (by repeat' constructor) rfl
 ·exfalso
  simp at h
  exact h0 h
theorem res_far (b : BR) (hb : b.Ok) (x : Int) (hx : x < -1000000 ∨ 1000000 < x) : Ret Tryz.prog .shared 31 [.agg (eB b),I x] (.tup [.agg zN,.bool false,I 2]) := by
 have h1 := checkBody_ret b hb.lim
 rw [hb.chk] at h1
 have h2 := far_ret x
 rw [decide_eq_true hx] at h2
 refine Ret.of_pwp layOk mixed Go.Proofs.Tryz.func31 rfl (by decide) rfl rfl ?_
 repeat refine stq rfl ?_
 refine qst rfl rfl (q_cp rfl h1 rfl rfl rfl) ?_
 repeat refine stq rfl ?_
 refine qst rfl rfl (q_cp rfl h2 rfl rfl rfl) ?_
 repeat refine stq rfl ?_
 exact endm rfl (by repeat' constructor) rfl (by repeat' constructor) rfl
theorem res_ref (b : BR) (hb : b.Ok) (x : Int) (hx : ¬ (x < -1000000 ∨ 1000000 < x)) (r : AR) (e : Int) (he : e ≠ 0) (h93 : Ret Tryz.prog .shared 93 [.agg (eB b)] (.tup [.agg (eA r),I e])) : Ret Tryz.prog .shared 31 [.agg (eB b),I x] (.tup [.agg zN,.bool false,I e]) := by
 have h1 := checkBody_ret b hb.lim
 rw [hb.chk] at h1
 have h2 := far_ret x
 rw [decide_eq_false hx] at h2
 refine Ret.of_pwp layOk mixed Go.Proofs.Tryz.func31 rfl (by decide) rfl rfl ?_
 repeat refine stq rfl ?_
 refine qst rfl rfl (q_cp rfl h1 rfl rfl rfl) ?_
 repeat refine stq rfl ?_
 refine qst rfl rfl (q_cp rfl h2 rfl rfl rfl) ?_
 repeat refine stq rfl ?_
 refine qst rfl rfl (q_cs rfl h93 rfl rfl) ?_
 repeat refine stq rfl ?_
 refine pw_cond rfl (fun h => ?_) (fun h => ?_)
 ·clear h
  repeat refine stq rfl ?_
  exact endm rfl (by repeat' constructor) rfl (by repeat' constructor) rfl
 ·exfalso
  simp at h
  exact he h
theorem one_len {r1 : List PV} {n : Nat} (h1 : r1.length = n) : ∀ row ∈ [r1],row.length = n := by
 intro row hr
 rw [List.mem_singleton.1 hr];exact h1
set_option maxRecDepth 20000 in
theorem res_go (b : BR) (hb : b.Ok) (x : Int) (hx : ¬ (x < -1000000 ∨ 1000000 < x)) (h93 : Ret Tryz.prog .shared 93 [.agg (eB b)] (.tup [.agg (zN ++ zN),I 0])) : Ret Tryz.prog .shared 31 [.agg (eB b),I x] (.tup [.agg (mC (bestM b x (dirsR b.l))),.bool (bestM b x (dirsR b.l)).isSome,I 0]) := by
 have h1 := checkBody_ret b hb.lim
 rw [hb.chk] at h1
 have h2 := far_ret x
 rw [decide_eq_false hx] at h2
 have hx64 : i64 x := ⟨by omega,by omega⟩
 have hl := hb.lim.l
 have hck := hb.chkL
 have h12 := hb.few.1
 have hlen : (dirsR b.l).length ≤ 1000 := by
  have := places_len b.l
  rw [dirsR,turnA];simp;omega
 have w1 := wholeF 1 ⟨by decide,by decide⟩
 have w0 := wholeF 0 ⟨by decide,by decide⟩
 have wx := wholeF x hx64
 have zx : Zb x := zb_i64 hx64.1 hx64.2
 have zw : Zb b.w := zb_i64 hb.lim.w.1 hb.lim.w.2
 have hT : (turnA b.l).length ≤ 1000 := by rw [dirsR] at hlen;simp at hlen;omega
 have hrow : (turnA b.l).map eA ++ [eA downA] = (dirsR b.l).map eA := by rw [dirsR,List.map_append];rfl
 have hrl : ((dirsR b.l).map eA).length = (dirsR b.l).length := by simp
 refine Ret.of_pwp layOk mixed Go.Proofs.Tryz.func31 rfl (by decide) rfl rfl ?_
 repeat refine stq rfl ?_
 refine qst rfl rfl (q_cp rfl h1 rfl rfl rfl) ?_
 repeat refine stq rfl ?_
 refine qst rfl rfl (q_cp rfl h2 rfl rfl rfl) ?_
 repeat refine stq rfl ?_
 refine qst rfl rfl (q_cs rfl h93 rfl rfl) ?_
 (repeat ((fail_if_success (with_reducible refine pw_at 11 ?_));refine stx rfl ?_))
 refine pw_ghost (Ghost.move (k := 4) (k' := 1003) (t := 4) rfl rfl rfl rfl) ?_
 refine pw_ghost (Ghost.move (k := 11) (k' := 1004) (t := 11) rfl rfl rfl rfl) ?_
 ((repeat ((fail_if_success (with_reducible refine pw_at 11 ?_));refine stx rfl ?_));refine pw_regionS 2 ?_)
 iterate 2 refine stq rfl ?_
 refine ps_nil ?_
 refine psem_sm rfl (turning_sm3 (g2 := 1) b.l hl (by omega) hck rfl ⟨rfl,rfl,rfl,trivial⟩ fun s1 g => ?_)
 refine psem_ops ?_
 repeat refine stq rfl ?_
 refine qst rfl rfl (q_cs rfl w1 rfl rfl) ?_
 repeat refine stq rfl ?_
 refine qst rfl rfl (q_cs rfl w0 rfl rfl) ?_
 repeat refine stq rfl ?_
 refine ps_run (o_slit 1 rfl rfl rfl rfl rfl rfl rfl rfl rfl rfl rfl (by repeat' constructor) rfl ?_)
 repeat refine stq rfl ?_
 refine ps_run (o_app 1 rfl rfl rfl rfl rfl rfl rfl rfl rfl rfl rfl (by repeat' constructor) (one_len rfl) rfl rfl (by simp;omega) (by simp;omega) ?_)
 repeat refine stq rfl ?_
 generalize hD : dirsR b.l = D at *
 have hva : ∀ d ∈ D,Va d d.z.val d.t.val 4 4 := fun d hd => dirsR_va hck (by rw [hD];exact hd)
 refine pw_loop (fun i : Nat => i ≤ D.length) (fun i => [(1,I x),(2,.ptr 2 1 0 0),(4,.ptr 1003 1 0 0),(10,.bool (bestM b x (D.take i)).isSome),(11,.ptr 1004 1 0 0),(43,.als 3 (g + 1) 0 (D.map eA).length),(44,I D.length),(45,I (i : Nat))])
  (fun i => [(2,1,⟨29,6,[eB b],2⟩),(1003,1,⟨26,4,[zN],2⟩),(1004,1,⟨26,4,[mC (bestM b x (D.take i))],2⟩),(3,g + 1,⟨62,8,D.map eA,1⟩)]) (fun i => D.length - i) 0 (Nat.zero_le _) ⟨rfl,rfl,rfl,rfl,rfl,by rw [← hrow];rfl,by rw [← hrl,← hrow];rfl,rfl,rfl,rfl,rfl,by rw [← hrow];rfl,trivial⟩ ?_
 intro i s hi
 repeat refine stq rfl ?_
 refine pw_cond rfl (fun h => ?_) (fun h => ?_)
 ·have hlt : i < D.length := by have := of_decide_eq_true h;omega
  clear h
  obtain ⟨d,hd⟩ := get_lt hlt
  have hdm := List.mem_of_getElem? hd
  have hdv := hva d hdm
  have hgr : (D.map eA)[0 + ((i : Nat) : Int).toNat]? = some (eA d) := by rw [Nat.zero_add,Int.toNat_natCast,List.getElem?_map,hd];rfl
  have hw : IntKind.i64.wrap (((i : Nat) : Int) + 1) = ((i + 1 : Nat) : Int) := by rw [wrap_i64 (by omega) (by omega)];omega
  have hsn := best_snoc b x (D.take i) d
  rw [← take_snocU hd] at hsn
  have hmq : ∀ y,bestM b x (D.take i) = some y → HQ y 10000 := fun y hy => best_hq hb hx64 (fun q hq => hva q (List.mem_of_mem_take hq)) hy
  have e1 := yield_ret b.l hl hb.few hck d hdv (by decide) (by decide)
  have e2 := demand_ret 1 ⟨by decide,by decide⟩ (ofQ (x : Rat)) d (p := (x : Rat)) (Vq.ofQ (h := HQ.int (z := x))) hdv (by decide) (by decide) (by decide)
  rw [show (((1 : Int)) : Rat) * (d.z.val + d.t.val * (x : Rat)) = d.z.val + d.t.val * (x : Rat) by rw [show (((1 : Int)) : Rat) = 1 from rfl,Rat.one_mul]] at e2
  have qp := @HQ.add _ _ (4 + 1) _ hdv.z.hq (@HQ.mul _ _ (4 + 1) 4 hdv.t.hq (HQ.int (z := x)))
  have vp : Vq (ofQ (d.z.val + d.t.val * (x : Rat))) (d.z.val + d.t.val * (x : Rat)) _ := Vq.ofQ (h := qp)
  have e3 := signF (ofQ (d.z.val + d.t.val * (x : Rat))) (hx := vp) (by decide)
  have hst := sgn_le (d.z.val + d.t.val * (x : Rat))
  have e4 := demand_ret b.w hb.lim.w b.a d hb.lim.a.v hdv (by decide) (by decide) (by decide)
  rw [yldR] at e1
  by_cases hall : AllLim b.l d.z.val d.t.val b.l.length
  rotate_left
  ·rw [if_neg hall] at e1
   rw [show rmV b x d = none from room_no fun h => hall h.2] at hsn
   have hsn : bestM b x (D.take (i + 1)) = bestM b x (D.take i) := hsn
   rw [← hsn]
   generalize ofQ (x : Rat) = X0 at *
   generalize sgn (d.z.val + d.t.val * (x : Rat)) = sg at *
   generalize ofQ (d.z.val + d.t.val * (x : Rat)) = P0 at *
   repeat refine stq rfl ?_
   refine qst rfl rfl (q_idxA rfl rfl rfl rfl rfl rfl rfl (by omega) (by rw [hrl];omega)) ?_
   repeat refine stq rfl ?_
   refine qst rfl rfl (q_ldp rfl rfl rfl hgr rfl) ?_
   repeat refine stq rfl ?_
   refine qst rfl rfl (q_cs rfl e1 rfl rfl) ?_
   repeat refine stq rfl ?_
   (repeat ((fail_if_success (with_reducible refine pw_at 15 ?_));refine stx rfl ?_))
   refine pw_ghost (gdrop 16) ?_
   refine pw_draw2 4 1 [56,57,58,59,16] [] (by decide +kernel) rfl ?_
   repeat refine stq rfl ?_
   refine qst rfl rfl (q_cs rfl wx rfl rfl) ?_
   repeat refine stq rfl ?_
   refine qst rfl rfl (q_cs rfl e2 rfl rfl) ?_
   repeat refine stq rfl ?_
   repeat refine stq rfl ?_
   exact ⟨i + 1,hlt,by omega,rfl,rfl,rfl,rfl,rfl,rfl,rfl,congrArg I hw,rfl,rfl,rfl,rfl,trivial⟩
  rw [if_pos hall] at e1
  by_cases hper : 0 < d.z.val + d.t.val * (x : Rat)
  rotate_left
  ·rw [show rmV b x d = none from room_no fun h => hper h.1] at hsn
   have hsn : bestM b x (D.take (i + 1)) = bestM b x (D.take i) := hsn
   have hle := hst.2 (by grind)
   rw [← hsn]
   generalize ofQ (x : Rat) = X0 at *
   generalize sgn (d.z.val + d.t.val * (x : Rat)) = sg at *
   generalize ofQ (d.z.val + d.t.val * (x : Rat)) = P0 at *
   repeat refine stq rfl ?_
   refine qst rfl rfl (q_idxA rfl rfl rfl rfl rfl rfl rfl (by omega) (by rw [hrl];omega)) ?_
   repeat refine stq rfl ?_
   refine qst rfl rfl (q_ldp rfl rfl rfl hgr rfl) ?_
   repeat refine stq rfl ?_
   refine qst rfl rfl (q_cs rfl e1 rfl rfl) ?_
   repeat refine stq rfl ?_
   (repeat ((fail_if_success (with_reducible refine pw_at 15 ?_));refine stx rfl ?_))
   refine pw_ghost (gdrop 16) ?_
   refine pw_draw2 4 1 [56,57,58,59,16] [] (by decide +kernel) rfl ?_
   repeat refine stq rfl ?_
   refine qst rfl rfl (q_cs rfl wx rfl rfl) ?_
   repeat refine stq rfl ?_
   refine qst rfl rfl (q_cs rfl e2 rfl rfl) ?_
   repeat refine stq rfl ?_
   refine qst rfl rfl (q_cp rfl e3 rfl rfl rfl) ?_
   repeat refine stq rfl ?_
   refine pw_cond rfl (fun h => ?_) (fun h => ?_)
   rotate_left
   ·exfalso
    have := of_decide_eq_false h
    omega
   clear h
   repeat refine stq rfl ?_
   exact ⟨i + 1,hlt,by omega,rfl,rfl,rfl,rfl,rfl,rfl,rfl,congrArg I hw,rfl,rfl,rfl,rfl,trivial⟩
  have hnle : ¬ sgn (d.z.val + d.t.val * (x : Rat)) ≤ 0 := fun h => by have := hst.1 h;grind
  have hrm : rmV b x d = some ((sumN (yT b.l d.z.val d.t.val) b.l.length - (b.w : Rat) * (d.z.val + d.t.val * b.a.val)) / (d.z.val + d.t.val * (x : Rat))) := room_yes ⟨hper,hall⟩
  have hvq := rmV_hq hb hx64 hdv hrm
  have qs := (sumN_hq (m := 215) b.l.length fun k hk => (yT_hq hl hb.few hdv.z.hq hdv.t.hq hk (hall k hk)).mono (by decide)).mono (show b.l.length * (215 + 1) + 4 ≤ 3000 by omega)
  have qw := @HQ.mul _ _ 4 _ (HQ.int (z := b.w)) (@HQ.add _ _ (4 + 1) _ hdv.z.hq (@HQ.mul _ _ (4 + 1) 13 hdv.t.hq hb.lim.a.v.hq))
  have e5 := subR (ofQ (sumN (yT b.l d.z.val d.t.val) b.l.length)) (ofQ ((b.w : Rat) * (d.z.val + d.t.val * b.a.val))) (hx := Vq.ofQ (h := qs)) (hy := Vq.ofQ (h := qw)) (by decide) (by decide)
  have e6 := overF (ofQ (sumN (yT b.l d.z.val d.t.val) b.l.length - (b.w : Rat) * (d.z.val + d.t.val * b.a.val))) (ofQ (d.z.val + d.t.val * (x : Rat))) (hx := Vq.ofQ (h := @HQ.sub _ _ _ _ qs qw)) (hy := vp) (by decide) (by decide) (by grind)
  rw [hrm] at hsn
  generalize (sumN (yT b.l d.z.val d.t.val) b.l.length - (b.w : Rat) * (d.z.val + d.t.val * b.a.val)) / (d.z.val + d.t.val * (x : Rat)) = v at *
  generalize ofQ (sumN (yT b.l d.z.val d.t.val) b.l.length - (b.w : Rat) * (d.z.val + d.t.val * b.a.val)) = E5 at *
  generalize ofQ (sumN (yT b.l d.z.val d.t.val) b.l.length) = S0 at *
  generalize ofQ ((b.w : Rat) * (d.z.val + d.t.val * b.a.val)) = W0 at *
  generalize ofQ (x : Rat) = X0 at *
  clear vp qp qs qw hper hall hrm
  generalize sgn (d.z.val + d.t.val * (x : Rat)) = sg at *
  generalize ofQ (d.z.val + d.t.val * (x : Rat)) = P0 at *
  cases hm : bestM b x (D.take i) with
  |none =>
   rw [hm] at hsn
   simp only at hsn
   generalize hv : ofQ v = V at *
   generalize hM1 : bestM b x (D.take (i + 1)) = M1 at *
   subst hsn
   obtain ⟨w,ba,l⟩ := b
   obtain ⟨dz,dt⟩ := d
   simp only at *
   repeat refine stq rfl ?_
   refine qst rfl rfl (q_idxA rfl rfl rfl rfl rfl rfl rfl (by omega) (by rw [hrl];omega)) ?_
   repeat refine stq rfl ?_
   refine qst rfl rfl (q_ldp rfl rfl rfl hgr rfl) ?_
   repeat refine stq rfl ?_
   refine qst rfl rfl (q_cs rfl e1 rfl rfl) ?_
   repeat refine stq rfl ?_
   (repeat ((fail_if_success (with_reducible refine pw_at 15 ?_));refine stx rfl ?_))
   refine pw_ghost (gdrop 16) ?_
   refine pw_draw2 4 1 [56,57,58,59,16] [] (by decide +kernel) rfl ?_
   repeat refine stq rfl ?_
   refine qst rfl rfl (q_cs rfl wx rfl rfl) ?_
   repeat refine stq rfl ?_
   refine qst rfl rfl (q_cs rfl e2 rfl rfl) ?_
   repeat refine stq rfl ?_
   refine qst rfl rfl (q_cp rfl e3 rfl rfl rfl) ?_
   repeat refine stq rfl ?_
   refine pw_cond rfl (fun h => ?_) (fun h => ?_)
   ·exact absurd (of_decide_eq_true h) hnle
   clear h
   repeat refine stq rfl ?_
   (repeat ((fail_if_success (with_reducible refine pw_at 17 ?_));refine stx rfl ?_))
   refine pw_ghost (gdrop 17) ?_
   refine pw_draw2 10 1 [67,68,69,70,71,72,73,74,75,76,17] [] (by decide +kernel) rfl ?_
   repeat refine stq rfl ?_
   refine qst rfl rfl (q_cs rfl e4 rfl rfl) ?_
   repeat refine stq rfl ?_
   refine qst rfl rfl (q_cs rfl e5 rfl rfl) ?_
   repeat refine stq rfl ?_
   refine qst rfl rfl (q_cs rfl e6 rfl rfl) ?_
   repeat refine stq rfl ?_
   refine pw_draw3 [1004] [2] (by decide +kernel) ?_
   repeat refine stq rfl ?_
   refine ⟨i + 1,hlt,by omega,rfl,rfl,rfl,by rw [hM1];rfl,rfl,rfl,rfl,congrArg I hw,rfl,rfl,?_,rfl,trivial⟩
   show (_ : Nat × Option Cont) = (1,some (Cont.mk 26 4 [mC (bestM ⟨w,ba,l⟩ x (D.take (i + 1)))] 2))
   rw [hM1,show mC (some v) = eR V by rw [mC,hv]]
   rfl
  |some y =>
   rw [hm] at hsn
   simp only at hsn
   have hyq := hmq y hm
   have e7 := cmpR (ofQ v) (ofQ y) (hx := Vq.ofQ (h := hvq)) (hy := Vq.ofQ (h := hyq)) (by decide) (by decide)
   have hsl := sgn_lt (v - y)
   by_cases hvy : v < y
   ·rw [if_pos hvy] at hsn
    have hneg := hsl.2 (by grind)
    generalize sgn (v - y) = sc at *
    generalize hv : ofQ v = V at *
    generalize hy : ofQ y = Y at *
    generalize hM1 : bestM b x (D.take (i + 1)) = M1 at *
    subst hsn
    obtain ⟨w,ba,l⟩ := b
    obtain ⟨dz,dt⟩ := d
    simp only at *
    rw [mC,hy]
    repeat refine stq rfl ?_
    refine qst rfl rfl (q_idxA rfl rfl rfl rfl rfl rfl rfl (by omega) (by rw [hrl];omega)) ?_
    repeat refine stq rfl ?_
    refine qst rfl rfl (q_ldp rfl rfl rfl hgr rfl) ?_
    repeat refine stq rfl ?_
    refine qst rfl rfl (q_cs rfl e1 rfl rfl) ?_
    repeat refine stq rfl ?_
    (repeat ((fail_if_success (with_reducible refine pw_at 15 ?_));refine stx rfl ?_))
    refine pw_ghost (gdrop 16) ?_
    refine pw_draw2 4 1 [56,57,58,59,16] [] (by decide +kernel) rfl ?_
    repeat refine stq rfl ?_
    refine qst rfl rfl (q_cs rfl wx rfl rfl) ?_
    repeat refine stq rfl ?_
    refine qst rfl rfl (q_cs rfl e2 rfl rfl) ?_
    repeat refine stq rfl ?_
    refine qst rfl rfl (q_cp rfl e3 rfl rfl rfl) ?_
    repeat refine stq rfl ?_
    refine pw_cond rfl (fun h => ?_) (fun h => ?_)
    ·exact absurd (of_decide_eq_true h) hnle
    clear h
    repeat refine stq rfl ?_
    (repeat ((fail_if_success (with_reducible refine pw_at 17 ?_));refine stx rfl ?_))
    refine pw_ghost (gdrop 17) ?_
    refine pw_draw2 10 1 [67,68,69,70,71,72,73,74,75,76,17] [] (by decide +kernel) rfl ?_
    repeat refine stq rfl ?_
    refine qst rfl rfl (q_cs rfl e4 rfl rfl) ?_
    repeat refine stq rfl ?_
    refine qst rfl rfl (q_cs rfl e5 rfl rfl) ?_
    repeat refine stq rfl ?_
    refine qst rfl rfl (q_cs rfl e6 rfl rfl) ?_
    repeat refine stq rfl ?_
    refine qst rfl rfl (q_cp rfl e7 rfl rfl rfl) ?_
    repeat refine stq rfl ?_
    refine pw_cond rfl (fun h => ?_) (fun h => ?_)
    rotate_left
    ·exfalso
     have := of_decide_eq_false h
     omega
    clear h
    repeat refine stq rfl ?_
    refine pw_draw3 [1004] [2] (by decide +kernel) ?_
    repeat refine stq rfl ?_
    refine ⟨i + 1,hlt,by omega,rfl,rfl,rfl,by rw [hM1];rfl,rfl,rfl,rfl,congrArg I hw,rfl,rfl,?_,rfl,trivial⟩
    show (_ : Nat × Option Cont) = (1,some (Cont.mk 26 4 [mC (bestM ⟨w,ba,l⟩ x (D.take (i + 1)))] 2))
    rw [hM1,show mC (some v) = eR V by rw [mC,hv]]
    rfl
   ·rw [if_neg hvy] at hsn
    have hneg : ¬ sgn (v - y) < 0 := fun h => hvy (by have := hsl.1 h;grind)
    generalize sgn (v - y) = sc at *
    generalize hv : ofQ v = V at *
    generalize hy : ofQ y = Y at *
    generalize hM1 : bestM b x (D.take (i + 1)) = M1 at *
    subst hsn
    obtain ⟨w,ba,l⟩ := b
    obtain ⟨dz,dt⟩ := d
    simp only at *
    rw [mC,hy]
    repeat refine stq rfl ?_
    refine qst rfl rfl (q_idxA rfl rfl rfl rfl rfl rfl rfl (by omega) (by rw [hrl];omega)) ?_
    repeat refine stq rfl ?_
    refine qst rfl rfl (q_ldp rfl rfl rfl hgr rfl) ?_
    repeat refine stq rfl ?_
    refine qst rfl rfl (q_cs rfl e1 rfl rfl) ?_
    repeat refine stq rfl ?_
    (repeat ((fail_if_success (with_reducible refine pw_at 15 ?_));refine stx rfl ?_))
    refine pw_ghost (gdrop 16) ?_
    refine pw_draw2 4 1 [56,57,58,59,16] [] (by decide +kernel) rfl ?_
    repeat refine stq rfl ?_
    refine qst rfl rfl (q_cs rfl wx rfl rfl) ?_
    repeat refine stq rfl ?_
    refine qst rfl rfl (q_cs rfl e2 rfl rfl) ?_
    repeat refine stq rfl ?_
    refine qst rfl rfl (q_cp rfl e3 rfl rfl rfl) ?_
    repeat refine stq rfl ?_
    refine pw_cond rfl (fun h => ?_) (fun h => ?_)
    ·exact absurd (of_decide_eq_true h) hnle
    clear h
    repeat refine stq rfl ?_
    (repeat ((fail_if_success (with_reducible refine pw_at 17 ?_));refine stx rfl ?_))
    refine pw_ghost (gdrop 17) ?_
    refine pw_draw2 10 1 [67,68,69,70,71,72,73,74,75,76,17] [] (by decide +kernel) rfl ?_
    repeat refine stq rfl ?_
    refine qst rfl rfl (q_cs rfl e4 rfl rfl) ?_
    repeat refine stq rfl ?_
    refine qst rfl rfl (q_cs rfl e5 rfl rfl) ?_
    repeat refine stq rfl ?_
    refine qst rfl rfl (q_cs rfl e6 rfl rfl) ?_
    repeat refine stq rfl ?_
    refine qst rfl rfl (q_cp rfl e7 rfl rfl rfl) ?_
    repeat refine stq rfl ?_
    refine pw_cond rfl (fun h => ?_) (fun h => ?_)
    ·exfalso
     have := of_decide_eq_true h
     omega
    clear h
    repeat refine stq rfl ?_
    refine ⟨i + 1,hlt,by omega,rfl,rfl,rfl,by rw [hM1];rfl,rfl,rfl,rfl,congrArg I hw,rfl,rfl,?_,rfl,trivial⟩
    show (_ : Nat × Option Cont) = (1,some (Cont.mk 26 4 [mC (bestM ⟨w,ba,l⟩ x (D.take (i + 1)))] 2))
    rw [hM1,show mC (some y) = eR Y by rw [mC,hy]]
    rfl
 ·have hie : i = D.length := by have := of_decide_eq_false h;omega
  clear h
  rw [hie,List.take_length]
  generalize bestM b x D = m at *
  cases m with
  |none =>
   repeat refine stq rfl ?_
   exact endm rfl (by repeat' constructor) rfl (by repeat' constructor) rfl
  |some y =>
   rw [mC]
   repeat refine stq rfl ?_
   exact endm rfl (by repeat' constructor) rfl (by repeat' constructor) rfl
end Go.Pv


set_option maxHeartbeats 2000000
namespace Go.Pv
attribute [local irreducible] PWP POps PQuiet PSem XThen XBlock RetPost InlPost
open Go.Proofs
end Go.Pv


set_option maxHeartbeats 2000000
namespace Go.Pv
attribute [local irreducible] PWP POps PQuiet PSem XThen XBlock RetPost InlPost
open Go.Proofs
theorem many_good {b : BR} (hb : ArgB b) (h : manyB b = true) : b.Lim ∧ (bodyE b = 0 → b.Ok ∧ (bd b).Sz) := by
 rw [manyB,Bool.and_eq_true,shR_sz,shL_iff] at h
 exact ⟨⟨hb.w,h.2.mono (by decide),short_limL hb.data h.1 (by decide) (by decide)⟩,fun hc => ⟨short_ok hb.w hb.data h.2 h.1 (by decide) (by decide) hc,short_sz hb.w hb.data h.2 h.1 (by decide) (by decide) hc⟩⟩
end Go.Pv


set_option maxHeartbeats 2000000
namespace Go.Pv
attribute [local irreducible] PWP POps PQuiet PSem XThen XBlock RetPost InlPost
open Go.Proofs
end Go.Pv


set_option maxHeartbeats 2000000
namespace Go.Pv
attribute [local irreducible] PWP POps PQuiet PSem XThen XBlock RetPost InlPost
open Go.Proofs
theorem same_zz : Ret Tryz.prog .shared 32 [.agg zN,.agg zN] (.bool true) :=
 (sameR_ret RR.zero ⟨Nat.zero_le _,Nat.zero_le _⟩).weak (.cons zN_weak.agg (.cons zN_weak.agg .nil)) (.rfl _)
end Go.Pv


set_option maxHeartbeats 2000000
namespace Go.Pv
attribute [local irreducible] PWP POps PQuiet PSem XThen XBlock RetPost InlPost
open Go.Proofs
def twoD (p : Int) : List AR := [upA p,dnA p]
def dirsI (P : List Int) : List AR := downA :: P.flatMap twoD
theorem dirsI_mem {l : List SR} (d : AR) : d ∈ dirsI (placesL l) ↔ d ∈ dirsR l := by
 rw [dirsI,dirsR,turnA]
 simp only [List.mem_cons,List.mem_append,List.mem_flatMap,List.mem_map,twoD,List.not_mem_nil,or_false]
 constructor
 ·rintro (h | ⟨p,hp,h | h⟩)
  ·exact .inr h
  ·exact .inl (.inl ⟨p,hp,h.symm⟩)
  ·exact .inl (.inr ⟨p,hp,h.symm⟩)
 ·rintro ((⟨p,hp,h⟩ | ⟨p,hp,h⟩) | h)
  ·exact .inr ⟨p,hp,.inl h.symm⟩
  ·exact .inr ⟨p,hp,.inr h.symm⟩
  ·exact .inl h
theorem best_dirs (b : BR) (x : Int) : bestM b x (dirsI (placesL b.l)) = bestM b x (dirsR b.l) :=
 minL_ext fun z => by
  rw [List.mem_filterMap,List.mem_filterMap]
  constructor
  ·rintro ⟨d,hd,e⟩;exact ⟨d,(dirsI_mem d).1 hd,e⟩
  ·rintro ⟨d,hd,e⟩;exact ⟨d,(dirsI_mem d).2 hd,e⟩
def resT (m : Option Rat) (e : Int) : PV := .tup [.agg (mC m),.bool m.isSome,I e]
theorem rres_far (b : BR) (x : Int) (hx : x < -1000000 ∨ 1000000 < x) : Ret Tryz.prog .shared 33 [.agg (eB b),I x] (resT none 2) := by
 rw [resT]
 by_cases h1 : x < -1000000
 ·refine Ret.of_pwp layOk mixed Go.Proofs.Tryz.func33 rfl (by decide) rfl rfl ?_
  repeat refine stq rfl ?_
  (first|refine ps_split rfl rfl ?_ ?_|refine pq_split rfl rfl ?_ ?_|refine p3_split rfl rfl ?_ ?_)<;>intro h
  ·clear h
   repeat refine stq rfl ?_
   exact endm rfl (by repeat' constructor) rfl (by repeat' constructor) rfl
  ·exact absurd h1 (of_decide_eq_false h)
 ·refine Ret.of_pwp layOk mixed Go.Proofs.Tryz.func33 rfl (by decide) rfl rfl ?_
  repeat refine stq rfl ?_
  (first|refine ps_split rfl rfl ?_ ?_|refine pq_split rfl rfl ?_ ?_|refine p3_split rfl rfl ?_ ?_)<;>intro h
  ·exact absurd (of_decide_eq_true h) h1
  clear h
  repeat refine stq rfl ?_
  refine pw_cond rfl (fun h => ?_) (fun h => ?_)
  ·clear h
   repeat refine stq rfl ?_
   exact endm rfl (by repeat' constructor) rfl (by repeat' constructor) rfl
  ·have := of_decide_eq_false h
   omega
theorem rres_ref (b : BR) (x : Int) (hx : ¬ (x < -1000000 ∨ 1000000 < x)) (r : AR) (e : Int) (he : e ≠ 0) (h102 : Ret Tryz.prog .shared 102 [.agg (eB b)] (.tup [.agg (eA r),I e])) : Ret Tryz.prog .shared 33 [.agg (eB b),I x] (resT none e) := by
 rw [resT]
 refine Ret.of_pwp layOk mixed Go.Proofs.Tryz.func33 rfl (by decide) rfl rfl ?_
 repeat refine stq rfl ?_
 (first|refine ps_split rfl rfl ?_ ?_|refine pq_split rfl rfl ?_ ?_|refine p3_split rfl rfl ?_ ?_)<;>intro h
 ·have := of_decide_eq_true h
  omega
 clear h
 repeat refine stq rfl ?_
 refine pw_cond rfl (fun h => ?_) (fun h => ?_)
 ·have := of_decide_eq_true h
  omega
 clear h
 repeat refine stq rfl ?_
 refine qst rfl rfl (q_cs rfl h102 rfl rfl) ?_
 repeat refine stq rfl ?_
 refine pw_cond rfl (fun h => ?_) (fun h => ?_)
 ·clear h
  repeat refine stq rfl ?_
  exact endm rfl (by repeat' constructor) rfl (by repeat' constructor) rfl
 ·exfalso
  simp at h
  exact he h
set_option maxRecDepth 20000 in
theorem rres_go (b : BR) (hb : b.Ok) (x : Int) (hx : ¬ (x < -1000000 ∨ 1000000 < x)) (h102 : Ret Tryz.prog .shared 102 [.agg (eB b)] (.tup [.agg (zN ++ zN),I 0])) : Ret Tryz.prog .shared 33 [.agg (eB b),I x] (resT (bestM b x (dirsR b.l)) 0) := by
 rw [← best_dirs,resT]
 have hx64 : i64 x := ⟨by omega,by omega⟩
 have hck := hb.chkL
 have h12 := hb.few.1
 have w1 := bW_ret 1 ⟨by decide,by decide⟩
 have w0 := bW_ret 0 ⟨by decide,by decide⟩
 have w2 := bW_ret (-1) ⟨by decide,by decide⟩
 have hp := rplaces_ret b.l (by omega)
 have hrg : ∀ p ∈ placesL b.l,-1000000 ≤ p ∧ p ≤ 1000000 := fun p hp => place_range hck hp
 have hPl : (placesL b.l).length ≤ 1000 := by
  have := places_len b.l
  omega
 have hva : ∀ d ∈ dirsI (placesL b.l),Va d d.z.val d.t.val 4 4 := fun d hd => dirsR_va hck ((dirsI_mem d).1 hd)
 generalize placesL b.l = P at *
 have hml : (P.map eN).length = P.length := by simp
 have hlI : ∀ k,k ≤ P.length → (dirsI (P.take k)).length = 1 + 2 * k := fun k hk => by
  rw [dirsI,List.length_cons,List.length_flatMap]
  have : List.map (fun a => (twoD a).length) (P.take k) = List.replicate k 2 := by
   rw [List.eq_replicate_iff]
   refine ⟨by simp;omega,fun y hy => ?_⟩
   obtain ⟨_,_,rfl⟩ := List.mem_map.1 hy
   rfl
  rw [this,List.sum_replicate_nat];omega
 have hrows : ∀ (k : Nat) p,P[k]? = some p → (dirsI (P.take (k + 1))).map eA = (dirsI (P.take k)).map eA ++ [eA (upA p),eA (dnA p)] := fun k p hp => by
  rw [dirsI,dirsI,take_snocU hp,List.flatMap_append]
  simp [twoD]
 refine Ret.of_pwp layOk mixed Go.Proofs.Tryz.func33 rfl (by decide) rfl rfl ?_
 repeat refine stq rfl ?_
 (first|refine ps_split rfl rfl ?_ ?_|refine pq_split rfl rfl ?_ ?_|refine p3_split rfl rfl ?_ ?_)<;>intro h
 ·have := of_decide_eq_true h
  omega
 clear h
 repeat refine stq rfl ?_
 refine pw_cond rfl (fun h => ?_) (fun h => ?_)
 ·have := of_decide_eq_true h
  omega
 clear h
 repeat refine stq rfl ?_
 refine qst rfl rfl (q_cs rfl h102 rfl rfl) ?_
 repeat refine stq rfl ?_
 refine qst rfl rfl (q_cs rfl w1 rfl rfl) ?_
 repeat refine stq rfl ?_
 refine qst rfl rfl (q_cs rfl w0 rfl rfl) ?_
 repeat refine stq rfl ?_
 refine ps_run (o_slit 1 rfl rfl rfl rfl rfl rfl rfl rfl rfl rfl rfl (by repeat' constructor) rfl ?_)
 repeat refine stq rfl ?_
 refine qst rfl rfl (q_cs rfl hp rfl rfl) ?_
 repeat refine stq rfl ?_
 refine pw_loop (fun k : Nat => k ≤ P.length) (fun k => [(1,I x),(2,.ptr 2 1 0 0),(4,.ptr 4 1 0 0),(9,.als 36 (1 + k) 0 ((dirsI (P.take k)).map eA).length),(10,.sl (P.map eN)),(11,I (k : Nat))])
  (fun k => [(2,1,⟨29,6,[eB b],2⟩),(4,1,⟨26,4,[zN],2⟩),(36,1 + k,⟨62,8,(dirsI (P.take k)).map eA,1⟩)]) (fun k => P.length - k) 0 (Nat.zero_le _) ⟨rfl,rfl,rfl,rfl,rfl,rfl,rfl,rfl,rfl,trivial⟩ ?_
 intro k s hk
 repeat refine stq rfl ?_
 refine pw_cond rfl (fun h => ?_) (fun h => ?_)
 ·have hlt : k < P.length := by have := of_decide_eq_true h;omega
  clear h
  obtain ⟨p,hpx⟩ := get_lt hlt
  have hr := hrg p (List.mem_of_getElem? hpx)
  have wn := bW_ret (-p) ⟨by omega,by omega⟩
  have wp := bW_ret p ⟨by omega,by omega⟩
  have hw : IntKind.i64.wrap (((k : Nat) : Int) + 1) = ((k + 1 : Nat) : Int) := by rw [wrap_i64 (by omega) (by omega)];omega
  have hn : IntKind.i64.wrap (0 - p) = -p := by rw [wrap_i64 (by omega) (by omega)];omega
  have hil := hlI k (by omega)
  have hrr := hrows k p hpx
  generalize hL1 : dirsI (P.take (k + 1)) = L1 at *
  generalize dirsI (P.take k) = L0 at *
  repeat refine stq rfl ?_
  refine pw_draw3 [62,36] [16,17,18] (by decide +kernel) ?_
  repeat refine stq rfl ?_
  refine qst rfl rfl (q_idxm rfl rfl rfl rfl rfl (by omega) hpx rfl) ?_
  repeat refine stq rfl ?_
  rw [hn]
  refine qst rfl rfl (q_cs rfl wn rfl rfl) ?_
  repeat refine stq rfl ?_
  refine qst rfl rfl (q_cs rfl w1 rfl rfl) ?_
  repeat refine stq rfl ?_
  refine qst rfl rfl (q_idxm rfl rfl rfl rfl rfl (by omega) hpx rfl) ?_
  repeat refine stq rfl ?_
  refine qst rfl rfl (q_cs rfl wp rfl rfl) ?_
  repeat refine stq rfl ?_
  refine qst rfl rfl (q_cs rfl w2 rfl rfl) ?_
  repeat refine stq rfl ?_
  refine z3e rfl rfl rfl (o_slit 1 rfl rfl rfl rfl rfl rfl rfl rfl rfl rfl rfl (by repeat' constructor) rfl ⟨offz rfl,?_⟩)
  repeat refine stq rfl ?_
  refine z3e rfl rfl rfl (o_app 1 rfl rfl rfl rfl rfl rfl rfl rfl rfl rfl rfl (by repeat' constructor) (two_len rfl rfl) rfl rfl (by simp;omega) (by simp;omega) ⟨offz rfl,?_⟩)
  repeat refine stq rfl ?_
  refine ⟨k + 1,hlt,by omega,rfl,rfl,rfl,?_,rfl,congrArg I hw,rfl,rfl,?_,trivial⟩
  ·rw [hL1,hrr];rfl
  ·rw [hL1,hrr];rfl
 ·have hge : k = P.length := by have := of_decide_eq_false h;omega
  subst hge
  clear h
  rw [List.take_length]
  have hDl := hlI P.length (Nat.le_refl _)
  rw [List.take_length] at hDl
  generalize dirsI P = D at *
  have hmD : (D.map eA).length = D.length := by simp
  generalize 1 + P.length = G
  repeat refine stq rfl ?_
  refine pw_loop (fun i : Nat => i ≤ D.length) (fun i => [(1,I x),(2,.ptr 2 1 0 0),(4,.ptr 4 1 0 0),(9,.als 36 G 0 (D.map eA).length),(12,.ptr 12 ((s.own 12).1 + 1) 0 0),(13,.bool (bestM b x (D.take i)).isSome),(14,I (i : Nat))])
   (fun i => [(2,1,⟨29,6,[eB b],2⟩),(4,1,⟨26,4,[zN],2⟩),(12,(s.own 12).1 + 1,⟨26,4,[mC (bestM b x (D.take i))],2⟩),(36,G,⟨62,8,D.map eA,1⟩)]) (fun i => D.length - i) 0 (Nat.zero_le _) ⟨rfl,rfl,rfl,rfl,rfl,rfl,rfl,rfl,rfl,rfl,rfl,trivial⟩ ?_
  generalize (s.own 12).1 + 1 = G2
  intro i s hi
  repeat refine stq rfl ?_
  refine pw_cond rfl (fun h => ?_) (fun h => ?_)
  ·have hlt : i < D.length := by have := of_decide_eq_true h;omega
   clear h
   obtain ⟨d,hd⟩ := get_lt hlt
   have hdm := List.mem_of_getElem? hd
   have hdv := hva d hdm
   have hgr : (D.map eA)[0 + ((i : Nat) : Int).toNat]? = some (eA d) := by rw [Nat.zero_add,Int.toNat_natCast,List.getElem?_map,hd];rfl
   have hw : IntKind.i64.wrap (((i : Nat) : Int) + 1) = ((i + 1 : Nat) : Int) := by rw [wrap_i64 (by omega) (by omega)];omega
   have hsn := best_snoc b x (D.take i) d
   rw [← take_snocU hd] at hsn
   have hmq : ∀ y,bestM b x (D.take i) = some y → HQ y 10000 := fun y hy => best_hq hb hx64 (fun q hq => hva q (List.mem_of_mem_take hq)) hy
   have e1 := rroom_ret b hb d hdv (by decide) (by decide) x hx64
   rw [show roomQ b x d.z.val d.t.val = rmV b x d from rfl] at e1
   have hvq : ∀ v,rmV b x d = some v → HQ v 10000 := fun v hv => rmV_hq hb hx64 hdv hv
   cases hrm : rmV b x d with
   |none =>
    rw [hrm] at hsn e1
    rw [roomV] at e1
    have hsn : bestM b x (D.take (i + 1)) = bestM b x (D.take i) := hsn
    rw [← hsn]
    repeat refine stq rfl ?_
    (repeat ((fail_if_success (with_reducible refine pw_at 16 ?_));refine stx rfl ?_))
    refine pw_ghost (gdrop 15) ?_
    refine pw_draw3 [15] [10,11] (by decide +kernel) ?_
    repeat refine stq rfl ?_
    refine qst rfl rfl (q_idxA rfl rfl rfl rfl rfl rfl rfl (by omega) (by rw [hmD];omega)) ?_
    repeat refine stq rfl ?_
    refine qst rfl rfl (q_ldp rfl rfl rfl hgr rfl) ?_
    repeat refine stq rfl ?_
    refine qst rfl rfl (q_cs rfl e1 rfl rfl) ?_
    repeat refine stq rfl ?_
    exact ⟨i + 1,hlt,by omega,rfl,rfl,rfl,rfl,rfl,rfl,congrArg I hw,rfl,rfl,rfl,rfl,trivial⟩
   |some v =>
    rw [hrm] at hsn e1
    rw [roomV] at e1
    have hvq := hvq v hrm
    cases hm : bestM b x (D.take i) with
    |none =>
     rw [hm] at hsn
     simp only at hsn
     generalize hv : ofQ v = V at *
     generalize hM1 : bestM b x (D.take (i + 1)) = M1 at *
     subst hsn
     repeat refine stq rfl ?_
     (repeat ((fail_if_success (with_reducible refine pw_at 16 ?_));refine stx rfl ?_))
     refine pw_ghost (gdrop 15) ?_
     refine pw_draw3 [15] [10,11] (by decide +kernel) ?_
     repeat refine stq rfl ?_
     refine qst rfl rfl (q_idxA rfl rfl rfl rfl rfl rfl rfl (by omega) (by rw [hmD];omega)) ?_
     repeat refine stq rfl ?_
     refine qst rfl rfl (q_ldp rfl rfl rfl hgr rfl) ?_
     repeat refine stq rfl ?_
     refine qst rfl rfl (q_cs rfl e1 rfl rfl) ?_
     repeat refine stq rfl ?_
     refine ⟨i + 1,hlt,by omega,rfl,rfl,rfl,rfl,rfl,by rw [hM1];rfl,congrArg I hw,rfl,rfl,?_,rfl,trivial⟩
     show (_ : Nat × Option Cont) = (G2,some (Cont.mk 26 4 [mC (bestM b x (D.take (i + 1)))] 2))
     rw [hM1,show mC (some v) = eR V by rw [mC,hv]]
     rfl
    |some y =>
     rw [hm] at hsn
     simp only at hsn
     have hyq := hmq y hm
     have e7 := rcmpR_ret (ofQ v) (ofQ y) (hx := Vq.ofQ (h := hvq)) (hy := Vq.ofQ (h := hyq)) (by decide) (by decide)
     have hsl := sgn_lt (v - y)
     by_cases hvy : v < y
     ·rw [if_pos hvy] at hsn
      have hneg := hsl.2 (by grind)
      generalize sgn (v - y) = sc at *
      generalize hv : ofQ v = V at *
      generalize hy : ofQ y = Y at *
      generalize hM1 : bestM b x (D.take (i + 1)) = M1 at *
      subst hsn
      rw [show mC (some y) = eR Y by rw [mC,hy]]
      repeat refine stq rfl ?_
      (repeat ((fail_if_success (with_reducible refine pw_at 16 ?_));refine stx rfl ?_))
      refine pw_ghost (gdrop 15) ?_
      refine pw_draw3 [15] [10,11] (by decide +kernel) ?_
      repeat refine stq rfl ?_
      refine qst rfl rfl (q_idxA rfl rfl rfl rfl rfl rfl rfl (by omega) (by rw [hmD];omega)) ?_
      repeat refine stq rfl ?_
      refine qst rfl rfl (q_ldp rfl rfl rfl hgr rfl) ?_
      repeat refine stq rfl ?_
      refine qst rfl rfl (q_cs rfl e1 rfl rfl) ?_
      repeat refine stq rfl ?_
      refine qst rfl rfl (q_cp rfl e7 rfl rfl rfl) ?_
      repeat refine stq rfl ?_
      refine pw_cond rfl (fun h => ?_) (fun h => ?_)
      rotate_left
      ·exfalso
       have := of_decide_eq_false h
       omega
      clear h
      repeat refine stq rfl ?_
      refine ⟨i + 1,hlt,by omega,rfl,rfl,rfl,rfl,rfl,by rw [hM1];rfl,congrArg I hw,rfl,rfl,?_,rfl,trivial⟩
      show (_ : Nat × Option Cont) = (G2,some (Cont.mk 26 4 [mC (bestM b x (D.take (i + 1)))] 2))
      rw [hM1,show mC (some v) = eR V by rw [mC,hv]]
      rfl
     ·rw [if_neg hvy] at hsn
      have hneg : ¬ sgn (v - y) < 0 := fun h => hvy (by have := hsl.1 h;grind)
      generalize sgn (v - y) = sc at *
      generalize hv : ofQ v = V at *
      generalize hy : ofQ y = Y at *
      generalize hM1 : bestM b x (D.take (i + 1)) = M1 at *
      subst hsn
      rw [show mC (some y) = eR Y by rw [mC,hy]]
      repeat refine stq rfl ?_
      (repeat ((fail_if_success (with_reducible refine pw_at 16 ?_));refine stx rfl ?_))
      refine pw_ghost (gdrop 15) ?_
      refine pw_draw3 [15] [10,11] (by decide +kernel) ?_
      repeat refine stq rfl ?_
      refine qst rfl rfl (q_idxA rfl rfl rfl rfl rfl rfl rfl (by omega) (by rw [hmD];omega)) ?_
      repeat refine stq rfl ?_
      refine qst rfl rfl (q_ldp rfl rfl rfl hgr rfl) ?_
      repeat refine stq rfl ?_
      refine qst rfl rfl (q_cs rfl e1 rfl rfl) ?_
      repeat refine stq rfl ?_
      refine qst rfl rfl (q_cp rfl e7 rfl rfl rfl) ?_
      repeat refine stq rfl ?_
      refine pw_cond rfl (fun h => ?_) (fun h => ?_)
      ·exfalso
       have := of_decide_eq_true h
       omega
      clear h
      repeat refine stq rfl ?_
      refine ⟨i + 1,hlt,by omega,rfl,rfl,rfl,rfl,rfl,by rw [hM1];rfl,congrArg I hw,rfl,rfl,?_,rfl,trivial⟩
      show (_ : Nat × Option Cont) = (G2,some (Cont.mk 26 4 [mC (bestM b x (D.take (i + 1)))] 2))
      rw [hM1,show mC (some y) = eR Y by rw [mC,hy]]
      rfl
  ·have hie : i = D.length := by have := of_decide_eq_false h;omega
   clear h
   rw [hie,List.take_length]
   generalize bestM b x D = m at *
   cases m with
   |none =>
    repeat refine stq rfl ?_
    exact endm rfl (by repeat' constructor) rfl (by repeat' constructor) rfl
   |some y =>
    rw [mC]
    repeat refine stq rfl ?_
    exact endm rfl (by repeat' constructor) rfl (by repeat' constructor) rfl
end Go.Pv


set_option maxHeartbeats 2000000
namespace Go.Pv
attribute [local irreducible] PWP POps PQuiet PSem XThen XBlock RetPost InlPost
open Go.Proofs
theorem same_m {m : Option Rat} (h : ∀ y,m = some y → HQ y 10000) : Ret Tryz.prog .shared 32 [.agg (mC m),.agg (mC m)] (.bool true) := by
 cases m with
 |none => exact same_zz
 |some y => exact same_ofQ (h y rfl) (by decide)
theorem res_both (b : BR) (hb : b.Ok) (x : Int) : ∃ m e,Ret Tryz.prog .shared 31 [.agg (eB b),I x] (resT m e) ∧ Ret Tryz.prog .shared 33 [.agg (eB b),I x] (resT m e) ∧ Ret Tryz.prog .shared 32 [.agg (mC m),.agg (mC m)] (.bool true) := by
 by_cases hx : x < -1000000 ∨ 1000000 < x
 ·exact ⟨none,2,res_far b hb x hx,rres_far b x hx,same_zz⟩
 have p := refusal_ret b hb
 have q := rrefused_ret b hb
 rw [refusalR] at p q
 by_cases h1 : refF b downA = true
 ·rw [if_pos h1] at p q
  exact ⟨none,12,res_ref b hb x hx _ 12 (by decide) p,rres_ref b x hx _ 12 (by decide) q,same_zz⟩
 rw [if_neg h1] at p q
 cases h2 : (turnA b.l).find? (refF b) with
 |some r =>
  rw [h2] at p q
  exact ⟨none,13,res_ref b hb x hx _ 13 (by decide) p,rres_ref b x hx _ 13 (by decide) q,same_zz⟩
 |none =>
  rw [h2] at p q
  exact ⟨bestM b x (dirsR b.l),0,res_go b hb x hx p,rres_go b hb x hx q,same_m fun y hy => best_hq hb ⟨by omega,by omega⟩ (fun d hd => dirsR_va hb.chkL hd) hy⟩
set_option maxRecDepth 20000 in
theorem reserves_law (b : BR) (hb : ArgB b) (x : Int) : Ret Tryz.prog .shared 5 [.agg (eB b),I x] (.bool true) := by
 have aw := awake_ret
 have h1 := many_ret b hb.len
 by_cases x1 : manyB b = true
 rotate_left
 ·rw [Bool.not_eq_true] at x1
  rw [x1] at h1
  refine Ret.of_pwp layOk mixed Go.Proofs.Tryz.func5 rfl (by decide) rfl rfl ?_
  repeat refine stq rfl ?_
  refine qst rfl rfl (q_cp rfl aw rfl rfl rfl) ?_
  repeat refine stq rfl ?_
  refine qst rfl rfl (q_cp rfl h1 rfl rfl rfl) ?_
  repeat refine stq rfl ?_
  exact end1b rfl rfl rfl
 rw [x1] at h1
 obtain ⟨hlim,hgood⟩ := many_good hb x1
 have c0 := rbody_ret b hlim
 by_cases x7 : bodyE b = 0
 rotate_left
 ·have p1 := res_body b hlim x7 x
  have sz := same_zz
  clear hgood
  generalize bodyE b = e at *
  refine Ret.of_pwp layOk mixed Go.Proofs.Tryz.func5 rfl (by decide) rfl rfl ?_
  repeat refine stq rfl ?_
  refine qst rfl rfl (q_cp rfl aw rfl rfl rfl) ?_
  repeat refine stq rfl ?_
  refine qst rfl rfl (q_cp rfl h1 rfl rfl rfl) ?_
  repeat refine stq rfl ?_
  refine qst rfl rfl (q_cs rfl p1 rfl rfl) ?_
  repeat refine stq rfl ?_
  refine qst rfl rfl (q_cp rfl c0 rfl rfl rfl) ?_
  repeat refine stq rfl ?_
  refine pw_cond rfl (fun h => ?_) (fun h => ?_)
  ·clear h
   repeat refine stq rfl ?_
   (first|refine ps_split rfl rfl ?_ ?_|refine pq_split rfl rfl ?_ ?_|refine p3_split rfl rfl ?_ ?_)<;>intro h
   ·clear h
    repeat refine stq rfl ?_
    refine qst rfl rfl (q_cp rfl sz rfl rfl rfl) ?_
    repeat refine stq rfl ?_
    exact end1b rfl rfl rfl
   ·simp at h
  ·exfalso
   simp at h
   exact x7 h
 obtain ⟨hok,hsz⟩ := hgood x7
 rw [x7] at c0
 obtain ⟨m,e,p1,q1,s1⟩ := res_both b hok x
 rw [resT] at p1 q1
 clear hgood hok hsz hlim
 cases m with
 |none =>
  refine Ret.of_pwp layOk mixed Go.Proofs.Tryz.func5 rfl (by decide) rfl rfl ?_
  repeat refine stq rfl ?_
  refine qst rfl rfl (q_cp rfl aw rfl rfl rfl) ?_
  repeat refine stq rfl ?_
  refine qst rfl rfl (q_cp rfl h1 rfl rfl rfl) ?_
  repeat refine stq rfl ?_
  refine qst rfl rfl (q_cs rfl p1 rfl rfl) ?_
  repeat refine stq rfl ?_
  refine qst rfl rfl (q_cp rfl c0 rfl rfl rfl) ?_
  repeat refine stq rfl ?_
  refine qst rfl rfl (q_cs rfl q1 rfl rfl) ?_
  repeat refine stq rfl ?_
  refine qst rfl rfl (q_cp rfl s1 rfl rfl rfl) ?_
  repeat refine stq rfl ?_
  exact end1b rfl rfl (by simp)
 |some y =>
  rw [mC] at p1 q1 s1
  generalize ofQ y = Y at *
  refine Ret.of_pwp layOk mixed Go.Proofs.Tryz.func5 rfl (by decide) rfl rfl ?_
  repeat refine stq rfl ?_
  refine qst rfl rfl (q_cp rfl aw rfl rfl rfl) ?_
  repeat refine stq rfl ?_
  refine qst rfl rfl (q_cp rfl h1 rfl rfl rfl) ?_
  repeat refine stq rfl ?_
  refine qst rfl rfl (q_cs rfl p1 rfl rfl) ?_
  repeat refine stq rfl ?_
  refine qst rfl rfl (q_cp rfl c0 rfl rfl rfl) ?_
  repeat refine stq rfl ?_
  refine qst rfl rfl (q_cs rfl q1 rfl rfl) ?_
  repeat refine stq rfl ?_
  refine qst rfl rfl (q_cp rfl s1 rfl rfl rfl) ?_
  repeat refine stq rfl ?_
  exact end1b rfl rfl (by simp)
end Go.Pv

