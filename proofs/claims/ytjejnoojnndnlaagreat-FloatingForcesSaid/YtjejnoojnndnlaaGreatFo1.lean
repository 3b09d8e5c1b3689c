/- Texts of one hand, gathered: FsF, FsG, FsH, FsJ, FsK, FsL, FsO, FsP, FsI, FtB, FtC, FtD, FtF. -/
import Derived.Test.YtjejnoojnndnlaaGreatBb5
set_option linter.unusedSectionVars false
set_option linter.unusedSimpArgs false
set_option linter.unusedVariables false
set_option linter.unnecessarySimpa false
set_option maxHeartbeats 2000000
namespace Go.Pv
attribute [local irreducible] PWP POps PQuiet PSem XThen XBlock RetPost InlPost
open Go.Proofs
theorem pl_ret (x y : RR) {p q : Rat} {n m : Nat} [hx : Vq x p n] [hy : Vq y q m] (hn : n ≤ 20000000) (hm : m ≤ 20000000) : Ret Tryz.prog .shared 108 [.agg (eR x),.agg (eR y)] (.agg (eR (ofQ (p + q)))) := by
 have h := raddR_ret x y hn hm
 generalize ofQ (p + q) = X at *
 refine Ret.of_pwp layOk mixed Go.Proofs.Tryz.func108 rfl (by decide) rfl rfl ?_
 repeat refine stq rfl ?_
 refine qst rfl rfl (q_cs rfl h rfl rfl) ?_
 repeat refine stq rfl ?_
 exact endm rfl (by repeat' constructor) rfl (by repeat' constructor) rfl
theorem ti_ret (x y : RR) {p q : Rat} {n m : Nat} [hx : Vq x p n] [hy : Vq y q m] (hn : n ≤ 20000000) (hm : m ≤ 20000000) : Ret Tryz.prog .shared 111 [.agg (eR x),.agg (eR y)] (.agg (eR (ofQ (p * q)))) := by
 have h := rmulR_ret x y hn hm
 generalize ofQ (p * q) = X at *
 refine Ret.of_pwp layOk mixed Go.Proofs.Tryz.func111 rfl (by decide) rfl rfl ?_
 repeat refine stq rfl ?_
 refine qst rfl rfl (q_cs rfl h rfl rfl) ?_
 repeat refine stq rfl ?_
 exact endm rfl (by repeat' constructor) rfl (by repeat' constructor) rfl
theorem ls_ret (x y : RR) {p q : Rat} {n m : Nat} [hx : Vq x p n] [hy : Vq y q m] (hn : n ≤ 10000000) (hm : m ≤ 10000000) : Ret Tryz.prog .shared 112 [.agg (eR x),.agg (eR y)] (.agg (eR (ofQ (p - q)))) := by
 have h := rsubR_ret x y hn hm
 generalize ofQ (p - q) = X at *
 refine Ret.of_pwp layOk mixed Go.Proofs.Tryz.func112 rfl (by decide) rfl rfl ?_
 repeat refine stq rfl ?_
 refine qst rfl rfl (q_cs rfl h rfl rfl) ?_
 repeat refine stq rfl ?_
 exact endm rfl (by repeat' constructor) rfl (by repeat' constructor) rfl
theorem w0_ret : Ret Tryz.prog .shared 25 [I 0] (.agg (eR (ofQ 0))) := by
 have := bW_ret 0 ⟨by decide,by decide⟩
 rwa [show (((0 : Int) : Rat)) = 0 from rfl] at this
theorem sg_ret (x : RR) {p : Rat} {n : Nat} [hx : Vq x p n] (hn : n ≤ 8000000) : Ret Tryz.prog .shared 117 [.agg (eR x)] (I (sgn p)) := by
 have h0 := w0_ret
 have hc := rcmpR_ret x (ofQ 0) (by omega) (by decide)
 rw [Rat.sub_eq_add_neg,Rat.neg_zero,Rat.add_zero] at hc
 generalize sgn p = g at *
 generalize ofQ 0 = Z at *
 refine Ret.of_pwp layOk mixed Go.Proofs.Tryz.func117 rfl (by decide) rfl rfl ?_
 repeat refine stq rfl ?_
 refine pw_draw 4 [3,4,5,2] (by decide +kernel) ?_
 repeat refine stq rfl ?_
 refine qst rfl rfl (q_cs rfl h0 rfl rfl) ?_
 repeat refine stq rfl ?_
 refine qst rfl rfl (q_cp rfl hc rfl rfl rfl) ?_
 repeat refine stq rfl ?_
 exact end1i rfl rfl rfl
theorem rimm_ret (s : SR) (hs : s.Lim) (a : AR) {z t : Rat} {n m : Nat} [ha : Va a z t n m] (hn : n ≤ 1000000) (hm : m ≤ 1000000) : Ret Tryz.prog .shared 110 [.agg (eS s),.agg (eA a)] (.agg (eR (ofQ (yQ s z t)))) := by
 have hx : Zb s.x := zb_i64 hs.x.1 hs.x.2
 have hw := bW_ret s.x hs.x
 have e1 := pl_ret s.c a.z (hx := hs.c.v) (hy := ha.z) (by decide) (by omega)
 have v1 : Vq (ofQ (s.c.val + z)) (s.c.val + z) (13 + (n + 1) + 1) := Vq.ofQ (h := @HQ.add _ _ 13 (n + 1) hs.c.v.hq ha.z.hq)
 have e2 := ti_ret a.t (ofQ (s.x : Rat)) (hx := ha.t) (by omega) (by decide)
 have v2 : Vq (ofQ (t * (s.x : Rat))) (t * (s.x : Rat)) (m + 1 + 4) := Vq.ofQ (h := @HQ.mul _ _ (m + 1) 4 ha.t.hq HQ.int)
 have e3 := pl_ret (ofQ (s.c.val + z)) (ofQ (t * (s.x : Rat))) (hx := v1) (hy := v2) (by omega) (by omega)
 rw [show s.c.val + z + t * (s.x : Rat) = yQ s z t by rw [yQ];grind] at e3
 generalize ofQ (yQ s z t) = X at *
 generalize ofQ (s.c.val + z) = X1 at *
 generalize ofQ (t * (s.x : Rat)) = X2 at *
 generalize ofQ (s.x : Rat) = X3 at *
 obtain ⟨x,c,k⟩ := s
 obtain ⟨az,at'⟩ := a
 simp only at *
 refine Ret.of_pwp layOk mixed Go.Proofs.Tryz.func110 rfl (by decide) rfl rfl ?_
 repeat refine stq rfl ?_
 refine pw_draw 12 [5,6,7,8,9,10,11,12,13,14,15,16] (by decide +kernel) ?_
 repeat refine stq rfl ?_
 refine qst rfl rfl (q_cs rfl e1 rfl rfl) ?_
 repeat refine stq rfl ?_
 refine qst rfl rfl (q_cs rfl hw rfl rfl) ?_
 repeat refine stq rfl ?_
 refine qst rfl rfl (q_cs rfl e2 rfl rfl) ?_
 repeat refine stq rfl ?_
 refine qst rfl rfl (q_cs rfl e3 rfl rfl) ?_
 repeat refine stq rfl ?_
 exact endm rfl (by repeat' constructor) rfl (by repeat' constructor) rfl
theorem s_hq {c : CR} (hc : c.Lim) (k : Nat) : HQ (c.s k) 4 := by
 have h := sI_zb hc k
 have z1 : Zb (c.S.getD k 0) := zb_i64 h.1 h.2
 exact HQ.int
theorem top_hq {c : CR} (hc : c.Lim) {p : Rat} {n N : Nat} (hp : HQ p n) (k : Nat) : HQ (topQ c.s N p k) (n + 4) := by
 rw [topQ]
 split
 ·rw [minQ]
  split
  ·exact (s_hq hc (k + 1)).mono (by omega)
  ·exact hp.mono (by omega)
 ·exact hp.mono (by omega)
theorem d_hq {c : CR} (hc : c.Lim) {p : Rat} {n N : Nat} (hp : HQ p n) (k : Nat) : HQ (topQ c.s N p k - c.s k) (n + 9) := (@HQ.sub _ _ _ _ (top_hq hc hp k) (s_hq hc k)).mono (by omega)
theorem m_hq {c : CR} (hc : c.Lim) (k : Nat) : HQ (c.m k) 13 := by
 rw [CR.m]
 by_cases hk : k < c.M.length
 ·exact ((hc.m _ (List.mem_of_getElem? (get_some (d := RR.zero) hk))).v).hq
 ·rw [List.getD_eq_getElem?_getD,List.getElem?_eq_none (by omega)]
  show HQ RR.zero.val 13
  rw [RR.zero_val];exact HQ.zero.mono (by decide)
theorem pos_hq {x : Rat} {n : Nat} (h : HQ x n) : HQ (posQ x) (n + 4) := by
 rw [posQ];split
 ·exact h.mono (by omega)
 ·exact HQ.zero.mono (by omega)
theorem piece_hq {c : CR} (hc : c.Lim) {p : Rat} {n N : Nat} (hp : HQ p n) (k : Nat) : HQ (pieceQ c.s c.m N p k) (n + 30) := (@HQ.mul _ _ 13 (n + 9 + 4) (m_hq hc k) (pos_hq (d_hq hc hp k))).mono (by omega)
noncomputable def tpR (c : CR) (y : RR) (p : Rat) (N i : Nat) : RR := @ite _ (i + 1 < N ∧ c.s (i + 1) < p) (Classical.propDecidable _) (ofQ (c.s (i + 1))) y
theorem tpR_v {c : CR} (hc : c.Lim) {y : RR} {p : Rat} {N i n : Nat} [hy : Vq y p n] : Vq (tpR c y p N i) (topQ c.s N p i) (n + 8) := by
 rw [tpR,topQ]
 by_cases h1 : i + 1 < N
 ·rw [if_pos h1,minQ]
  by_cases h2 : c.s (i + 1) < p
  ·rw [if_pos ⟨h1,h2⟩,if_pos h2]
   exact vq_mono (Vq.ofQ (h := s_hq hc (i + 1))) (by omega)
  ·rw [if_neg (fun h => h2 h.2),if_neg h2]
   exact vq_mono hy (by omega)
 ·rw [if_neg (fun h => h1 h.1),if_neg h1]
  exact vq_mono hy (by omega)
set_option maxRecDepth 20000 in
theorem rforce_ret (c : CR) (hc : c.Lim) (h0 : curveE c = 0) (y : RR) {p : Rat} {n : Nat} [hy : Vq y p n] (hn : n ≤ 100000) : Ret Tryz.prog .shared 134 [.agg (eC c),.agg (eR y)] (.agg (eR (ofQ (valQ c.S.length c.s c.m p)))) := by
 obtain ⟨h40,hSM,-,hasc⟩ := curve_ok h0
 have w0 := w0_ret
 have hph := hy.hq
 rw [valQ,ramp_piece fun i hi => hasc i hi]
 have hSm : (c.S.map eN).length = c.S.length := by simp
 have hB : ∀ i,i ≤ 40 → i * (n + 1 + 30 + 1) + 4 ≤ 5000000 := fun i hi => by have := Nat.mul_le_mul hi (Nat.le_refl (n + 1 + 30 + 1));omega
 have vs : ∀ i,Vq (ofQ (sumN (pieceQ c.s c.m c.S.length p) i)) (sumN (pieceQ c.s c.m c.S.length p) i) (i * (n + 1 + 30 + 1) + 4) := fun i => Vq.ofQ (h := sumN_hq i fun k _ => piece_hq hc hph k)
 generalize hN : c.S.length = N at *
 refine Ret.of_pwp layOk mixed Go.Proofs.Tryz.func134 rfl (by decide) rfl rfl ?_
 repeat refine stq rfl ?_
 refine qst rfl rfl (q_cs rfl w0 rfl rfl) ?_
 repeat refine stq rfl ?_
 refine pw_loop (fun i : Nat => i ≤ N) (fun i => [(2,.ptr 2 1 0 0),(3,.ptr 3 1 0 0),(4,.ptr 4 1 0 0),(5,.ptr 5 1 0 0),(6,I (i : Nat))])
  (fun i => [(2,1,⟨120,2,[eC c],2⟩),(3,1,⟨26,4,[eR y],2⟩),(4,1,⟨26,4,[zN],2⟩),(5,1,⟨26,4,[eR (ofQ (sumN (pieceQ c.s c.m N p) i))],2⟩)]) (fun i => N - i) 0 (Nat.zero_le _) ⟨rfl,rfl,rfl,rfl,rfl,rfl,rfl,rfl,rfl,trivial⟩ ?_
 intro i s hi
 repeat refine stq rfl ?_
 refine pw_cond rfl (fun h => ?_) (fun h => ?_)
 ·have hlt : i < N := by have := of_decide_eq_true h;rw [hSm] at this;omega
  clear h
  have hx := get_some (l := c.S) (i := i) (d := 0) (by omega)
  have hmx := get_some (l := c.M) (i := i) (d := RR.zero) (by omega)
  have hxi := hc.s _ (List.mem_of_getElem? hx)
  have hmv := (hc.m _ (List.mem_of_getElem? hmx)).v
  have hw := bW_ret _ hxi
  have hnx : IntKind.i64.wrap (((i : Nat) : Int) + 1) = ((i + 1 : Nat) : Int) := by rw [wrap_i64 (by omega) (by omega)];omega
  (repeat ((fail_if_success (with_reducible refine pw_at 5 ?_));refine stx rfl ?_))
  iterate 6 refine stq rfl ?_
  refine pw_cut [(2,.ptr 2 1 0 0),(3,.ptr 3 1 0 0),(4,.ptr 4 1 0 0),(5,.ptr 5 1 0 0),(6,I (i : Nat)),(7,.ptr 7 ((s.own 7).1 + 1) 0 0)]
   [(2,1,⟨120,2,[eC c],2⟩),(3,1,⟨26,4,[eR y],2⟩),(4,1,⟨26,4,[zN],2⟩),(5,1,⟨26,4,[eR (ofQ (sumN (pieceQ c.s c.m N p) i))],2⟩),(7,(s.own 7).1 + 1,⟨26,4,[eR (tpR c y p N i)],2⟩)] ?_ (fun s3 => ?_)
  ·by_cases h1 : i + 1 < N
   ·have hx1 := get_some (l := c.S) (i := i + 1) (d := 0) (by omega)
    have hw1 := bW_ret _ (hc.s _ (List.mem_of_getElem? hx1))
    have zb1 : Zb (c.S.getD (i + 1) 0) := zb_i64 (hc.s _ (List.mem_of_getElem? hx1)).1 (hc.s _ (List.mem_of_getElem? hx1)).2
    have hc1 := rcmpR_ret y (ofQ ((c.S.getD (i + 1) 0 : Int) : Rat)) (by omega) (by decide)
    have hg := sgn_gt (p - ((c.S.getD (i + 1) 0 : Int) : Rat))
    have htp : tpR c y p N i = if 0 < sgn (p - ((c.S.getD (i + 1) 0 : Int) : Rat)) then ofQ ((c.S.getD (i + 1) 0 : Int) : Rat) else y := by
     rw [tpR]
     by_cases hlt1 : c.s (i + 1) < p
     ·rw [if_pos ⟨h1,hlt1⟩,if_pos (hg.2 (by have : ((c.S.getD (i + 1) 0 : Int) : Rat) < p := hlt1;grind))];rfl
     ·rw [if_neg (fun h => hlt1 h.2),if_neg (fun h => hlt1 (by have := hg.1 h;show ((c.S.getD (i + 1) 0 : Int) : Rat) < p;grind))]
    rw [htp]
    clear hg htp
    generalize sgn (p - ((c.S.getD (i + 1) 0 : Int) : Rat)) = sg at *
    generalize hW1 : ofQ ((c.S.getD (i + 1) 0 : Int) : Rat) = W1 at *
    generalize c.S.getD (i + 1) 0 = x1 at *
    repeat refine stq rfl ?_
    refine pw_draw 18 [18,19,20,21,22,23,24,25,26,27,28,29,30,31,32,33,34,35] (by decide +kernel) ?_
    repeat refine stq rfl ?_
    rw [hnx]
    repeat refine stq rfl ?_
    (first|refine ps_split rfl rfl ?_ ?_|refine pq_split rfl rfl ?_ ?_|refine p3_split rfl rfl ?_ ?_)<;>intro h
    ·clear h
     repeat refine stq rfl ?_
     rw [hnx]
     refine qst rfl rfl (q_idxm rfl rfl rfl rfl rfl (by omega) hx1 rfl) ?_
     repeat refine stq rfl ?_
     refine qst rfl rfl (q_cs rfl hw1 rfl rfl) ?_
     repeat refine stq rfl ?_
     refine qst rfl rfl (q_cp rfl hc1 rfl rfl rfl) ?_
     repeat refine stq rfl ?_
     refine pw_cond rfl (fun h => ?_) (fun h => ?_)
     ·rw [if_pos (of_decide_eq_true h)]
      clear h
      repeat refine stq rfl ?_
      rw [hnx]
      refine qst rfl rfl (q_idxm rfl rfl rfl rfl rfl (by omega) hx1 rfl) ?_
      repeat refine stq rfl ?_
      refine qst rfl rfl (q_cs rfl hw1 rfl rfl) ?_
      repeat refine stq rfl ?_
      exact ⟨rfl,rfl,rfl,rfl,rfl,rfl,rfl,rfl,rfl,rfl,rfl,trivial⟩
     ·rw [if_neg (of_decide_eq_false h)]
      clear h
      repeat refine stq rfl ?_
      exact ⟨rfl,rfl,rfl,rfl,rfl,rfl,rfl,rfl,rfl,rfl,rfl,trivial⟩
    ·exfalso
     have := of_decide_eq_false h
     rw [hSm] at this
     omega
   ·have htp : tpR c y p N i = y := by rw [tpR,if_neg (fun h => h1 h.1)]
    rw [htp]
    clear htp
    repeat refine stq rfl ?_
    refine pw_draw 18 [18,19,20,21,22,23,24,25,26,27,28,29,30,31,32,33,34,35] (by decide +kernel) ?_
    repeat refine stq rfl ?_
    rw [hnx]
    repeat refine stq rfl ?_
    (first|refine ps_split rfl rfl ?_ ?_|refine pq_split rfl rfl ?_ ?_|refine p3_split rfl rfl ?_ ?_)<;>intro h
    ·exfalso
     have := of_decide_eq_true h
     rw [hSm] at this
     omega
    ·clear h
     repeat refine stq rfl ?_
     exact ⟨rfl,rfl,rfl,rfl,rfl,rfl,rfl,rfl,rfl,rfl,rfl,trivial⟩
  have vT : Vq (tpR c y p N i) (topQ c.s N p i) (n + 8) := tpR_v hc
  have zbi : Zb (c.S.getD i 0) := zb_i64 hxi.1 hxi.2
  have e1 := ls_ret (tpR c y p N i) (ofQ ((c.S.getD i 0 : Int) : Rat)) (hx := vT) (by omega) (by decide)
  rw [show topQ c.s N p i - ((c.S.getD i 0 : Int) : Rat) = topQ c.s N p i - c.s i from rfl] at e1
  have vD : Vq (ofQ (topQ c.s N p i - c.s i)) (topQ c.s N p i - c.s i) (n + 1 + 9) := Vq.ofQ (h := d_hq hc hph i)
  have e2 := sg_ret (ofQ (topQ c.s N p i - c.s i)) (hx := vD) (by omega)
  have e3 := ti_ret (c.M.getD i RR.zero) (ofQ (topQ c.s N p i - c.s i)) (hx := hmv) (hy := vD) (by decide) (by omega)
  have hg := sgn_gt (topQ c.s N p i - c.s i)
  have hP : pieceQ c.s c.m N p i = (c.M.getD i RR.zero).val * posQ (topQ c.s N p i - c.s i) := rfl
  have hS : sumN (pieceQ c.s c.m N p) (i + 1) = sumN (pieceQ c.s c.m N p) i + pieceQ c.s c.m N p i := rfl
  by_cases hd : 0 < topQ c.s N p i - c.s i
  ·rw [posQ,if_pos hd] at hP
   rw [← hP] at e3
   have vP : Vq (ofQ (pieceQ c.s c.m N p i)) (pieceQ c.s c.m N p i) (n + 1 + 30) := Vq.ofQ (h := piece_hq hc hph i)
   have e4 := pl_ret (ofQ (sumN (pieceQ c.s c.m N p) i)) (ofQ (pieceQ c.s c.m N p i)) (hx := vs i) (hy := vP) (by have := hB i (by omega);omega) (by omega)
   rw [← hS] at e4
   have hgt := hg.2 hd
   generalize hSN : ofQ (sumN (pieceQ c.s c.m N p) (i + 1)) = S1 at *
   generalize ofQ (sumN (pieceQ c.s c.m N p) i) = S0 at *
   generalize ofQ (pieceQ c.s c.m N p i) = P0 at *
   generalize sgn (topQ c.s N p i - c.s i) = sg at *
   generalize ofQ (topQ c.s N p i - c.s i) = D0 at *
   generalize tpR c y p N i = T0 at *
   generalize ofQ ((c.S.getD i 0 : Int) : Rat) = W0 at *
   generalize c.S.getD i 0 = x0 at *
   generalize c.M.getD i RR.zero = m0 at *
   refine pw_seq ?_
   refine pw_ghost (gdrop 8) ?_
   refine pw_draw2 8 1 [43,44,45,46,47,48,49,50,8] [] (by decide +kernel) rfl ?_
   repeat refine stq rfl ?_
   refine qst rfl rfl (q_idxm rfl rfl rfl rfl rfl (by omega) hx rfl) ?_
   repeat refine stq rfl ?_
   refine qst rfl rfl (q_cs rfl hw rfl rfl) ?_
   repeat refine stq rfl ?_
   refine qst rfl rfl (q_cs rfl e1 rfl rfl) ?_
   repeat refine stq rfl ?_
   refine qst rfl rfl (q_cp rfl e2 rfl rfl rfl) ?_
   repeat refine stq rfl ?_
   refine pw_cond rfl (fun h => ?_) (fun h => ?_)
   ·clear h
    repeat refine stq rfl ?_
    refine pw_draw 9 [54,55,56,57,58,59,60,61,62] (by decide +kernel) ?_
    repeat refine stq rfl ?_
    refine qst rfl rfl (q_idxm rfl rfl rfl rfl rfl (by omega) hmx rfl) ?_
    repeat refine stq rfl ?_
    refine qst rfl rfl (q_cs rfl e3 rfl rfl) ?_
    repeat refine stq rfl ?_
    refine qst rfl rfl (q_cs rfl e4 rfl rfl) ?_
    repeat refine stq rfl ?_
    refine ⟨i + 1,hlt,by omega,rfl,rfl,rfl,rfl,congrArg I hnx,rfl,rfl,rfl,?_,trivial⟩
    show (_ : Nat × Option Cont) = (1,some (Cont.mk 26 4 [eR (ofQ (sumN (pieceQ c.s c.m N p) (i + 1)))] 2))
    rw [hSN]
    rfl
   ·exact absurd hgt (of_decide_eq_false h)
  ·rw [posQ,if_neg hd,Rat.mul_zero] at hP
   rw [hP,Rat.add_zero] at hS
   have hgt : ¬ 0 < sgn (topQ c.s N p i - c.s i) := fun h => hd (hg.1 h)
   rw [← hS]
   generalize hSN : ofQ (sumN (pieceQ c.s c.m N p) (i + 1)) = S0 at *
   generalize sgn (topQ c.s N p i - c.s i) = sg at *
   generalize ofQ (topQ c.s N p i - c.s i) = D0 at *
   generalize tpR c y p N i = T0 at *
   generalize ofQ ((c.S.getD i 0 : Int) : Rat) = W0 at *
   generalize c.S.getD i 0 = x0 at *
   refine pw_seq ?_
   refine pw_ghost (gdrop 8) ?_
   refine pw_draw2 8 1 [43,44,45,46,47,48,49,50,8] [] (by decide +kernel) rfl ?_
   repeat refine stq rfl ?_
   refine qst rfl rfl (q_idxm rfl rfl rfl rfl rfl (by omega) hx rfl) ?_
   repeat refine stq rfl ?_
   refine qst rfl rfl (q_cs rfl hw rfl rfl) ?_
   repeat refine stq rfl ?_
   refine qst rfl rfl (q_cs rfl e1 rfl rfl) ?_
   repeat refine stq rfl ?_
   refine qst rfl rfl (q_cp rfl e2 rfl rfl rfl) ?_
   repeat refine stq rfl ?_
   refine pw_cond rfl (fun h => ?_) (fun h => ?_)
   ·exact absurd (of_decide_eq_true h) hgt
   ·clear h
    repeat refine stq rfl ?_
    refine ⟨i + 1,hlt,by omega,rfl,rfl,rfl,rfl,congrArg I hnx,rfl,rfl,rfl,?_,trivial⟩
    show (_ : Nat × Option Cont) = (1,some (Cont.mk 26 4 [eR (ofQ (sumN (pieceQ c.s c.m N p) (i + 1)))] 2))
    rw [hSN]
    rfl
 ·have hie : i = N := by have := of_decide_eq_false h;rw [hSm] at this;omega
  clear h
  subst hie
  repeat refine stq rfl ?_
  exact endm rfl (by repeat' constructor) rfl (by repeat' constructor) rfl
end Go.Pv


set_option maxHeartbeats 2000000
namespace Go.Pv
attribute [local irreducible] PWP POps PQuiet PSem XThen XBlock RetPost InlPost
open Go.Proofs
set_option maxRecDepth 20000 in
theorem rright_ret (c : CR) (hc : c.Lim) (h0 : curveE c = 0) (y : RR) {p : Rat} {n : Nat} [hy : Vq y p n] (hn : n ≤ 1000000) : Ret Tryz.prog .shared 133 [.agg (eC c),.agg (eR y)] (.agg (eR (ofQ (befQ c.m (prI c.s p c.S.length))))) := by
 obtain ⟨h40,hSM,-,hasc⟩ := curve_ok h0
 have w0 := w0_ret
 have hSm : (c.S.map eN).length = c.S.length := by simp
 generalize hN : c.S.length = N at *
 refine Ret.of_pwp layOk mixed Go.Proofs.Tryz.func133 rfl (by decide) rfl rfl ?_
 repeat refine stq rfl ?_
 refine qst rfl rfl (q_cs rfl w0 rfl rfl) ?_
 repeat refine stq rfl ?_
 refine pw_loop (fun i : Nat => i ≤ N) (fun i => [(2,.ptr 2 1 0 0),(3,.ptr 3 1 0 0),(4,.ptr 4 1 0 0),(5,.ptr 5 1 0 0),(6,I (i : Nat))])
  (fun i => [(2,1,⟨120,2,[eC c],2⟩),(3,1,⟨26,4,[eR y],2⟩),(4,1,⟨26,4,[zN],2⟩),(5,1,⟨26,4,[eR (ofQ (befQ c.m (prI c.s p i)))],2⟩)]) (fun i => N - i) 0 (Nat.zero_le _) ⟨rfl,rfl,rfl,rfl,rfl,rfl,rfl,rfl,rfl,trivial⟩ ?_
 intro i s hi
 repeat refine stq rfl ?_
 refine pw_cond rfl (fun h => ?_) (fun h => ?_)
 ·have hlt : i < N := by have := of_decide_eq_true h;rw [hSm] at this;omega
  clear h
  have hx := get_some (l := c.S) (i := i) (d := 0) (by omega)
  have hmx := get_some (l := c.M) (i := i) (d := RR.zero) (by omega)
  have hxi := hc.s _ (List.mem_of_getElem? hx)
  have hmv := (hc.m _ (List.mem_of_getElem? hmx)).v
  have hw := bW_ret _ hxi
  have zbi : Zb (c.S.getD i 0) := zb_i64 hxi.1 hxi.2
  have hc1 := rcmpR_ret y (ofQ ((c.S.getD i 0 : Int) : Rat)) (by omega) (by decide)
  have hg := sgn_ge (p - ((c.S.getD i 0 : Int) : Rat))
  have e4 := pl_ret (c.M.getD i RR.zero) (ofQ 0) (hx := hmv) (by decide) (by decide)
  rw [Rat.add_zero] at e4
  have hnx : IntKind.i64.wrap (((i : Nat) : Int) + 1) = ((i + 1 : Nat) : Int) := by rw [wrap_i64 (by omega) (by omega)];omega
  have hpr : ofQ (befQ c.m (prI c.s p (i + 1))) = if 0 ≤ sgn (p - ((c.S.getD i 0 : Int) : Rat)) then ofQ (c.M.getD i RR.zero).val else ofQ (befQ c.m (prI c.s p i)) := by
   rw [prI]
   by_cases hle : c.s i ≤ p
   ·rw [if_pos hle,if_pos (hg.2 (by have : ((c.S.getD i 0 : Int) : Rat) ≤ p := hle;grind)),befQ];rfl
   ·rw [if_neg hle,if_neg (fun h => hle (by have := hg.1 h;show ((c.S.getD i 0 : Int) : Rat) ≤ p;grind))]
  generalize hSN : ofQ (befQ c.m (prI c.s p (i + 1))) = S1 at *
  generalize ofQ (befQ c.m (prI c.s p i)) = S0 at *
  generalize ofQ (c.M.getD i RR.zero).val = M1 at *
  generalize sgn (p - ((c.S.getD i 0 : Int) : Rat)) = sg at *
  generalize ofQ ((c.S.getD i 0 : Int) : Rat) = W0 at *
  generalize c.S.getD i 0 = x0 at *
  generalize c.M.getD i RR.zero = m0 at *
  repeat refine stq rfl ?_
  refine pw_draw 9 [15,16,17,18,19,20,21,22,23] (by decide +kernel) ?_
  repeat refine stq rfl ?_
  refine qst rfl rfl (q_idxm rfl rfl rfl rfl rfl (by omega) hx rfl) ?_
  repeat refine stq rfl ?_
  refine qst rfl rfl (q_cs rfl hw rfl rfl) ?_
  repeat refine stq rfl ?_
  refine qst rfl rfl (q_cp rfl hc1 rfl rfl rfl) ?_
  repeat refine stq rfl ?_
  refine pw_cond rfl (fun h => ?_) (fun h => ?_)
  ·have h1 := of_decide_eq_true h
   clear h
   rw [if_pos h1] at hpr
   repeat refine stq rfl ?_
   refine pw_draw 7 [24,25,26,27,28,29,30] (by decide +kernel) ?_
   repeat refine stq rfl ?_
   refine qst rfl rfl (q_idxm rfl rfl rfl rfl rfl (by omega) hmx rfl) ?_
   repeat refine stq rfl ?_
   refine qst rfl rfl (q_cs rfl w0 rfl rfl) ?_
   repeat refine stq rfl ?_
   refine qst rfl rfl (q_cs rfl e4 rfl rfl) ?_
   repeat refine stq rfl ?_
   refine ⟨i + 1,hlt,by omega,rfl,rfl,rfl,rfl,congrArg I hnx,rfl,rfl,rfl,?_,trivial⟩
   show (_ : Nat × Option Cont) = (1,some (Cont.mk 26 4 [eR (ofQ (befQ c.m (prI c.s p (i + 1))))] 2))
   rw [hSN,hpr]
   rfl
  ·have h1 := of_decide_eq_false h
   clear h
   rw [if_neg h1] at hpr
   repeat refine stq rfl ?_
   refine ⟨i + 1,hlt,by omega,rfl,rfl,rfl,rfl,congrArg I hnx,rfl,rfl,rfl,?_,trivial⟩
   show (_ : Nat × Option Cont) = (1,some (Cont.mk 26 4 [eR (ofQ (befQ c.m (prI c.s p (i + 1))))] 2))
   rw [hSN,hpr]
   rfl
 ·have hie : i = N := by have := of_decide_eq_false h;rw [hSm] at this;omega
  clear h
  subst hie
  repeat refine stq rfl ?_
  exact endm rfl (by repeat' constructor) rfl (by repeat' constructor) rfl
def mostV (c : CR) : Rat := if c.S.length = 0 then 0 else valQ c.S.length c.s c.m (c.s (c.S.length - 1))
theorem most_cap {c : CR} (h0 : curveE c = 0) (hl : befQ c.m c.S.length = 0) : mostV c = capQ c.S.length c.s c.m := by
 rw [mostV]
 split
 ·rename_i h
  rw [h,capQ,offQ,sumN];grind
 ·rename_i h
  refine val_last (curve_crv h0) ⟨Nat.le_refl _,fun k hk => ?_,fun hlt => by omega⟩ hl
  have : c.S.length - 1 = k := by omega
  rw [this]
  exact Rat.le_refl
set_option maxRecDepth 20000 in
theorem rmost_ret (c : CR) (hc : c.Lim) (h0 : curveE c = 0) : Ret Tryz.prog .shared 118 [.agg (eC c)] (.tup [.agg (eR (ofQ (mostV c))),.bool (decide (befQ c.m c.S.length = 0))]) := by
 obtain ⟨h40,hSM,-,hasc⟩ := curve_ok h0
 have w0 := w0_ret
 have hSm : (c.S.map eN).length = c.S.length := by simp
 by_cases hz : c.S.length = 0
 ·rw [mostV,if_pos hz,hz,befQ,decide_eq_true rfl]
  generalize ofQ 0 = Z at *
  refine Ret.of_pwp layOk mixed Go.Proofs.Tryz.func118 rfl (by decide) rfl rfl ?_
  repeat refine stq rfl ?_
  refine pw_cond rfl (fun h => ?_) (fun h => ?_)
  ·clear h
   repeat refine stq rfl ?_
   refine qst rfl rfl (q_cs rfl w0 rfl rfl) ?_
   repeat refine stq rfl ?_
   exact endm rfl (by repeat' constructor) rfl (by repeat' constructor) rfl
  ·exfalso
   have := of_decide_eq_false h
   omega
 ·rw [mostV,if_neg hz]
  obtain ⟨j,hj⟩ : ∃ j,c.S.length = j + 1 := ⟨c.S.length - 1,by omega⟩
  have hx := get_some (l := c.S) (i := j) (d := 0) (by omega)
  have hmx := get_some (l := c.M) (i := j) (d := RR.zero) (by omega)
  have hxi := hc.s _ (List.mem_of_getElem? hx)
  have hmv := (hc.m _ (List.mem_of_getElem? hmx)).v
  have hw := bW_ret _ hxi
  have zbi : Zb (c.S.getD j 0) := zb_i64 hxi.1 hxi.2
  have hf := rforce_ret c hc h0 (ofQ ((c.S.getD j 0 : Int) : Rat)) (by decide)
  have hs := sg_ret (c.M.getD j RR.zero) (hx := hmv) (by decide)
  have hw1 : IntKind.i64.wrap ((((c.S.map eN).length : Nat) : Int) - 1) = (j : Nat) := by rw [hSm,hj,wrap_i64 (by omega) (by omega)];omega
  have e0 := sgn_eq (c.M.getD j RR.zero).val
  have e1 : decide (befQ c.m c.S.length = 0) = decide (sgn (c.M.getD j RR.zero).val = 0) := by rw [decide_eq_decide,e0,hj,befQ];rfl
  rw [e1,show c.s (c.S.length - 1) = ((c.S.getD j 0 : Int) : Rat) by rw [hj];rfl]
  clear e0 e1
  generalize ofQ (valQ c.S.length c.s c.m ((c.S.getD j 0 : Int) : Rat)) = V at *
  generalize sgn (c.M.getD j RR.zero).val = sg at *
  generalize ofQ ((c.S.getD j 0 : Int) : Rat) = W0 at *
  generalize c.S.getD j 0 = x0 at *
  generalize c.M.getD j RR.zero = m0 at *
  refine Ret.of_pwp layOk mixed Go.Proofs.Tryz.func118 rfl (by decide) rfl rfl ?_
  repeat refine stq rfl ?_
  refine pw_cond rfl (fun h => ?_) (fun h => ?_)
  ·exfalso
   have := of_decide_eq_true h
   omega
  clear h
  repeat refine stq rfl ?_
  refine pw_draw3 [2] [17] (by decide +kernel) ?_
  repeat refine stq rfl ?_
  rw [hw1]
  refine qst rfl rfl (q_idxm rfl rfl rfl rfl rfl (by omega) hx rfl) ?_
  repeat refine stq rfl ?_
  refine qst rfl rfl (q_cs rfl hw rfl rfl) ?_
  repeat refine stq rfl ?_
  refine qst rfl rfl (q_cs rfl hf rfl rfl) ?_
  repeat refine stq rfl ?_
  rw [hw1]
  refine qst rfl rfl (q_idxm rfl rfl rfl rfl rfl (by omega) hmx rfl) ?_
  repeat refine stq rfl ?_
  refine qst rfl rfl (q_cp rfl hs rfl rfl rfl) ?_
  repeat refine stq rfl ?_
  exact endm rfl (by repeat' constructor) rfl (by repeat' constructor) rfl
def imL (l : List SR) (z t : Rat) : List RR := l.map fun s => ofQ (yQ s z t)
set_option maxRecDepth 20000 in
theorem rimms_ret (l : List SR) (hl : LimL l) (h12 : l.length ≤ 1000) (a : AR) {z t : Rat} {n m : Nat} [ha : Va a z t n m] (hn : n ≤ 1000000) (hm : m ≤ 1000000) : Ret Tryz.prog .shared 58 [.sl (l.map eS),.agg (eA a)] (.sl ((imL l z t).map eR)) := by
 have hml : (l.map eS).length = l.length := by simp
 have hrows : ∀ (k : Nat) x,l[k]? = some x → (imL (l.take (k + 1)) z t).map eR = (imL (l.take k) z t).map eR ++ [eR (ofQ (yQ x z t))] := fun k x hx => by rw [imL,imL,take_snocU hx,List.map_append,List.map_append];rfl
 have him := fun x hx => rimm_ret x (hl.1 x hx) a (z := z) (t := t) hn hm
 obtain ⟨az,at'⟩ := a
 refine Ret.of_pwp layOk mixed Go.Proofs.Tryz.func58 rfl (by decide) rfl rfl ?_
 (repeat ((fail_if_success (with_reducible refine pw_at 1 ?_));refine stx rfl ?_))
 ((repeat (first | refine ps_nil ?_ | refine pq_nil ?_ | refine x_norm ?_ | refine pw_seq ?_));refine pw_region ?_)
 (first | refine ps_run (o_nilm 26 4 1 rfl rfl ?_) | refine ps_run (o_nila 26 4 1 rfl rfl ?_))
 repeat refine stq rfl ?_
 refine pw_loop (fun k => k ≤ l.length) (fun k => [(0,.sl (l.map eS)),(3,.ptr 3 1 0 0),(5,.als 5 (k + 1) 0 ((imL (l.take k) z t).map eR).length),(6,I (k : Nat))]) (fun k => [(3,1,⟨40,8,[eA ⟨az,at'⟩],2⟩),(5,k + 1,⟨26,4,(imL (l.take k) z t).map eR,1⟩)]) (fun k => l.length - k) 0 (Nat.zero_le _) ⟨rfl,rfl,rfl,rfl,rfl,rfl,trivial⟩ ?_
 intro k s hk
 repeat refine stq rfl ?_
 refine pw_cond rfl (fun h => ?_) (fun h => ?_)
 ·have hlt : k < l.length := by have := of_decide_eq_true h;omega
  clear h
  obtain ⟨x,hx⟩ := get_lt hlt
  have e := him x (List.mem_of_getElem? hx)
  have hw : IntKind.i64.wrap (((k : Nat) : Int) + 1) = ((k + 1 : Nat) : Int) := by rw [wrap_i64 (by omega) (by omega)];omega
  have hil : (imL (l.take k) z t).length ≤ 1000 := by rw [imL,List.length_map,List.length_take];omega
  have hr := hrows k x hx
  generalize ofQ (yQ x z t) = Y at *
  generalize imL (l.take k) z t = A at *
  repeat refine stq rfl ?_
  refine pw_draw3 [20,5] [7,8,9] (by decide +kernel) ?_
  repeat refine stq rfl ?_
  refine qst rfl rfl (q_idxm rfl rfl rfl rfl rfl (by omega) hx rfl) ?_
  repeat refine stq rfl ?_
  refine qst rfl rfl (q_cs rfl e rfl rfl) ?_
  repeat refine stq rfl ?_
  refine z3e rfl rfl rfl (o_slit 1 rfl rfl rfl rfl rfl rfl rfl rfl rfl rfl rfl (by repeat' constructor) rfl ⟨offz rfl,?_⟩)
  repeat refine stq rfl ?_
  refine z3e rfl rfl rfl (o_app 1 rfl rfl rfl rfl rfl rfl rfl rfl rfl rfl rfl (by repeat' constructor) (by intro row hr;first | (simp at hr;subst hr;rfl) | (simp at hr;obtain ⟨_,_,rfl⟩ := hr;rfl) | simp at hr) rfl rfl (by simp;omega) (by simp;omega) ⟨offz rfl,?_⟩)
  repeat refine stq rfl ?_
  refine ⟨k + 1,hlt,by omega,rfl,rfl,?_,congrArg I hw,rfl,?_,trivial⟩
  ·rw [hr];rfl
  ·rw [hr];rfl
 ·have hge : k = l.length := by have := of_decide_eq_false h;omega
  subst hge
  clear h
  rw [List.take_length]
  repeat refine stq rfl ?_
  exact end1 rfl rfl rfl ⟨rfl,rfl,rfl⟩ rfl
set_option maxRecDepth 20000 in
theorem rforces_ret (l : List SR) (hl : LimL l) (hck : checkL l = 0) (h12 : l.length ≤ 1000) (a : AR) {z t : Rat} {n m : Nat} [ha : Va a z t n m] (hn : n + m ≤ 90000) : Ret Tryz.prog .shared 59 [.sl (l.map eS),.agg (eA a)] (.sl ((FL l z t).map eR)) := by
 have hml : (l.map eS).length = l.length := by simp
 have hrows : ∀ (k : Nat) x,l[k]? = some x → (FL (l.take (k + 1)) z t).map eR = (FL (l.take k) z t).map eR ++ [eR (ofQ (fQ x z t))] := fun k x hx => by rw [FL,FL,take_snocU hx,List.map_append,List.map_append];rfl
 have him := fun x hx => rimm_ret x (hl.1 x hx) a (z := z) (t := t) (by omega) (by omega)
 have hfo : ∀ x,x ∈ l → Ret Tryz.prog .shared 134 [.agg (eC x.k),.agg (eR (ofQ (yQ x z t)))] (.agg (eR (ofQ (fQ x z t)))) := fun x hx => by
  have v1 : Vq (ofQ (yQ x z t)) (yQ x z t) (13 + (n + 1 + (m + 1 + 4) + 1) + 1) := Vq.ofQ (h := yQ_hq (hl.1 x hx) ha.z.hq ha.t.hq)
  exact rforce_ret x.k (hl.1 x hx).k (checkL_curve hck x hx) (ofQ (yQ x z t)) (hy := v1) (by omega)
 obtain ⟨az,at'⟩ := a
 refine Ret.of_pwp layOk mixed Go.Proofs.Tryz.func59 rfl (by decide) rfl rfl ?_
 (repeat ((fail_if_success (with_reducible refine pw_at 1 ?_));refine stx rfl ?_))
 ((repeat (first | refine ps_nil ?_ | refine pq_nil ?_ | refine x_norm ?_ | refine pw_seq ?_));refine pw_region ?_)
 (first | refine ps_run (o_nilm 26 4 1 rfl rfl ?_) | refine ps_run (o_nila 26 4 1 rfl rfl ?_))
 repeat refine stq rfl ?_
 refine pw_loop (fun k => k ≤ l.length) (fun k => [(0,.sl (l.map eS)),(3,.ptr 3 1 0 0),(5,.als 5 (k + 1) 0 ((FL (l.take k) z t).map eR).length),(6,I (k : Nat))]) (fun k => [(3,1,⟨40,8,[eA ⟨az,at'⟩],2⟩),(5,k + 1,⟨26,4,(FL (l.take k) z t).map eR,1⟩)]) (fun k => l.length - k) 0 (Nat.zero_le _) ⟨rfl,rfl,rfl,rfl,rfl,rfl,trivial⟩ ?_
 intro k s hk
 repeat refine stq rfl ?_
 refine pw_cond rfl (fun h => ?_) (fun h => ?_)
 ·have hlt : k < l.length := by have := of_decide_eq_true h;omega
  clear h
  obtain ⟨x,hx⟩ := get_lt hlt
  have e := him x (List.mem_of_getElem? hx)
  have e2 := hfo x (List.mem_of_getElem? hx)
  have hw : IntKind.i64.wrap (((k : Nat) : Int) + 1) = ((k + 1 : Nat) : Int) := by rw [wrap_i64 (by omega) (by omega)];omega
  have hil : (FL (l.take k) z t).length ≤ 1000 := by rw [FL,List.length_map,List.length_take];omega
  have hr := hrows k x hx
  generalize ofQ (yQ x z t) = Y at *
  generalize ofQ (fQ x z t) = F at *
  generalize FL (l.take k) z t = A at *
  obtain ⟨xx,xc,xk⟩ := x
  simp only at *
  repeat refine stq rfl ?_
  refine pw_draw3 [26,5] [13,14,15] (by decide +kernel) ?_
  repeat refine stq rfl ?_
  refine qst rfl rfl (q_idxm rfl rfl rfl rfl rfl (by omega) hx rfl) ?_
  repeat refine stq rfl ?_
  refine qst rfl rfl (q_idxm rfl rfl rfl rfl rfl (by omega) hx rfl) ?_
  repeat refine stq rfl ?_
  refine qst rfl rfl (q_cs rfl e rfl rfl) ?_
  repeat refine stq rfl ?_
  refine qst rfl rfl (q_cs rfl e2 rfl rfl) ?_
  repeat refine stq rfl ?_
  refine z3e rfl rfl rfl (o_slit 1 rfl rfl rfl rfl rfl rfl rfl rfl rfl rfl rfl (by repeat' constructor) rfl ⟨offz rfl,?_⟩)
  repeat refine stq rfl ?_
  refine z3e rfl rfl rfl (o_app 1 rfl rfl rfl rfl rfl rfl rfl rfl rfl rfl rfl (by repeat' constructor) (by intro row hr;first | (simp at hr;subst hr;rfl) | (simp at hr;obtain ⟨_,_,rfl⟩ := hr;rfl) | simp at hr) rfl rfl (by simp;omega) (by simp;omega) ⟨offz rfl,?_⟩)
  repeat refine stq rfl ?_
  refine ⟨k + 1,hlt,by omega,rfl,rfl,?_,congrArg I hw,rfl,?_,trivial⟩
  ·rw [hr];rfl
  ·rw [hr];rfl
 ·have hge : k = l.length := by have := of_decide_eq_false h;omega
  subst hge
  clear h
  rw [List.take_length]
  repeat refine stq rfl ?_
  exact end1 rfl rfl rfl ⟨rfl,rfl,rfl⟩ rfl
def yI (l : List SR) (z t : Rat) (i : Nat) : Rat := yQ (l.getD i dS) z t
end Go.Pv


set_option maxHeartbeats 2000000
namespace Go.Pv
attribute [local irreducible] PWP POps PQuiet PSem XThen XBlock RetPost InlPost
open Go.Proofs
set_option maxRecDepth 20000 in
theorem rsum_ret (l : List SR) (hl : LimL l) (h12 : l.length ≤ 12) (Fl : List RR) (f : Nat → Rat) {N : Nat} (hf : ∀ i,i < l.length → Fl[i]? = some (ofQ (f i))) (hH : ∀ i,i < l.length → HQ (f i) N) (hN : N ≤ 800500) :
  Ret Tryz.prog .shared 63 [.sl (l.map eS),.sl (Fl.map eR)] (.agg (eR (ofQ (sumN f l.length)) ++ eR (ofQ (sumN (fun i => f i * xI l i) l.length)))) := by
 have w0 := w0_ret
 have hml : (l.map eS).length = l.length := by simp
 have hGH : ∀ i,i < l.length → HQ (f i * xI l i) (N + 4) := fun i hi => by
  have hx := (hl.1 _ (getD_mem hi)).x
  have hx : Zb (l.getD i dS).x := zb_i64 hx.1 hx.2
  exact @HQ.mul _ _ _ 4 (hH i hi) HQ.int
 have hB : ∀ i,i ≤ l.length → i * (N + 4 + 1) + 4 ≤ 12000000 := fun i hi => by
  have := Nat.mul_le_mul (show i ≤ 12 by omega) (show N + 4 + 1 ≤ 800505 by omega)
  omega
 generalize hg : (fun i => f i * xI l i) = g at *
 refine Ret.of_pwp layOk mixed Go.Proofs.Tryz.func63 rfl (by decide) rfl rfl ?_
 repeat refine stq rfl ?_
 refine qst rfl rfl (q_cs rfl w0 rfl rfl) ?_
 repeat refine stq rfl ?_
 refine qst rfl rfl (q_cs rfl w0 rfl rfl) ?_
 repeat refine stq rfl ?_
 refine pw_loop (fun i : Nat => i ≤ l.length) (fun i => [(0,.sl (l.map eS)),(1,.sl (Fl.map eR)),(4,.ptr 4 1 0 0),(5,.ptr 5 1 0 0),(6,I (i : Nat))])
  (fun i => [(4,1,⟨90,8,[zN ++ zN],2⟩),(5,1,⟨90,8,[eR (ofQ (sumN f i)) ++ eR (ofQ (sumN g i))],2⟩)]) (fun i => l.length - i) 0 (Nat.zero_le _) ⟨rfl,rfl,rfl,rfl,rfl,rfl,rfl,trivial⟩ ?_
 intro i s hi
 repeat refine stq rfl ?_
 refine pw_cond rfl (fun h => ?_) (fun h => ?_)
 ·have hlt : i < l.length := by have := of_decide_eq_true h;omega
  clear h
  have hx := get_some (d := dS) hlt
  have hFi := hf i hlt
  have hxx := (hl.1 _ (getD_mem hlt)).x
  have hzb : Zb (l.getD i dS).x := zb_i64 hxx.1 hxx.2
  have hw : IntKind.i64.wrap (((i : Nat) : Int) + 1) = ((i + 1 : Nat) : Int) := by rw [wrap_i64 (by omega) (by omega)];omega
  have hBi := hB i hi
  have hgi : f i * ((l.getD i dS).x : Rat) = g i := by rw [← hg];rfl
  have v0 : Vq (ofQ (f i)) (f i) N := Vq.ofQ (h := hH i hlt)
  have vg : Vq (ofQ (g i)) (g i) (N + 4) := Vq.ofQ (h := by rw [← hg];exact hGH i hlt)
  have v1 : Vq (ofQ (sumN f i)) (sumN f i) (i * (N + 1) + 4) := Vq.ofQ (h := sumN_hq i fun k hk => hH k (by omega))
  have v2 : Vq (ofQ (sumN g i)) (sumN g i) (i * (N + 4 + 1) + 4) := Vq.ofQ (h := sumN_hq i fun k hk => by rw [← hg];exact hGH k (by omega))
  have h1 := pl_ret (ofQ (sumN f i)) (ofQ (f i)) (hx := v1) (hy := v0) (by have := Nat.mul_le_mul (Nat.le_refl i) (show N + 1 ≤ N + 4 + 1 by omega);omega) (by omega)
  have h2 := bW_ret (l.getD i dS).x hxx
  have h3 := ti_ret (ofQ (f i)) (ofQ ((l.getD i dS).x : Rat)) (hx := v0) (by omega) (by decide)
  rw [hgi] at h3
  have h4 := pl_ret (ofQ (sumN g i)) (ofQ (g i)) (hx := v2) (hy := vg) (by omega) (by omega)
  rw [show sumN f i + f i = sumN f (i + 1) from rfl] at h1
  rw [show sumN g i + g i = sumN g (i + 1) from rfl] at h4
  generalize hF1 : ofQ (sumN f (i + 1)) = F1 at *
  generalize hG1 : ofQ (sumN g (i + 1)) = G1 at *
  generalize ofQ (sumN f i) = F0 at *
  generalize ofQ (sumN g i) = G0 at *
  generalize ofQ (f i) = f0 at *
  generalize ofQ (g i) = g0 at *
  repeat refine stq rfl ?_
  refine pw_draw 8 [16,17,18,19,20,21,22,23] (by decide +kernel) ?_
  repeat refine stq rfl ?_
  refine qst rfl rfl (q_idxm rfl rfl rfl rfl rfl (by omega) hFi rfl) ?_
  repeat refine stq rfl ?_
  refine qst rfl rfl (q_cs rfl h1 rfl rfl) ?_
  repeat refine stq rfl ?_
  refine pw_draw 15 [24,25,26,27,28,29,30,31,32,33,34,35,36,37,38] (by decide +kernel) ?_
  repeat refine stq rfl ?_
  refine qst rfl rfl (q_idxm rfl rfl rfl rfl rfl (by omega) hFi rfl) ?_
  repeat refine stq rfl ?_
  refine qst rfl rfl (q_idxm rfl rfl rfl rfl rfl (by omega) hx rfl) ?_
  repeat refine stq rfl ?_
  refine qst rfl rfl (q_cs rfl h2 rfl rfl) ?_
  repeat refine stq rfl ?_
  refine qst rfl rfl (q_cs rfl h3 rfl rfl) ?_
  repeat refine stq rfl ?_
  refine qst rfl rfl (q_cs rfl h4 rfl rfl) ?_
  repeat refine stq rfl ?_
  refine ⟨i + 1,hlt,by omega,rfl,rfl,rfl,rfl,congrArg I hw,rfl,?_,trivial⟩
  show (_ : Nat × Option Cont) = (1,some (Cont.mk 90 8 [eR (ofQ (sumN f (i + 1))) ++ eR (ofQ (sumN g (i + 1)))] 2))
  rw [hF1,hG1]
  rfl
 ·have hie : i = l.length := by have := of_decide_eq_false h;omega
  clear h
  subst hie
  repeat refine stq rfl ?_
  exact endm rfl (by repeat' constructor) rfl (by repeat' constructor) rfl
theorem FL_at {l : List SR} {z t : Rat} {i : Nat} (hi : i < l.length) : (FL l z t)[i]? = some (ofQ (fI l z t i)) := by
 rw [FL,List.getElem?_map,get_some (d := dS) hi];rfl
theorem fI_hq {l : List SR} (hl : LimL l) (hf : FewL l) {z t : Rat} {n m : Nat} (hz : HQ z n) (ht : HQ t m) {i : Nat} (hi : i < l.length) : HQ (fI l z t i) (8 * (n + m + 60) + 4) := fQ_hq (hl.1 _ (getD_mem hi)) (hf.2 _ (getD_mem hi)) hz ht
theorem rtotal_ret (l : List SR) (hl : LimL l) (hc : checkL l = 0) (hf : FewL l) (a : AR) {z t : Rat} {n m : Nat} [ha : Va a z t n m] (hn : n + m ≤ 90000) :
  Ret Tryz.prog .shared 55 [.sl (l.map eS),.agg (eA a)] (.agg (eR (ofQ (sumN (fI l z t) l.length)) ++ eR (ofQ (sumN (gI l z t) l.length)))) := by
 have h12 := hf.1
 have h1 := rforces_ret l hl hc (by omega) a (z := z) (t := t) hn
 have h2 := rsum_ret l hl hf.1 (FL l z t) (fI l z t) (fun i hi => FL_at hi) (fun i hi => fI_hq hl hf ha.z.hq ha.t.hq hi) (by omega)
 rw [show (fun i => fI l z t i * xI l i) = gI l z t from rfl] at h2
 generalize ofQ (sumN (fI l z t) l.length) = X1 at *
 generalize ofQ (sumN (gI l z t) l.length) = X2 at *
 generalize FL l z t = L at *
 obtain ⟨az,at'⟩ := a
 refine Ret.of_pwp layOk mixed Go.Proofs.Tryz.func55 rfl (by decide) rfl rfl ?_
 repeat refine stq rfl ?_
 refine qst rfl rfl (q_cs rfl h1 rfl rfl) ?_
 repeat refine stq rfl ?_
 refine qst rfl rfl (q_cs rfl h2 rfl rfl) ?_
 repeat refine stq rfl ?_
 exact endm rfl (by repeat' constructor) rfl (by repeat' constructor) rfl
def LeL (F : List RR) (n : Nat) : Prop := ∀ x ∈ F,x.le n
theorem FL_le {l : List SR} (hl : LimL l) (hf : FewL l) {z t : Rat} {n m : Nat} (hz : HQ z n) (ht : HQ t m) : LeL (FL l z t) (8 * (n + m + 60) + 4) := by
 intro x hx
 obtain ⟨s,hs,rfl⟩ := List.mem_map.1 hx
 exact hq_len (fQ_hq (hl.1 s hs) (hf.2 s hs) hz ht).ok
end Go.Pv


set_option maxHeartbeats 2000000
namespace Go.Pv
attribute [local irreducible] PWP POps PQuiet PSem XThen XBlock RetPost InlPost
open Go.Proofs
end Go.Pv


set_option maxHeartbeats 2000000
namespace Go.Pv
attribute [local irreducible] PWP POps PQuiet PSem XThen XBlock RetPost InlPost
open Go.Proofs
end Go.Pv


set_option maxHeartbeats 2000000
namespace Go.Pv
attribute [local irreducible] PWP POps PQuiet PSem XThen XBlock RetPost InlPost
open Go.Proofs
def kI (l : List SR) (z t : Rat) (i : Nat) : Rat := befQ (l.getD i dS).k.m (prI (l.getD i dS).k.s (yI l z t i) (l.getD i dS).k.S.length)
theorem kI_hq {l : List SR} (hl : LimL l) {z t : Rat} {i : Nat} (hi : i < l.length) : HQ (kI l z t i) 13 := (bfR_v _ (hl.1 _ (getD_mem hi)).k _).hq
theorem xI_zb {l : List SR} (hl : LimL l) {i : Nat} (hi : i < l.length) : Zb (l.getD i dS).x := by
 have hx := (hl.1 _ (getD_mem hi)).x
 exact zb_i64 hx.1 hx.2
set_option maxRecDepth 20000 in
theorem rstiff_ret (l : List SR) (hl : LimL l) (hf : FewL l) (hck : checkL l = 0) (a : AR) {z t : Rat} {n m : Nat} [ha : Va a z t n m] (hn : n + m ≤ 60000) :
  Ret Tryz.prog .shared 56 [.sl (l.map eS),.agg (eA a)] (.agg (eK (ofQ (sumN (kI l z t) l.length)) (ofQ (sumN (fun i => kI l z t i * xI l i) l.length)) (ofQ (sumN (fun i => kI l z t i * xI l i * xI l i) l.length)))) := by
 have w0 := w0_ret
 have h12 := hf.1
 have hml : (l.map eS).length = l.length := by simp
 have him := fun x hx => rimm_ret x (hl.1 x hx) a (z := z) (t := t) (by omega) (by omega)
 have hrg : ∀ i,i < l.length → Ret Tryz.prog .shared 133 [.agg (eC (l.getD i dS).k),.agg (eR (ofQ (yI l z t i)))] (.agg (eR (ofQ (kI l z t i)))) := fun i hi => by
  have v1 : Vq (ofQ (yI l z t i)) (yI l z t i) (13 + (n + 1 + (m + 1 + 4) + 1) + 1) := Vq.ofQ (h := yQ_hq (hl.1 _ (getD_mem hi)) ha.z.hq ha.t.hq)
  exact rright_ret _ (hl.1 _ (getD_mem hi)).k (checkL_curve hck _ (getD_mem hi)) (ofQ (yI l z t i)) (hy := v1) (by omega)
 generalize hg2 : (fun i => kI l z t i * xI l i) = g2
 generalize hg3 : (fun i => kI l z t i * xI l i * xI l i) = g3
 have q1 : ∀ i,i < l.length → HQ (kI l z t i) 30 := fun i hi => (kI_hq hl hi).mono (by decide)
 have q2 : ∀ i,i < l.length → HQ (g2 i) 30 := fun i hi => by
  have := xI_zb hl hi
  rw [← hg2];exact (@HQ.mul _ _ 13 4 (kI_hq hl hi) HQ.int).mono (by decide)
 have q3 : ∀ i,i < l.length → HQ (g3 i) 30 := fun i hi => by
  have := xI_zb hl hi
  rw [← hg3];exact (@HQ.mul _ _ 17 4 (@HQ.mul _ _ 13 4 (kI_hq hl hi) HQ.int) HQ.int).mono (by decide)
 refine Ret.of_pwp layOk mixed Go.Proofs.Tryz.func56 rfl (by decide) rfl rfl ?_
 repeat refine stq rfl ?_
 refine qst rfl rfl (q_cs rfl w0 rfl rfl) ?_
 repeat refine stq rfl ?_
 refine qst rfl rfl (q_cs rfl w0 rfl rfl) ?_
 repeat refine stq rfl ?_
 refine qst rfl rfl (q_cs rfl w0 rfl rfl) ?_
 repeat refine stq rfl ?_
 refine pw_loop (fun i : Nat => i ≤ l.length) (fun i => [(0,.sl (l.map eS)),(3,.ptr 3 1 0 0),(4,.ptr 4 1 0 0),(5,.ptr 5 1 0 0),(6,I (i : Nat))])
  (fun i => [(3,1,⟨40,8,[eA a],2⟩),(4,1,⟨94,12,[zN ++ (zN ++ zN)],2⟩),(5,1,⟨94,12,[eK (ofQ (sumN (kI l z t) i)) (ofQ (sumN g2 i)) (ofQ (sumN g3 i))],2⟩)]) (fun i => l.length - i) 0 (Nat.zero_le _) ⟨rfl,rfl,rfl,rfl,rfl,rfl,rfl,rfl,trivial⟩ ?_
 intro i s hi
 repeat refine stq rfl ?_
 refine pw_cond rfl (fun h => ?_) (fun h => ?_)
 ·have hlt : i < l.length := by have := of_decide_eq_true h;omega
  clear h
  have hx := get_some (d := dS) hlt
  have hxl := hl.1 _ (getD_mem hlt)
  have zx := xI_zb hl hlt
  have hw : IntKind.i64.wrap (((i : Nat) : Int) + 1) = ((i + 1 : Nat) : Int) := by rw [wrap_i64 (by omega) (by omega)];omega
  have e1 := him _ (getD_mem hlt)
  rw [show yQ (l.getD i dS) z t = yI l z t i from rfl] at e1
  have e2 := hrg i hlt
  have e3 := bW_ret (l.getD i dS).x hxl.x
  have vk : Vq (ofQ (kI l z t i)) (kI l z t i) 30 := Vq.ofQ (h := q1 i hlt)
  have v1 : Vq (ofQ (sumN (kI l z t) i)) (sumN (kI l z t) i) (i * 31 + 4) := Vq.ofQ (h := sumN_hq i fun k hk => q1 k (by omega))
  have v2 : Vq (ofQ (sumN g2 i)) (sumN g2 i) (i * 31 + 4) := Vq.ofQ (h := sumN_hq i fun k hk => q2 k (by omega))
  have v3 : Vq (ofQ (sumN g3 i)) (sumN g3 i) (i * 31 + 4) := Vq.ofQ (h := sumN_hq i fun k hk => q3 k (by omega))
  have vg2 : Vq (ofQ (g2 i)) (g2 i) 30 := Vq.ofQ (h := q2 i hlt)
  have vg3 : Vq (ofQ (g3 i)) (g3 i) 30 := Vq.ofQ (h := q3 i hlt)
  have f1 := pl_ret (ofQ (sumN (kI l z t) i)) (ofQ (kI l z t i)) (hx := v1) (hy := vk) (by omega) (by decide)
  have f2 := ti_ret (ofQ (kI l z t i)) (ofQ ((l.getD i dS).x : Rat)) (hx := vk) (by decide) (by decide)
  have hg2i : kI l z t i * ((l.getD i dS).x : Rat) = g2 i := by rw [← hg2];rfl
  rw [hg2i] at f2
  have f3 := pl_ret (ofQ (sumN g2 i)) (ofQ (g2 i)) (hx := v2) (hy := vg2) (by omega) (by decide)
  have f4 := ti_ret (ofQ ((l.getD i dS).x : Rat)) (ofQ ((l.getD i dS).x : Rat)) (by decide) (by decide)
  have vxx : Vq (ofQ (((l.getD i dS).x : Rat) * ((l.getD i dS).x : Rat))) (((l.getD i dS).x : Rat) * ((l.getD i dS).x : Rat)) 8 := Vq.ofQ (h := @HQ.mul _ _ 4 4 HQ.int HQ.int)
  have f5 := ti_ret (ofQ (kI l z t i)) (ofQ (((l.getD i dS).x : Rat) * ((l.getD i dS).x : Rat))) (hx := vk) (hy := vxx) (by decide) (by decide)
  have hg3i : kI l z t i * (((l.getD i dS).x : Rat) * ((l.getD i dS).x : Rat)) = g3 i := by rw [← hg3,← Rat.mul_assoc];rfl
  rw [hg3i] at f5
  have f6 := pl_ret (ofQ (sumN g3 i)) (ofQ (g3 i)) (hx := v3) (hy := vg3) (by omega) (by decide)
  rw [show sumN (kI l z t) i + kI l z t i = sumN (kI l z t) (i + 1) from rfl] at f1
  rw [show sumN g2 i + g2 i = sumN g2 (i + 1) from rfl] at f3
  rw [show sumN g3 i + g3 i = sumN g3 (i + 1) from rfl] at f6
  generalize hA : ofQ (sumN (kI l z t) (i + 1)) = A1 at *
  generalize hB : ofQ (sumN g2 (i + 1)) = B1 at *
  generalize hC : ofQ (sumN g3 (i + 1)) = C1 at *
  generalize ofQ (sumN (kI l z t) i) = A0 at *
  generalize ofQ (sumN g2 i) = B0 at *
  generalize ofQ (sumN g3 i) = C0 at *
  generalize ofQ (((l.getD i dS).x : Rat) * ((l.getD i dS).x : Rat)) = XX at *
  generalize ofQ (kI l z t i) = K0 at *
  generalize ofQ (yI l z t i) = Y0 at *
  generalize ofQ (g2 i) = G2 at *
  generalize ofQ (g3 i) = G3 at *
  generalize ofQ ((l.getD i dS).x : Rat) = X0 at *
  generalize l.getD i dS = x at *
  clear him hrg q1 q2 q3 hg2 hg3
  obtain ⟨xx,xc,xk⟩ := x
  obtain ⟨az,at'⟩ := a
  simp only at *
  refine pw_ghost (gdrop 7) ?_
  refine pw_ghost (gdrop 8) ?_
  repeat refine stq rfl ?_
  refine pw_draw2 18 2 [19,20,21,22,23,24,25,26,27,28,29,30,31,32,33,34,35,36,7,8] [] (by decide +kernel) rfl ?_
  repeat refine stq rfl ?_
  refine qst rfl rfl (q_idxm rfl rfl rfl rfl rfl (by omega) hx rfl) ?_
  repeat refine stq rfl ?_
  refine qst rfl rfl (q_idxm rfl rfl rfl rfl rfl (by omega) hx rfl) ?_
  repeat refine stq rfl ?_
  refine qst rfl rfl (q_cs rfl e1 rfl rfl) ?_
  repeat refine stq rfl ?_
  refine qst rfl rfl (q_cs rfl e2 rfl rfl) ?_
  repeat refine stq rfl ?_
  refine qst rfl rfl (q_idxm rfl rfl rfl rfl rfl (by omega) hx rfl) ?_
  repeat refine stq rfl ?_
  refine qst rfl rfl (q_cs rfl e3 rfl rfl) ?_
  repeat refine stq rfl ?_
  refine qst rfl rfl (q_cs rfl f1 rfl rfl) ?_
  repeat refine stq rfl ?_
  refine pw_draw 7 [42,43,44,45,46,47,48] (by decide +kernel) ?_
  repeat refine stq rfl ?_
  refine qst rfl rfl (q_cs rfl f2 rfl rfl) ?_
  repeat refine stq rfl ?_
  refine qst rfl rfl (q_cs rfl f3 rfl rfl) ?_
  repeat refine stq rfl ?_
  refine pw_draw 9 [49,50,51,52,53,54,55,56,57] (by decide +kernel) ?_
  repeat refine stq rfl ?_
  refine qst rfl rfl (q_cs rfl f4 rfl rfl) ?_
  repeat refine stq rfl ?_
  refine qst rfl rfl (q_cs rfl f5 rfl rfl) ?_
  repeat refine stq rfl ?_
  refine qst rfl rfl (q_cs rfl f6 rfl rfl) ?_
  repeat refine stq rfl ?_
  refine ⟨i + 1,hlt,by omega,rfl,rfl,rfl,rfl,congrArg I hw,rfl,rfl,?_,trivial⟩
  show (_ : Nat × Option Cont) = (1,some (Cont.mk 94 12 [eK (ofQ (sumN (kI l z t) (i + 1))) (ofQ (sumN g2 (i + 1))) (ofQ (sumN g3 (i + 1)))] 2))
  rw [hA,hB,hC]
  rfl
 ·have hie : i = l.length := by have := of_decide_eq_false h;omega
  clear h
  subst hie
  repeat refine stq rfl ?_
  exact endm rfl (by repeat' constructor) rfl (by repeat' constructor) rfl
end Go.Pv


set_option maxHeartbeats 2000000
namespace Go.Pv
attribute [local irreducible] PWP POps PQuiet PSem XThen XBlock RetPost InlPost
open Go.Proofs
theorem coll_err (l : List SR) (hl : LimL l) (h0 : checkL l ≠ 0) (f : FuncId) (cc : List PV) : Ret Tryz.prog .shared 81 [.sl (l.map eS),.clo f [.dref cc 0]] (.tup [.nil,I (checkL l)]) := by
 have hck := check_ret l hl
 generalize checkL l = e at *
 refine Ret.of_pwp layOk mixed Go.Proofs.Tryz.func81 rfl (by decide) rfl rfl ?_
 repeat refine stq rfl ?_
 refine qst rfl rfl (q_cp rfl hck rfl rfl rfl) ?_
 repeat refine stq rfl ?_
 refine pw_cond rfl (fun h => ?_) (fun h => ?_)
 ·clear h
  repeat refine stq rfl ?_
  exact endm rfl (by repeat' constructor) rfl (by repeat' constructor) rfl
 ·exfalso
  simp at h
  exact h0 h
theorem forces_err (l : List SR) (hl : LimL l) (h0 : checkL l ≠ 0) (a : AR) : Ret Tryz.prog .shared 23 [.sl (l.map eS),.agg (eA a)] (.tup [.sl [],I (checkL l)]) := by
 have h1 := coll_err l hl h0 82 (eA a)
 refine Ret.weak (r' := .tup [.nil,I (checkL l)]) ?_ (WeakL.refl _) (WeakL.tup (.cons .nil (WeakL.refl _)))
 generalize checkL l = e at *
 obtain ⟨az,at'⟩ := a
 refine Ret.of_pwp layOk mixed Go.Proofs.Tryz.func23 rfl (by decide) rfl rfl ?_
 (repeat ((fail_if_success (with_reducible refine pw_at 1 ?_));refine stx rfl ?_))
 refine pw_ghost (Ghost.data (k := 3) (t := 3) rfl rfl rfl rfl) ?_
 repeat refine stq rfl ?_
 refine qst rfl rfl (q_cs rfl h1 rfl rfl) ?_
 repeat refine stq rfl ?_
 exact endm rfl (by repeat' constructor) rfl (by repeat' constructor) rfl
theorem imms_err (l : List SR) (hl : LimL l) (h0 : checkL l ≠ 0) (a : AR) : Ret Tryz.prog .shared 24 [.sl (l.map eS),.agg (eA a)] (.tup [.sl [],I (checkL l)]) := by
 have h1 := coll_err l hl h0 84 (eA a)
 refine Ret.weak (r' := .tup [.nil,I (checkL l)]) ?_ (WeakL.refl _) (WeakL.tup (.cons .nil (WeakL.refl _)))
 generalize checkL l = e at *
 obtain ⟨az,at'⟩ := a
 refine Ret.of_pwp layOk mixed Go.Proofs.Tryz.func24 rfl (by decide) rfl rfl ?_
 (repeat ((fail_if_success (with_reducible refine pw_at 1 ?_));refine stx rfl ?_))
 refine pw_ghost (Ghost.data (k := 3) (t := 3) rfl rfl rfl rfl) ?_
 repeat refine stq rfl ?_
 refine qst rfl rfl (q_cs rfl h1 rfl rfl) ?_
 repeat refine stq rfl ?_
 exact endm rfl (by repeat' constructor) rfl (by repeat' constructor) rfl
theorem total_err (l : List SR) (hl : LimL l) (h0 : checkL l ≠ 0) (a : AR) : Ret Tryz.prog .shared 51 [.sl (l.map eS),.agg (eA a)] (.tup [.agg (zN ++ zN),I (checkL l)]) := by
 have h1 := forces_err l hl h0 a
 generalize checkL l = e at *
 obtain ⟨az,at'⟩ := a
 refine Ret.of_pwp layOk mixed Go.Proofs.Tryz.func51 rfl (by decide) rfl rfl ?_
 repeat refine stq rfl ?_
 refine qst rfl rfl (q_cs rfl h1 rfl rfl) ?_
 repeat refine stq rfl ?_
 refine pw_cond rfl (fun h => ?_) (fun h => ?_)
 ·clear h
  repeat refine stq rfl ?_
  exact endm rfl (by repeat' constructor) rfl (by repeat' constructor) rfl
 ·exfalso
  simp at h
  exact h0 h
theorem total51 (l : List SR) (hl : LimL l) (hc : checkL l = 0) (hf : FewL l) (a : AR) {z t : Rat} {n m : Nat} [ha : Va a z t n m] (hn : n + m ≤ 80000) : Ret Tryz.prog .shared 51 [.sl (l.map eS),.agg (eA a)] (.tup [.agg (eR (ofQ (sumN (fI l z t) l.length)) ++ eR (ofQ (sumN (gI l z t) l.length))),I 0]) := by
 have h1 := forces_ret l hl hc a (z := z) (t := t) (by omega)
 have h2 := total_ret l hl hf ha.z.hq ha.t.hq (by omega)
 generalize ofQ (sumN (fI l z t) l.length) = X at *
 generalize ofQ (sumN (gI l z t) l.length) = Y at *
 generalize FL l z t = G at *
 obtain ⟨az,at'⟩ := a
 refine Ret.of_pwp layOk mixed Go.Proofs.Tryz.func51 rfl (by decide) rfl rfl ?_
 repeat refine stq rfl ?_
 refine qst rfl rfl (q_cs rfl h1 rfl rfl) ?_
 repeat refine stq rfl ?_
 refine qst rfl rfl (q_cs rfl h2 rfl rfl) ?_
 repeat refine stq rfl ?_
 exact endm rfl (by repeat' constructor) rfl (by repeat' constructor) rfl
def ldN (f : Nat → Rat) : Nat → List Int
 |0 => []
 |k + 1 => if f k = 0 then ldN f k else ldN f k ++ [(k : Int)]
theorem ldN_len (f : Nat → Rat) : ∀ k,(ldN f k).length ≤ k
 |0 => Nat.le_refl _
 |k + 1 => by
  have := ldN_len f k
  rw [ldN]
  split
  ·omega
  ·rw [List.length_append,List.length_singleton];omega
set_option maxRecDepth 20000 in
theorem loaded_ret (l : List SR) (F : List RR) (f : Nat → Rat) {N : Nat} (e : Int) (a : AR) (h23 : Ret Tryz.prog .shared 23 [.sl (l.map eS),.agg (eA a)] (.tup [.sl (F.map eR),I e])) (hf : ∀ i,i < F.length → F[i]? = some (ofQ (f i))) (hH : ∀ i,i < F.length → HQ (f i) N) (hN : N ≤ 1000000) (h12 : F.length ≤ 1000) :
  Ret Tryz.prog .shared 50 [.sl (l.map eS),.agg (eA a)] (.tup [.sl ((ldN f F.length).map eN),I e]) := by
 have hmF : (F.map eR).length = F.length := by simp
 obtain ⟨az,at'⟩ := a
 refine Ret.of_pwp layOk mixed Go.Proofs.Tryz.func50 rfl (by decide) rfl rfl ?_
 repeat refine stq rfl ?_
 refine qst rfl rfl (q_cs rfl h23 rfl rfl) ?_
 repeat refine stq rfl ?_
 refine pw_ghost (Ghost.nilreg (k := 8) (t := 8) 3 1 0 rfl rfl) ?_
 refine pw_loop (fun k => k ≤ F.length) (fun k => [(7,I e),(8,.als 8 (1 + (ldN f k).length) 0 ((ldN f k).map eN).length),(17,.sl (F.map eR)),(18,I F.length),(19,I (k : Nat))]) (fun k => [(8,1 + (ldN f k).length,⟨3,1,(ldN f k).map eN,0⟩)]) (fun k => F.length - k) 0 (Nat.zero_le _) ⟨rfl,rfl,rfl,by rw [← hmF];rfl,rfl,rfl,trivial⟩ ?_
 intro k s hk
 repeat refine stq rfl ?_
 refine pw_cond rfl (fun h => ?_) (fun h => ?_)
 ·have hlt : k < F.length := by have := of_decide_eq_true h;omega
  clear h
  have hx := hf k hlt
  have hlen := ldN_len f k
  have v1 : Vq (ofQ (f k)) (f k) N := Vq.ofQ (h := hH k hlt)
  have e1 := signF (ofQ (f k)) (hx := v1) (by omega)
  have hs := sgn_eq (f k)
  have hw : IntKind.i64.wrap (((k : Nat) : Int) + 1) = ((k + 1 : Nat) : Int) := by rw [wrap_i64 (by omega) (by omega)];omega
  have hrow : ldN f (k + 1) = if sgn (f k) = 0 then ldN f k else ldN f k ++ [(k : Int)] := by
   rw [ldN]
   by_cases h : f k = 0
   ·rw [if_pos h,if_pos (hs.2 h)]
   ·rw [if_neg h,if_neg (fun q => h (hs.1 q))]
  generalize hA1 : ldN f (k + 1) = A1 at *
  generalize ldN f k = A at *
  generalize sgn (f k) = sg at *
  clear hs
  repeat refine stq rfl ?_
  refine qst rfl rfl (q_idxm rfl rfl rfl rfl rfl (by omega) hx rfl) ?_
  repeat refine stq rfl ?_
  refine qst rfl rfl (q_cp rfl e1 rfl rfl rfl) ?_
  repeat refine stq rfl ?_
  refine pw_cond rfl (fun h => ?_) (fun h => ?_)
  ·have h1 : sg ≠ 0 := by simpa using h
   clear h
   rw [if_neg h1] at hrow
   repeat refine stq rfl ?_
   refine qst rfl rfl (q_slit rfl rfl rfl rfl rfl rfl rfl rfl rfl rfl (by repeat' constructor) rfl) ?_
   refine ps_run (o_app 0 rfl rfl rfl rfl rfl rfl rfl rfl rfl rfl rfl (by repeat' constructor) (by intro row hr;first | (simp at hr;subst hr;rfl) | simp at hr) rfl rfl (by simp;omega) (by simp;omega) ?_)
   repeat refine stq rfl ?_
   refine ⟨k + 1,hlt,by omega,rfl,?_,rfl,rfl,congrArg I hw,?_,trivial⟩
   ·rw [hA1,hrow];exact als_snc eN 8 1 A (k : Int)
   ·rw [hA1,hrow];exact cont_snc eN 1 3 1 0 A (k : Int)
  ·have h1 : sg = 0 := by simpa using h
   clear h
   rw [if_pos h1] at hrow
   repeat refine stq rfl ?_
   refine ⟨k + 1,hlt,by omega,rfl,?_,rfl,rfl,congrArg I hw,?_,trivial⟩
   ·rw [hA1,hrow];rfl
   ·rw [hA1,hrow];rfl
 ·have hge : k = F.length := by have := of_decide_eq_false h;omega
  subst hge
  clear h
  repeat refine stq rfl ?_
  exact endm rfl (by repeat' constructor) rfl (by repeat' constructor) rfl
set_option maxRecDepth 20000 in
theorem rloaded_ret (l : List SR) (F : List RR) (f : Nat → Rat) {N : Nat} (a : AR) (h59 : Ret Tryz.prog .shared 59 [.sl (l.map eS),.agg (eA a)] (.sl (F.map eR))) (hf : ∀ i,i < F.length → F[i]? = some (ofQ (f i))) (hH : ∀ i,i < F.length → HQ (f i) N) (hN : N ≤ 1000000) (h12 : F.length ≤ 1000) (hnn : ∀ i,i < F.length → 0 ≤ f i) :
  Ret Tryz.prog .shared 61 [.sl (l.map eS),.agg (eA a)] (.sl ((ldN f F.length).map eN)) := by
 have hmF : (F.map eR).length = F.length := by simp
 obtain ⟨az,at'⟩ := a
 refine Ret.of_pwp layOk mixed Go.Proofs.Tryz.func61 rfl (by decide) rfl rfl ?_
 repeat refine stq rfl ?_
 refine qst rfl rfl (q_cs rfl h59 rfl rfl) ?_
 repeat refine stq rfl ?_
 refine pw_ghost (Ghost.nilreg (k := 5) (t := 5) 3 1 0 rfl rfl) ?_
 refine pw_loop (fun k => k ≤ F.length) (fun k => [(5,.als 5 (1 + (ldN f k).length) 0 ((ldN f k).map eN).length),(6,.sl (F.map eR)),(7,I (k : Nat))]) (fun k => [(5,1 + (ldN f k).length,⟨3,1,(ldN f k).map eN,0⟩)]) (fun k => F.length - k) 0 (Nat.zero_le _) ⟨rfl,rfl,rfl,rfl,trivial⟩ ?_
 intro k s hk
 repeat refine stq rfl ?_
 refine pw_cond rfl (fun h => ?_) (fun h => ?_)
 ·have hlt : k < F.length := by have := of_decide_eq_true h;omega
  clear h
  have hx := hf k hlt
  have hlen := ldN_len f k
  have v1 : Vq (ofQ (f k)) (f k) N := Vq.ofQ (h := hH k hlt)
  have e1 := sg_ret (ofQ (f k)) (hx := v1) (by omega)
  have hs := sgn_eq (f k)
  have hp := (sgn_ge (f k)).2 (hnn k hlt)
  have hw : IntKind.i64.wrap (((k : Nat) : Int) + 1) = ((k + 1 : Nat) : Int) := by rw [wrap_i64 (by omega) (by omega)];omega
  have hrow : ldN f (k + 1) = if sgn (f k) = 0 then ldN f k else ldN f k ++ [(k : Int)] := by
   rw [ldN]
   by_cases h : f k = 0
   ·rw [if_pos h,if_pos (hs.2 h)]
   ·rw [if_neg h,if_neg (fun q => h (hs.1 q))]
  generalize hA1 : ldN f (k + 1) = A1 at *
  generalize ldN f k = A at *
  generalize sgn (f k) = sg at *
  clear hs
  repeat refine stq rfl ?_
  refine qst rfl rfl (q_idxm rfl rfl rfl rfl rfl (by omega) hx rfl) ?_
  repeat refine stq rfl ?_
  refine qst rfl rfl (q_cp rfl e1 rfl rfl rfl) ?_
  repeat refine stq rfl ?_
  refine pw_cond rfl (fun h => ?_) (fun h => ?_)
  ·have h1 : sg ≠ 0 := by have := of_decide_eq_true h;omega
   clear h
   rw [if_neg h1] at hrow
   repeat refine stq rfl ?_
   refine qst rfl rfl (q_slit rfl rfl rfl rfl rfl rfl rfl rfl rfl rfl (by repeat' constructor) rfl) ?_
   refine ps_run (o_app 0 rfl rfl rfl rfl rfl rfl rfl rfl rfl rfl rfl (by repeat' constructor) (by intro row hr;first | (simp at hr;subst hr;rfl) | simp at hr) rfl rfl (by simp;omega) (by simp;omega) ?_)
   repeat refine stq rfl ?_
   refine ⟨k + 1,hlt,by omega,?_,rfl,congrArg I hw,?_,trivial⟩
   ·rw [hA1,hrow];exact als_snc eN 5 1 A (k : Int)
   ·rw [hA1,hrow];exact cont_snc eN 1 3 1 0 A (k : Int)
  ·have h1 : sg = 0 := by have := of_decide_eq_false h;omega
   clear h
   rw [if_pos h1] at hrow
   repeat refine stq rfl ?_
   refine ⟨k + 1,hlt,by omega,?_,rfl,congrArg I hw,?_,trivial⟩
   ·rw [hA1,hrow];rfl
   ·rw [hA1,hrow];rfl
 ·have hge : k = F.length := by have := of_decide_eq_false h;rw [hmF] at this;omega
  subst hge
  clear h
  repeat refine stq rfl ?_
  exact end1 rfl rfl rfl ⟨rfl,rfl,rfl⟩ rfl
theorem stiff_err (l : List SR) (hl : LimL l) (h0 : checkL l ≠ 0) (a : AR) : Ret Tryz.prog .shared 52 [.sl (l.map eS),.agg (eA a)] (.tup [.agg (zN ++ (zN ++ zN)),I (checkL l)]) := by
 have h1 := check_ret l hl
 generalize checkL l = e at *
 obtain ⟨az,at'⟩ := a
 refine Ret.of_pwp layOk mixed Go.Proofs.Tryz.func52 rfl (by decide) rfl rfl ?_
 repeat refine stq rfl ?_
 refine qst rfl rfl (q_cp rfl h1 rfl rfl rfl) ?_
 repeat refine stq rfl ?_
 refine pw_cond rfl (fun h => ?_) (fun h => ?_)
 ·clear h
  repeat refine stq rfl ?_
  exact endm rfl (by repeat' constructor) rfl (by repeat' constructor) rfl
 ·exfalso
  simp at h
  exact h0 h
def kSum (l : List SR) (z t : Rat) : List PV := eK (ofQ (sumN (kI l z t) l.length)) (ofQ (sumN (fun i => kI l z t i * xI l i) l.length)) (ofQ (sumN (fun i => kI l z t i * xI l i * xI l i) l.length))
theorem stiff52 (l : List SR) (hl : LimL l) (hc : checkL l = 0) (hf : FewL l) (a : AR) {z t : Rat} {n m : Nat} [ha : Va a z t n m] (hn : n + m ≤ 60000) : Ret Tryz.prog .shared 52 [.sl (l.map eS),.agg (eA a)] (.tup [.agg (kSum l z t),I 0]) := by
 have h1 := check_ret l hl
 rw [hc] at h1
 have h2 := right_ret a
 have h3 := stiff_ret l hl hf 173 (eA a) (fun s => ofQ (befQ s.k.m (prI s.k.s (yQ s z t) s.k.S.length))) (kI l z t) (fun s hs => right1_ret s (hl.1 s hs) (checkL_curve hc s hs) a (by omega))
  (fun i hi => vq_mono (Vq.ofQ (h := kI_hq hl hi)) (by decide))
 rw [kSum]
 generalize ofQ (sumN (kI l z t) l.length) = X at *
 generalize ofQ (sumN (fun i => kI l z t i * xI l i) l.length) = Y at *
 generalize ofQ (sumN (fun i => kI l z t i * xI l i * xI l i) l.length) = Z at *
 obtain ⟨az,at'⟩ := a
 refine Ret.of_pwp layOk mixed Go.Proofs.Tryz.func52 rfl (by decide) rfl rfl ?_
 repeat refine stq rfl ?_
 refine qst rfl rfl (q_cp rfl h1 rfl rfl rfl) ?_
 repeat refine stq rfl ?_
 refine qst rfl rfl (q_cs rfl h2 rfl rfl) ?_
 repeat refine stq rfl ?_
 refine qst rfl rfl (q_cs rfl h3 rfl rfl) ?_
 repeat refine stq rfl ?_
 exact endm rfl (by repeat' constructor) rfl (by repeat' constructor) rfl
theorem centre_err (l : List SR) (hl : LimL l) (h0 : checkL l ≠ 0) (a : AR) : Ret Tryz.prog .shared 54 [.sl (l.map eS),.agg (eA a)] (.tup [.agg zN,I (checkL l)]) := by
 have h1 := stiff_err l hl h0 a
 generalize checkL l = e at *
 obtain ⟨az,at'⟩ := a
 refine Ret.of_pwp layOk mixed Go.Proofs.Tryz.func54 rfl (by decide) rfl rfl ?_
 repeat refine stq rfl ?_
 refine qst rfl rfl (q_cs rfl h1 rfl rfl) ?_
 repeat refine stq rfl ?_
 refine pw_cond rfl (fun h => ?_) (fun h => ?_)
 ·clear h
  repeat refine stq rfl ?_
  exact endm rfl (by repeat' constructor) rfl (by repeat' constructor) rfl
 ·exfalso
  simp at h
  exact h0 h
theorem kS_hq {l : List SR} (hl : LimL l) (hf : FewL l) (z t : Rat) : HQ (sumN (kI l z t) l.length) 400 ∧ HQ (sumN (fun i => kI l z t i * xI l i) l.length) 400 := by
 have h12 := hf.1
 refine ⟨(sumN_hq (m := 13) l.length fun k hk => kI_hq hl hk).mono (by omega),(sumN_hq (m := 13 + 4) l.length fun k hk => ?_).mono (by omega)⟩
 have := xI_zb hl hk
 exact @HQ.mul _ _ 13 4 (kI_hq hl hk) HQ.int
theorem centre54 (l : List SR) (hl : LimL l) (hc : checkL l = 0) (hf : FewL l) (a : AR) {z t : Rat} {n m : Nat} [ha : Va a z t n m] (hn : n + m ≤ 60000) : Ret Tryz.prog .shared 54 [.sl (l.map eS),.agg (eA a)] (if sumN (kI l z t) l.length = 0 then .tup [.agg (eR RR.zero),I 9] else .tup [.agg (eR (ofQ (sumN (fun i => kI l z t i * xI l i) l.length / sumN (kI l z t) l.length))),I 0]) := by
 have h1 := stiff52 l hl hc hf a (z := z) (t := t) hn
 obtain ⟨q1,q2⟩ := kS_hq hl hf z t
 rw [kSum] at h1
 have h2 := quoR_ret (ofQ (sumN (fun i => kI l z t i * xI l i) l.length)) (ofQ (sumN (kI l z t) l.length)) (hx := Vq.ofQ (h := q2)) (hy := Vq.ofQ (h := q1)) (by decide) (by decide)
 generalize ofQ (sumN (fun i => kI l z t i * xI l i * xI l i) l.length) = Z at *
 generalize sumN (fun i => kI l z t i * xI l i) l.length = y at *
 generalize sumN (kI l z t) l.length = x at *
 generalize ofQ (y / x) = W at *
 generalize ofQ x = X at *
 generalize ofQ y = Y at *
 clear q1 q2
 by_cases hz : x = 0
 ·rw [if_pos hz] at h2 ⊢
  obtain ⟨az,at'⟩ := a
  refine Ret.of_pwp layOk mixed Go.Proofs.Tryz.func54 rfl (by decide) rfl rfl ?_
  repeat refine stq rfl ?_
  refine qst rfl rfl (q_cs rfl h1 rfl rfl) ?_
  repeat refine stq rfl ?_
  refine qst rfl rfl (q_cs rfl h2 rfl rfl) ?_
  repeat refine stq rfl ?_
  exact endm rfl (by repeat' constructor) rfl (by repeat' constructor) rfl
 ·rw [if_neg hz] at h2 ⊢
  obtain ⟨az,at'⟩ := a
  refine Ret.of_pwp layOk mixed Go.Proofs.Tryz.func54 rfl (by decide) rfl rfl ?_
  repeat refine stq rfl ?_
  refine qst rfl rfl (q_cs rfl h1 rfl rfl) ?_
  repeat refine stq rfl ?_
  refine qst rfl rfl (q_cs rfl h2 rfl rfl) ?_
  repeat refine stq rfl ?_
  exact endm rfl (by repeat' constructor) rfl (by repeat' constructor) rfl
end Go.Pv


set_option maxHeartbeats 2000000
namespace Go.Pv
attribute [local irreducible] PWP POps PQuiet PSem XThen XBlock RetPost InlPost
open Go.Proofs
def endB (s : SR) : Bool := decide (befQ s.k.m s.k.S.length = 0)
def mvI (l : List SR) (i : Nat) : Rat := mostV (l.getD i dS).k
def capL (l : List SR) : RR × Bool := if l.all endB = true then (ofQ (sumN (mvI l) l.length),true) else (RR.zero,false)
theorem most_hq {c : CR} (hc : c.Lim) (h8 : c.S.length ≤ 8) : HQ (mostV c) 400 := by
 rw [mostV]
 split
 ·exact HQ.zero.mono (by decide)
 ·rw [valQ]
  exact (sumN_hq c.S.length fun k _ => ramp_hq hc (s_hq hc (c.S.length - 1)) k).mono (by omega)
theorem mvI_hq {l : List SR} (hl : LimL l) (hf : FewL l) {i : Nat} (hi : i < l.length) : HQ (mvI l i) 400 := most_hq (hl.1 _ (getD_mem hi)).k (hf.2 _ (getD_mem hi))
theorem capS_hq {l : List SR} (hl : LimL l) (hf : FewL l) {i : Nat} (hi : i ≤ l.length) : HQ (sumN (mvI l) i) (i * 401 + 4) := sumN_hq i fun k hk => mvI_hq hl hf (by omega)
theorem all_drop {l : List SR} {i : Nat} (h : i < l.length) : (l.drop i).all endB = (endB (l.getD i dS) && (l.drop (i + 1)).all endB) := by
 have hx := get_some (d := dS) h
 obtain ⟨hl,e⟩ := List.getElem?_eq_some_iff.1 hx
 rw [List.drop_eq_getElem_cons hl,List.all_cons,e]
theorem cap_err (l : List SR) (hl : LimL l) (h0 : checkL l ≠ 0) : Ret Tryz.prog .shared 53 [.sl (l.map eS)] (.tup [.agg zN,.bool false,I (checkL l)]) := by
 have h1 := check_ret l hl
 generalize checkL l = e at *
 refine Ret.of_pwp layOk mixed Go.Proofs.Tryz.func53 rfl (by decide) rfl rfl ?_
 repeat refine stq rfl ?_
 refine qst rfl rfl (q_cp rfl h1 rfl rfl rfl) ?_
 repeat refine stq rfl ?_
 refine pw_cond rfl (fun h => ?_) (fun h => ?_)
 ·clear h
  repeat refine stq rfl ?_
  exact endm rfl (by repeat' constructor) rfl (by repeat' constructor) rfl
 ·exfalso
  simp at h
  exact h0 h
set_option maxRecDepth 20000 in
theorem cap53 (l : List SR) (hl : LimL l) (hc : checkL l = 0) (hf : FewL l) : Ret Tryz.prog .shared 53 [.sl (l.map eS)] (.tup [.agg (eR (capL l).1),.bool (capL l).2,I 0]) := by
 have h1 := check_ret l hl
 rw [hc] at h1
 have h12 := hf.1
 have w0 := wholeF 0 ⟨by decide,by decide⟩
 rw [show (((0 : Int) : Rat)) = 0 from rfl] at w0
 have hml : (l.map eS).length = l.length := by simp
 have hcap : ∀ i,i < l.length → Ret Tryz.prog .shared 131 [.agg (eC (l.getD i dS).k)] (if endB (l.getD i dS) = true then .tup [.agg (eR (ofQ (mvI l i))),.bool true,I 0] else .tup [.agg zN,.bool false,I 0]) := fun i hi => by
  have hk := checkL_curve hc _ (getD_mem hi)
  have := capacity_ret _ (hl.1 _ (getD_mem hi)).k hk
  rw [capR] at this
  by_cases hb : befQ (l.getD i dS).k.m (l.getD i dS).k.S.length = 0
  ·rw [if_pos hb,← most_cap hk hb] at this
   rw [if_pos (by rw [endB];exact decide_eq_true hb)]
   exact this
  ·rw [if_neg hb] at this
   rw [if_neg (by rw [endB,decide_eq_true_eq];exact hb)]
   exact this
 generalize hQ : l.all endB = Q
 have hR : capL l = if Q = true then (ofQ (sumN (mvI l) l.length),true) else (RR.zero,false) := by rw [capL,hQ]
 rw [hR]
 clear hR
 refine Ret.weak (r' := .tup [.agg (if Q = true then eR (ofQ (sumN (mvI l) l.length)) else zN),.bool Q,I 0]) ?_ (WeakL.refl _) (by
  cases Q
  ·exact WeakL.tup (.cons zN_weak.agg (WeakL.refl _))
  ·exact .rfl _)
 refine Ret.of_pwp layOk mixed Go.Proofs.Tryz.func53 rfl (by decide) rfl rfl ?_
 repeat refine stq rfl ?_
 refine qst rfl rfl (q_cp rfl h1 rfl rfl rfl) ?_
 repeat refine stq rfl ?_
 refine qst rfl rfl (q_cs rfl w0 rfl rfl) ?_
 repeat refine stq rfl ?_
 refine pw_loop (fun i : Nat => i ≤ l.length ∧ (l.drop i).all endB = Q) (fun i => [(2,.ptr 2 1 0 0),(6,.ptr 6 1 0 0),(19,.sl (l.map eS)),(20,I l.length),(21,I (i : Nat))])
  (fun i => [(2,1,⟨26,4,[zN],2⟩),(6,1,⟨26,4,[eR (ofQ (sumN (mvI l) i))],2⟩)]) (fun i => l.length - i) 0 ⟨Nat.zero_le _,by rw [List.drop_zero];exact hQ⟩ ⟨rfl,rfl,rfl,by rw [← hml];rfl,rfl,rfl,rfl,trivial⟩ ?_
 intro i s ⟨hi,hD⟩
 repeat refine stq rfl ?_
 refine pw_cond rfl (fun h => ?_) (fun h => ?_)
 ·have hlt : i < l.length := by have := of_decide_eq_true h;omega
  clear h
  have hx := get_some (d := dS) hlt
  have e1 := hcap i hlt
  have hw : IntKind.i64.wrap (((i : Nat) : Int) + 1) = ((i + 1 : Nat) : Int) := by rw [wrap_i64 (by omega) (by omega)];omega
  rw [all_drop hlt] at hD
  cases hb : endB (l.getD i dS) with
  |false =>
   rw [hb,Bool.false_and] at hD
   rw [hb,if_neg (by decide)] at e1
   subst hD
   rw [if_neg (by decide)]
   repeat refine stq rfl ?_
   refine qst rfl rfl (q_idxm rfl rfl rfl rfl rfl (by omega) hx rfl) ?_
   repeat refine stq rfl ?_
   refine qst rfl rfl (q_cs rfl e1 rfl rfl) ?_
   repeat refine stq rfl ?_
   exact endm rfl (by repeat' constructor) rfl (by repeat' constructor) rfl
  |true =>
   rw [hb,Bool.true_and] at hD
   rw [hb,if_pos rfl] at e1
   have e2 := addR (ofQ (sumN (mvI l) i)) (ofQ (mvI l i)) (hx := Vq.ofQ (h := capS_hq hl hf hi)) (hy := Vq.ofQ (h := mvI_hq hl hf hlt)) (by omega) (by decide)
   rw [show sumN (mvI l) i + mvI l i = sumN (mvI l) (i + 1) from rfl] at e2
   generalize hS1 : ofQ (sumN (mvI l) (i + 1)) = S1 at *
   generalize ofQ (sumN (mvI l) i) = S0 at *
   generalize ofQ (mvI l i) = M0 at *
   repeat refine stq rfl ?_
   refine qst rfl rfl (q_idxm rfl rfl rfl rfl rfl (by omega) hx rfl) ?_
   repeat refine stq rfl ?_
   refine qst rfl rfl (q_cs rfl e1 rfl rfl) ?_
   repeat refine stq rfl ?_
   refine qst rfl rfl (q_cs rfl e2 rfl rfl) ?_
   repeat refine stq rfl ?_
   refine ⟨i + 1,⟨hlt,hD⟩,by omega,rfl,rfl,rfl,rfl,congrArg I hw,rfl,?_,trivial⟩
   show (_ : Nat × Option Cont) = (1,some (Cont.mk 26 4 [eR (ofQ (sumN (mvI l) (i + 1)))] 2))
   rw [hS1]
   rfl
 ·have hie : i = l.length := by have := of_decide_eq_false h;omega
  clear h
  rw [hie,List.drop_length] at hD
  have hD : true = Q := hD
  subst hD
  subst hie
  rw [if_pos rfl]
  repeat refine stq rfl ?_
  exact endm rfl (by repeat' constructor) rfl (by repeat' constructor) rfl
set_option maxRecDepth 20000 in
theorem rcap57 (l : List SR) (hl : LimL l) (hc : checkL l = 0) (hf : FewL l) : Ret Tryz.prog .shared 57 [.sl (l.map eS)] (.tup [.agg (eR (capL l).1),.bool (capL l).2]) := by
 have h12 := hf.1
 have w0 := w0_ret
 have hml : (l.map eS).length = l.length := by simp
 have hcap : ∀ i,i < l.length → Ret Tryz.prog .shared 118 [.agg (eC (l.getD i dS).k)] (.tup [.agg (eR (ofQ (mvI l i))),.bool (endB (l.getD i dS))]) := fun i hi => rmost_ret _ (hl.1 _ (getD_mem hi)).k (checkL_curve hc _ (getD_mem hi))
 generalize hQ : l.all endB = Q
 have hR : capL l = if Q = true then (ofQ (sumN (mvI l) l.length),true) else (RR.zero,false) := by rw [capL,hQ]
 rw [hR]
 clear hR
 refine Ret.weak (r' := .tup [.agg (if Q = true then eR (ofQ (sumN (mvI l) l.length)) else zN),.bool Q]) ?_ (WeakL.refl _) (by
  cases Q
  ·exact WeakL.tup (.cons zN_weak.agg (WeakL.refl _))
  ·exact .rfl _)
 refine Ret.of_pwp layOk mixed Go.Proofs.Tryz.func57 rfl (by decide) rfl rfl ?_
 repeat refine stq rfl ?_
 refine qst rfl rfl (q_cs rfl w0 rfl rfl) ?_
 repeat refine stq rfl ?_
 refine pw_loop (fun i : Nat => i ≤ l.length ∧ (l.drop i).all endB = Q) (fun i => [(0,.sl (l.map eS)),(2,.ptr 2 1 0 0),(4,.ptr 4 1 0 0),(5,I (i : Nat))])
  (fun i => [(2,1,⟨26,4,[zN],2⟩),(4,1,⟨26,4,[eR (ofQ (sumN (mvI l) i))],2⟩)]) (fun i => l.length - i) 0 ⟨Nat.zero_le _,by rw [List.drop_zero];exact hQ⟩ ⟨rfl,rfl,rfl,rfl,rfl,rfl,trivial⟩ ?_
 intro i s ⟨hi,hD⟩
 repeat refine stq rfl ?_
 refine pw_cond rfl (fun h => ?_) (fun h => ?_)
 ·have hlt : i < l.length := by have := of_decide_eq_true h;omega
  clear h
  have hx := get_some (d := dS) hlt
  have e1 := hcap i hlt
  have hw : IntKind.i64.wrap (((i : Nat) : Int) + 1) = ((i + 1 : Nat) : Int) := by rw [wrap_i64 (by omega) (by omega)];omega
  rw [all_drop hlt] at hD
  cases hb : endB (l.getD i dS) with
  |false =>
   rw [hb,Bool.false_and] at hD
   rw [hb] at e1
   subst hD
   rw [if_neg (by decide)]
   repeat refine stq rfl ?_
   refine qst rfl rfl (q_idxm rfl rfl rfl rfl rfl (by omega) hx rfl) ?_
   repeat refine stq rfl ?_
   refine qst rfl rfl (q_cs rfl e1 rfl rfl) ?_
   repeat refine stq rfl ?_
   exact endm rfl (by repeat' constructor) rfl (by repeat' constructor) rfl
  |true =>
   rw [hb,Bool.true_and] at hD
   rw [hb] at e1
   have e2 := pl_ret (ofQ (sumN (mvI l) i)) (ofQ (mvI l i)) (hx := Vq.ofQ (h := capS_hq hl hf hi)) (hy := Vq.ofQ (h := mvI_hq hl hf hlt)) (by omega) (by decide)
   rw [show sumN (mvI l) i + mvI l i = sumN (mvI l) (i + 1) from rfl] at e2
   generalize hS1 : ofQ (sumN (mvI l) (i + 1)) = S1 at *
   generalize ofQ (sumN (mvI l) i) = S0 at *
   generalize ofQ (mvI l i) = M0 at *
   repeat refine stq rfl ?_
   refine qst rfl rfl (q_idxm rfl rfl rfl rfl rfl (by omega) hx rfl) ?_
   repeat refine stq rfl ?_
   refine qst rfl rfl (q_cs rfl e1 rfl rfl) ?_
   repeat refine stq rfl ?_
   refine qst rfl rfl (q_cs rfl e2 rfl rfl) ?_
   repeat refine stq rfl ?_
   refine ⟨i + 1,⟨hlt,hD⟩,by omega,rfl,rfl,rfl,congrArg I hw,rfl,?_,trivial⟩
   show (_ : Nat × Option Cont) = (1,some (Cont.mk 26 4 [eR (ofQ (sumN (mvI l) (i + 1)))] 2))
   rw [hS1]
   rfl
 ·have hie : i = l.length := by have := of_decide_eq_false h;omega
  clear h
  rw [hie,List.drop_length] at hD
  have hD : true = Q := hD
  subst hD
  subst hie
  rw [if_pos rfl]
  repeat refine stq rfl ?_
  exact endm rfl (by repeat' constructor) rfl (by repeat' constructor) rfl
end Go.Pv


set_option maxHeartbeats 2000000
namespace Go.Pv
attribute [local irreducible] PWP POps PQuiet PSem XThen XBlock RetPost InlPost
open Go.Proofs
end Go.Pv


set_option maxHeartbeats 2000000
namespace Go.Pv
attribute [local irreducible] PWP POps PQuiet PSem XThen XBlock RetPost InlPost
open Go.Proofs
theorem brief_va {a : AR} (h : briefB a = true) : Va a a.z.val a.t.val 4 4 := by
 rw [briefB,Bool.and_eq_true,shR_sz,shR_sz] at h
 exact ⟨Vq.raw h.1.1 h.1.2,Vq.raw h.2.1 h.2.2⟩
end Go.Pv


set_option maxHeartbeats 2000000
namespace Go.Pv
attribute [local irreducible] PWP POps PQuiet PSem XThen XBlock RetPost InlPost
open Go.Proofs
end Go.Pv


set_option maxHeartbeats 2000000
namespace Go.Pv
attribute [local irreducible] PWP POps PQuiet PSem XThen XBlock RetPost InlPost
open Go.Proofs
theorem same_zero : Ret Tryz.prog .shared 32 [.agg (eR RR.zero),.agg zN] (.bool true) :=
 (sameR_ret RR.zero ⟨Nat.zero_le _,Nat.zero_le _⟩).weak (.cons (.rfl _) (.cons zN_weak.agg .nil)) (.rfl _)
end Go.Pv


set_option maxHeartbeats 2000000
namespace Go.Pv
attribute [local irreducible] PWP POps PQuiet PSem XThen XBlock RetPost InlPost
open Go.Proofs
theorem same_zz : Ret Tryz.prog .shared 32 [.agg zN,.agg zN] (.bool true) :=
 (sameR_ret RR.zero ⟨Nat.zero_le _,Nat.zero_le _⟩).weak (.cons zN_weak.agg (.cons zN_weak.agg .nil)) (.rfl _)
theorem le_9 {x : RR} {n : Nat} (h : x.le n) (hn : n ≤ 1000000000) : x.le 1000000000 := ⟨Nat.le_trans h.1 hn,Nat.le_trans h.2 hn⟩
theorem cap_le {l : List SR} (hl : LimL l) (hf : FewL l) : (capL l).1.le 1000000000 := by
 have h12 := hf.1
 rw [capL]
 split
 ·exact le_9 (hq_len (capS_hq hl hf (Nat.le_refl _)).ok) (by omega)
 ·exact ⟨Nat.zero_le _,Nat.zero_le _⟩
theorem kP_hq {l : List SR} (hl : LimL l) (hf : FewL l) (z t : Rat) : HQ (sumN (fun i => kI l z t i * xI l i * xI l i) l.length) 400 := by
 have h12 := hf.1
 refine (sumN_hq (m := 13 + 4 + 4) l.length fun k hk => ?_).mono (by omega)
 have := xI_zb hl hk
 exact @HQ.mul _ _ 17 4 (@HQ.mul _ _ 13 4 (kI_hq hl hk) HQ.int) HQ.int
theorem gI_hq {l : List SR} (hl : LimL l) (hf : FewL l) {z t : Rat} {n m : Nat} (hz : HQ z n) (ht : HQ t m) {i : Nat} (hi : i < l.length) : HQ (gI l z t i) (8 * (n + m + 60) + 8) := by
 have := xI_zb hl hi
 exact (@HQ.mul _ _ _ 4 (fI_hq hl hf hz ht hi) HQ.int).mono (by omega)
theorem fI_nn {l : List SR} (hc : checkL l = 0) (z t : Rat) {i : Nat} (hi : i < l.length) : 0 ≤ fI l z t i := val_nn (curve_crv (checkL_curve hc _ (getD_mem hi)))
set_option maxRecDepth 20000 in
theorem forces_law (l : List SR) (hlen : LenL l) (hd : DataL l) (a : AR) : Ret Tryz.prog .shared 11 [.sl (l.map eS),.agg (eA a)] (.bool true) := by
 have aw := awake_ret
 have h1 := shortL_ret l hlen 10 4 (by decide) (by decide)
 have h2 := brief_ret a
 have hs := shL_iff (l := l) (most := 10) (st := 4)
 by_cases x1 : shL l 10 4 = true
 rotate_left
 ·rw [Bool.not_eq_true] at x1
  rw [x1] at h1
  obtain ⟨az,at'⟩ := a
  refine Ret.of_pwp layOk mixed Go.Proofs.Tryz.func11 rfl (by decide) rfl rfl ?_
  repeat refine stq rfl ?_
  refine qst rfl rfl (q_cp rfl aw rfl rfl rfl) ?_
  repeat refine stq rfl ?_
  refine qst rfl rfl (q_cp rfl h1 rfl rfl rfl) ?_
  repeat refine stq rfl ?_
  exact end1b rfl rfl rfl
 rw [x1] at h1
 by_cases x2 : briefB a = true
 rotate_left
 ·rw [Bool.not_eq_true] at x2
  rw [x2] at h2
  obtain ⟨az,at'⟩ := a
  refine Ret.of_pwp layOk mixed Go.Proofs.Tryz.func11 rfl (by decide) rfl rfl ?_
  repeat refine stq rfl ?_
  refine qst rfl rfl (q_cp rfl aw rfl rfl rfl) ?_
  repeat refine stq rfl ?_
  refine qst rfl rfl (q_cp rfl h1 rfl rfl rfl) ?_
  repeat refine stq rfl ?_
  refine qst rfl rfl (q_cp rfl h2 rfl rfl rfl) ?_
  repeat refine stq rfl ?_
  exact end1b rfl rfl rfl
 rw [x2] at h2
 have hsh := hs.1 x1
 have hl := short_limL hd hsh (by decide) (by decide)
 have hfew := short_few hsh (by decide) (by decide)
 have c0 := rcheck_ret l hl
 by_cases x4 : checkL l = 0
 rotate_left
 ·have p1 := imms_err l hl x4 a
  have p2 := forces_err l hl x4 a
  have p3 := loaded_ret l [] (fun _ => 0) (N := 4) (checkL l) a p2 (fun i hi => absurd hi (by simp)) (fun i hi => absurd hi (by simp)) (by decide) (by decide)
  have p4 := total_err l hl x4 a
  have p5 := stiff_err l hl x4 a
  have p6 := cap_err l hl x4
  have p7 := centre_err l hl x4 a
  have sz := same_zz
  rw [show ((ldN (fun _ => 0) ([] : List RR).length).map eN) = [] from rfl] at p3
  clear hs hl hfew
  generalize checkL l = e at *
  obtain ⟨az,at'⟩ := a
  refine Ret.of_pwp layOk mixed Go.Proofs.Tryz.func11 rfl (by decide) rfl rfl ?_
  repeat refine stq rfl ?_
  refine qst rfl rfl (q_cp rfl aw rfl rfl rfl) ?_
  repeat refine stq rfl ?_
  refine qst rfl rfl (q_cp rfl h1 rfl rfl rfl) ?_
  repeat refine stq rfl ?_
  refine qst rfl rfl (q_cp rfl h2 rfl rfl rfl) ?_
  repeat refine stq rfl ?_
  refine qst rfl rfl (q_cs rfl p1 rfl rfl) ?_
  repeat refine stq rfl ?_
  refine qst rfl rfl (q_cs rfl p2 rfl rfl) ?_
  repeat refine stq rfl ?_
  refine qst rfl rfl (q_cs rfl p3 rfl rfl) ?_
  repeat refine stq rfl ?_
  refine qst rfl rfl (q_cs rfl p4 rfl rfl) ?_
  repeat refine stq rfl ?_
  refine qst rfl rfl (q_cs rfl p5 rfl rfl) ?_
  repeat refine stq rfl ?_
  refine qst rfl rfl (q_cs rfl p6 rfl rfl) ?_
  repeat refine stq rfl ?_
  refine qst rfl rfl (q_cs rfl p7 rfl rfl) ?_
  repeat refine stq rfl ?_
  refine qst rfl rfl (q_cp rfl c0 rfl rfl rfl) ?_
  repeat refine stq rfl ?_
  refine pw_cond rfl (fun h => ?_) (fun h => ?_)
  rotate_left
  ·exfalso
   simp at h
   exact x4 h
  clear h
  repeat refine stq rfl ?_
  (first|refine ps_split rfl rfl ?_ ?_|refine pq_split rfl rfl ?_ ?_|refine p3_split rfl rfl ?_ ?_)<;>intro h
  rotate_left
  ·simp at h
  clear h
  repeat refine stq rfl ?_
  (first|refine ps_split rfl rfl ?_ ?_|refine pq_split rfl rfl ?_ ?_|refine p3_split rfl rfl ?_ ?_)<;>intro h
  rotate_left
  ·simp at h
  clear h
  repeat refine stq rfl ?_
  (first|refine ps_split rfl rfl ?_ ?_|refine pq_split rfl rfl ?_ ?_|refine p3_split rfl rfl ?_ ?_)<;>intro h
  rotate_left
  ·simp at h
  clear h
  repeat refine stq rfl ?_
  (first|refine ps_split rfl rfl ?_ ?_|refine pq_split rfl rfl ?_ ?_|refine p3_split rfl rfl ?_ ?_)<;>intro h
  rotate_left
  ·simp at h
  clear h
  repeat refine stq rfl ?_
  (first|refine ps_split rfl rfl ?_ ?_|refine pq_split rfl rfl ?_ ?_|refine p3_split rfl rfl ?_ ?_)<;>intro h
  rotate_left
  ·simp at h
  clear h
  repeat refine stq rfl ?_
  (first|refine ps_split rfl rfl ?_ ?_|refine pq_split rfl rfl ?_ ?_|refine p3_split rfl rfl ?_ ?_)<;>intro h
  rotate_left
  ·simp at h
  clear h
  repeat refine stq rfl ?_
  (first|refine ps_split rfl rfl ?_ ?_|refine pq_split rfl rfl ?_ ?_|refine p3_split rfl rfl ?_ ?_)<;>intro h
  rotate_left
  ·simp at h
  clear h
  repeat refine stq rfl ?_
  refine qst rfl rfl (q_cp rfl sz rfl rfl rfl) ?_
  repeat refine stq rfl ?_
  refine qst rfl rfl (q_cp rfl sz rfl rfl rfl) ?_
  repeat refine stq rfl ?_
  refine qst rfl rfl (q_cp rfl sz rfl rfl rfl) ?_
  repeat refine stq rfl ?_
  refine qst rfl rfl (q_cp rfl sz rfl rfl rfl) ?_
  repeat refine stq rfl ?_
  exact end1b rfl rfl rfl
 rw [x4] at c0
 have va := brief_va x2
 have p1 := immersions_ret l hl x4 a (ha := va) (by decide)
 rw [show (l.map fun s => ofQ (yQ s a.z.val a.t.val)) = imL l a.z.val a.t.val from rfl] at p1
 have p2 := forces_ret l hl x4 a (ha := va) (by decide)
 have h12 := hsh.1
 have zq := va.z.hq
 have tq := va.t.hq
 have lF : (FL l a.z.val a.t.val).length = l.length := by rw [FL,List.length_map]
 have lY : (imL l a.z.val a.t.val).length = l.length := by rw [imL,List.length_map]
 have hfq : ∀ i,i < l.length → HQ (fI l a.z.val a.t.val i) 600 := fun i hi => (fI_hq hl hfew zq tq hi).mono (by decide)
 have hgq : ∀ i,i < l.length → HQ (gI l a.z.val a.t.val i) 600 := fun i hi => (gI_hq hl hfew zq tq hi).mono (by decide)
 have q2 := rforces_ret l hl x4 (by omega) a (ha := va) (by decide)
 have p3 := loaded_ret l (FL l a.z.val a.t.val) (fI l a.z.val a.t.val) (N := 600) 0 a p2 (fun i hi => FL_at (by omega)) (fun i hi => hfq i (by omega)) (by decide) (by omega)
 have q3 := rloaded_ret l (FL l a.z.val a.t.val) (fI l a.z.val a.t.val) (N := 600) a q2 (fun i hi => FL_at (by omega)) (fun i hi => hfq i (by omega)) (by decide) (by omega) (fun i hi => fI_nn x4 _ _ (by omega))
 have p4 := total51 l hl x4 hfew a (ha := va) (by decide)
 have p5 := stiff52 l hl x4 hfew a (ha := va) (by decide)
 have p6 := cap53 l hl x4 hfew
 have p7 := centre54 l hl x4 hfew a (ha := va) (by decide)
 have q1 := rimms_ret l hl (by omega) a (ha := va) (by decide) (by decide)
 have q4 := rtotal_ret l hl x4 hfew a (ha := va) (by decide)
 have q5 := rstiff_ret l hl hfew x4 a (ha := va) (by decide)
 have q6 := rcap57 l hl x4 hfew
 have s1 := sameRs_ret (imL l a.z.val a.t.val) (by omega) (fun x hx => by
  obtain ⟨s,hs,rfl⟩ := List.mem_map.1 hx
  exact le_9 (hq_len (yQ_hq (hl.1 s hs) zq tq).ok) (by decide))
 have s2 := sameRs_ret (FL l a.z.val a.t.val) (by omega) (fun x hx => le_9 (FL_le hl hfew zq tq x hx) (by decide))
 have s3 := ints_ret (ldN (fI l a.z.val a.t.val) (FL l a.z.val a.t.val).length) (by have := ldN_len (fI l a.z.val a.t.val) (FL l a.z.val a.t.val).length;omega)
 have s4 := same_ofQ (sumN_hq l.length fun k hk => hfq k hk) (by omega)
 have s5 := same_ofQ (sumN_hq l.length fun k hk => hgq k hk) (by omega)
 obtain ⟨k1,k2⟩ := kS_hq hl hfew a.z.val a.t.val
 have k3 := kP_hq hl hfew a.z.val a.t.val
 have s6 := same_ofQ k1 (by decide)
 have s7 := same_ofQ k2 (by decide)
 have s8 := same_ofQ k3 (by decide)
 have s9 := sameR_ret (capL l).1 (cap_le hl hfew)
 have sg := rsignR_ret (ofQ (sumN (kI l a.z.val a.t.val) l.length)) (hx := Vq.ofQ (h := k1)) (by decide)
 rw [kSum] at p5
 have sz := same_zero
 by_cases hz : sumN (kI l a.z.val a.t.val) l.length = 0
 ·rw [if_pos hz] at p7
  rw [(sgn_eq _).2 hz] at sg
  clear hfq hgq k1 k2 k3 hz x2
  generalize capL l = C at *
  obtain ⟨C1,C2⟩ := C
  generalize FL l a.z.val a.t.val = F at *
  generalize imL l a.z.val a.t.val = Y at *
  generalize ldN (fI l a.z.val a.t.val) F.length = L at *
  generalize ofQ (sumN (fI l a.z.val a.t.val) l.length) = T1 at *
  generalize ofQ (sumN (gI l a.z.val a.t.val) l.length) = T2 at *
  generalize ofQ (sumN (kI l a.z.val a.t.val) l.length) = K1 at *
  generalize ofQ (sumN (fun i => kI l a.z.val a.t.val i * xI l i) l.length) = K2 at *
  generalize ofQ (sumN (fun i => kI l a.z.val a.t.val i * xI l i * xI l i) l.length) = K3 at *
  clear va zq tq
  obtain ⟨az,at'⟩ := a
  simp only at *
  refine Ret.of_pwp layOk mixed Go.Proofs.Tryz.func11 rfl (by decide) rfl rfl ?_
  repeat refine stq rfl ?_
  refine qst rfl rfl (q_cp rfl aw rfl rfl rfl) ?_
  repeat refine stq rfl ?_
  refine qst rfl rfl (q_cp rfl h1 rfl rfl rfl) ?_
  repeat refine stq rfl ?_
  refine qst rfl rfl (q_cp rfl h2 rfl rfl rfl) ?_
  repeat refine stq rfl ?_
  refine qst rfl rfl (q_cs rfl p1 rfl rfl) ?_
  repeat refine stq rfl ?_
  refine qst rfl rfl (q_cs rfl p2 rfl rfl) ?_
  repeat refine stq rfl ?_
  refine qst rfl rfl (q_cs rfl p3 rfl rfl) ?_
  repeat refine stq rfl ?_
  refine qst rfl rfl (q_cs rfl p4 rfl rfl) ?_
  repeat refine stq rfl ?_
  refine qst rfl rfl (q_cs rfl p5 rfl rfl) ?_
  repeat refine stq rfl ?_
  refine qst rfl rfl (q_cs rfl p6 rfl rfl) ?_
  repeat refine stq rfl ?_
  refine qst rfl rfl (q_cs rfl p7 rfl rfl) ?_
  repeat refine stq rfl ?_
  refine qst rfl rfl (q_cp rfl c0 rfl rfl rfl) ?_
  repeat refine stq rfl ?_
  refine pw_draw2 6 2 [157,158,159,160,161,162,22,23] [] (by decide +kernel) rfl ?_
  repeat refine stq rfl ?_
  refine qst rfl rfl (q_cs rfl q4 rfl rfl) ?_
  repeat refine stq rfl ?_
  refine qst rfl rfl (q_cs rfl q5 rfl rfl) ?_
  repeat refine stq rfl ?_
  refine qst rfl rfl (q_cs rfl q6 rfl rfl) ?_
  repeat refine stq rfl ?_
  refine qst rfl rfl (q_cs rfl q1 rfl rfl) ?_
  repeat refine stq rfl ?_
  refine qst rfl rfl (q_cp rfl s1 rfl rfl rfl) ?_
  repeat refine stq rfl ?_
  refine qst rfl rfl (q_cs rfl q2 rfl rfl) ?_
  repeat refine stq rfl ?_
  refine qst rfl rfl (q_cp rfl s2 rfl rfl rfl) ?_
  repeat refine stq rfl ?_
  refine qst rfl rfl (q_cs rfl q3 rfl rfl) ?_
  repeat refine stq rfl ?_
  refine qst rfl rfl (q_cp rfl s3 rfl rfl rfl) ?_
  repeat refine stq rfl ?_
  refine qst rfl rfl (q_cp rfl s4 rfl rfl rfl) ?_
  repeat refine stq rfl ?_
  refine qst rfl rfl (q_cp rfl s5 rfl rfl rfl) ?_
  repeat refine stq rfl ?_
  refine qst rfl rfl (q_cp rfl s6 rfl rfl rfl) ?_
  repeat refine stq rfl ?_
  refine qst rfl rfl (q_cp rfl s7 rfl rfl rfl) ?_
  repeat refine stq rfl ?_
  refine qst rfl rfl (q_cp rfl s8 rfl rfl rfl) ?_
  repeat refine stq rfl ?_
  cases C2 <;>
  ·repeat refine stq rfl ?_
   refine qst rfl rfl (q_cp rfl s9 rfl rfl rfl) ?_
   repeat refine stq rfl ?_
   refine qst rfl rfl (q_cp rfl sg rfl rfl rfl) ?_
   repeat refine stq rfl ?_
   refine qst rfl rfl (q_cp rfl sz rfl rfl rfl) ?_
   repeat refine stq rfl ?_
   exact end1b rfl rfl rfl
 ·rw [if_neg hz] at p7
  have hne : sgn (sumN (kI l a.z.val a.t.val) l.length) ≠ 0 := fun h => hz ((sgn_eq _).1 h)
  have dq := @HQ.div _ _ _ _ k2 k1
  have q7 := rquoR_ret (ofQ (sumN (fun i => kI l a.z.val a.t.val i * xI l i) l.length)) (ofQ (sumN (kI l a.z.val a.t.val) l.length)) (hx := Vq.ofQ (h := k2)) (hy := Vq.ofQ (h := k1)) (by decide) (by decide) hz
  have s10 := same_ofQ dq (by decide)
  clear hfq hgq k1 k2 k3 hz x2 dq
  generalize sgn (sumN (kI l a.z.val a.t.val) l.length) = g at *
  generalize ofQ (sumN (fun i => kI l a.z.val a.t.val i * xI l i) l.length / sumN (kI l a.z.val a.t.val) l.length) = W at *
  generalize capL l = C at *
  obtain ⟨C1,C2⟩ := C
  generalize FL l a.z.val a.t.val = F at *
  generalize imL l a.z.val a.t.val = Y at *
  generalize ldN (fI l a.z.val a.t.val) F.length = L at *
  generalize ofQ (sumN (fI l a.z.val a.t.val) l.length) = T1 at *
  generalize ofQ (sumN (gI l a.z.val a.t.val) l.length) = T2 at *
  generalize ofQ (sumN (kI l a.z.val a.t.val) l.length) = K1 at *
  generalize ofQ (sumN (fun i => kI l a.z.val a.t.val i * xI l i) l.length) = K2 at *
  generalize ofQ (sumN (fun i => kI l a.z.val a.t.val i * xI l i * xI l i) l.length) = K3 at *
  clear va zq tq
  obtain ⟨az,at'⟩ := a
  simp only at *
  refine Ret.of_pwp layOk mixed Go.Proofs.Tryz.func11 rfl (by decide) rfl rfl ?_
  repeat refine stq rfl ?_
  refine qst rfl rfl (q_cp rfl aw rfl rfl rfl) ?_
  repeat refine stq rfl ?_
  refine qst rfl rfl (q_cp rfl h1 rfl rfl rfl) ?_
  repeat refine stq rfl ?_
  refine qst rfl rfl (q_cp rfl h2 rfl rfl rfl) ?_
  repeat refine stq rfl ?_
  refine qst rfl rfl (q_cs rfl p1 rfl rfl) ?_
  repeat refine stq rfl ?_
  refine qst rfl rfl (q_cs rfl p2 rfl rfl) ?_
  repeat refine stq rfl ?_
  refine qst rfl rfl (q_cs rfl p3 rfl rfl) ?_
  repeat refine stq rfl ?_
  refine qst rfl rfl (q_cs rfl p4 rfl rfl) ?_
  repeat refine stq rfl ?_
  refine qst rfl rfl (q_cs rfl p5 rfl rfl) ?_
  repeat refine stq rfl ?_
  refine qst rfl rfl (q_cs rfl p6 rfl rfl) ?_
  repeat refine stq rfl ?_
  refine qst rfl rfl (q_cs rfl p7 rfl rfl) ?_
  repeat refine stq rfl ?_
  refine qst rfl rfl (q_cp rfl c0 rfl rfl rfl) ?_
  repeat refine stq rfl ?_
  refine pw_draw2 6 2 [157,158,159,160,161,162,22,23] [] (by decide +kernel) rfl ?_
  repeat refine stq rfl ?_
  refine qst rfl rfl (q_cs rfl q4 rfl rfl) ?_
  repeat refine stq rfl ?_
  refine qst rfl rfl (q_cs rfl q5 rfl rfl) ?_
  repeat refine stq rfl ?_
  refine qst rfl rfl (q_cs rfl q6 rfl rfl) ?_
  repeat refine stq rfl ?_
  refine qst rfl rfl (q_cs rfl q1 rfl rfl) ?_
  repeat refine stq rfl ?_
  refine qst rfl rfl (q_cp rfl s1 rfl rfl rfl) ?_
  repeat refine stq rfl ?_
  refine qst rfl rfl (q_cs rfl q2 rfl rfl) ?_
  repeat refine stq rfl ?_
  refine qst rfl rfl (q_cp rfl s2 rfl rfl rfl) ?_
  repeat refine stq rfl ?_
  refine qst rfl rfl (q_cs rfl q3 rfl rfl) ?_
  repeat refine stq rfl ?_
  refine qst rfl rfl (q_cp rfl s3 rfl rfl rfl) ?_
  repeat refine stq rfl ?_
  refine qst rfl rfl (q_cp rfl s4 rfl rfl rfl) ?_
  repeat refine stq rfl ?_
  refine qst rfl rfl (q_cp rfl s5 rfl rfl rfl) ?_
  repeat refine stq rfl ?_
  refine qst rfl rfl (q_cp rfl s6 rfl rfl rfl) ?_
  repeat refine stq rfl ?_
  refine qst rfl rfl (q_cp rfl s7 rfl rfl rfl) ?_
  repeat refine stq rfl ?_
  refine qst rfl rfl (q_cp rfl s8 rfl rfl rfl) ?_
  repeat refine stq rfl ?_
  cases C2 <;>
  ·repeat refine stq rfl ?_
   refine qst rfl rfl (q_cp rfl s9 rfl rfl rfl) ?_
   repeat refine stq rfl ?_
   refine qst rfl rfl (q_cp rfl sg rfl rfl rfl) ?_
   repeat refine stq rfl ?_
   refine pw_cond rfl (fun h => ?_) (fun h => ?_)
   ·exfalso
    simp at h
    exact hne h
   clear h
   repeat refine stq rfl ?_
   refine pw_draw 12 [250,251,252,253,254,255,256,257,258,259,260,4] (by decide +kernel) ?_
   repeat refine stq rfl ?_
   refine qst rfl rfl (q_cs rfl q7 rfl rfl) ?_
   repeat refine stq rfl ?_
   refine qst rfl rfl (q_cp rfl s10 rfl rfl rfl) ?_
   repeat refine stq rfl ?_
   exact end1b rfl rfl rfl
end Go.Pv

