/- Texts of one hand, gathered: FsF, FsG, FsH, FtB, FsI, FtC, FsJ, FsK, FtD, FsL, FsM, FsN, FtE. -/
import Derived.Test.YtjejnoojnndnlaaGreatBa5
set_option linter.unusedSectionVars false
set_option linter.unusedSimpArgs false
set_option linter.unusedVariables false
set_option linter.unnecessarySimpa false
set_option maxHeartbeats 2000000
namespace Go.Pv
attribute [local irreducible] PWP POps PQuiet PSem XThen XBlock RetPost InlPost
open Go.Proofs
theorem pl_ret (x y : RR) {p q : Rat} {n m : Nat} [hx : Vq x p n] [hy : Vq y q m] (hn : n ≤ 20000000) (hm : m ≤ 20000000) : Ret Tryz.prog .shared 108 [.agg (eR x),.agg (eR y)] (.agg (eR (ofQ (p + q)))) := by
 have h := raddR_ret x y hn hm
 generalize ofQ (p + q) = X at *
 refine Ret.of_pwp layOk mixed Go.Proofs.Tryz.func108 rfl (by decide) rfl rfl ?_
 repeat refine stq rfl ?_
 refine qst rfl rfl (q_cs rfl h rfl rfl) ?_
 repeat refine stq rfl ?_
 exact endm rfl (by repeat' constructor) rfl (by repeat' constructor) rfl
theorem ti_ret (x y : RR) {p q : Rat} {n m : Nat} [hx : Vq x p n] [hy : Vq y q m] (hn : n ≤ 20000000) (hm : m ≤ 20000000) : Ret Tryz.prog .shared 111 [.agg (eR x),.agg (eR y)] (.agg (eR (ofQ (p * q)))) := by
 have h := rmulR_ret x y hn hm
 generalize ofQ (p * q) = X at *
 refine Ret.of_pwp layOk mixed Go.Proofs.Tryz.func111 rfl (by decide) rfl rfl ?_
 repeat refine stq rfl ?_
 refine qst rfl rfl (q_cs rfl h rfl rfl) ?_
 repeat refine stq rfl ?_
 exact endm rfl (by repeat' constructor) rfl (by repeat' constructor) rfl
theorem ls_ret (x y : RR) {p q : Rat} {n m : Nat} [hx : Vq x p n] [hy : Vq y q m] (hn : n ≤ 10000000) (hm : m ≤ 10000000) : Ret Tryz.prog .shared 112 [.agg (eR x),.agg (eR y)] (.agg (eR (ofQ (p - q)))) := by
 have h := rsubR_ret x y hn hm
 generalize ofQ (p - q) = X at *
 refine Ret.of_pwp layOk mixed Go.Proofs.Tryz.func112 rfl (by decide) rfl rfl ?_
 repeat refine stq rfl ?_
 refine qst rfl rfl (q_cs rfl h rfl rfl) ?_
 repeat refine stq rfl ?_
 exact endm rfl (by repeat' constructor) rfl (by repeat' constructor) rfl
theorem by_ret (x y : RR) {p q : Rat} {n m : Nat} [hx : Vq x p n] [hy : Vq y q m] (hn : n ≤ 20000000) (hm : m ≤ 20000000) (h0 : q ≠ 0) : Ret Tryz.prog .shared 138 [.agg (eR x),.agg (eR y)] (.agg (eR (ofQ (p / q)))) := by
 have h := rquoR_ret x y hn hm h0
 generalize ofQ (p / q) = X at *
 refine Ret.of_pwp layOk mixed Go.Proofs.Tryz.func138 rfl (by decide) rfl rfl ?_
 repeat refine stq rfl ?_
 refine qst rfl rfl (q_cs rfl h rfl rfl) ?_
 repeat refine stq rfl ?_
 exact endm rfl (by repeat' constructor) rfl (by repeat' constructor) rfl
theorem w0_ret : Ret Tryz.prog .shared 25 [I 0] (.agg (eR (ofQ 0))) := by
 have := bW_ret 0 ⟨by decide,by decide⟩
 rwa [show (((0 : Int) : Rat)) = 0 from rfl] at this
theorem sg_ret (x : RR) {p : Rat} {n : Nat} [hx : Vq x p n] (hn : n ≤ 8000000) : Ret Tryz.prog .shared 117 [.agg (eR x)] (I (sgn p)) := by
 have h0 := w0_ret
 have hc := rcmpR_ret x (ofQ 0) (by omega) (by decide)
 rw [Rat.sub_eq_add_neg,Rat.neg_zero,Rat.add_zero] at hc
 generalize sgn p = g at *
 generalize ofQ 0 = Z at *
 refine Ret.of_pwp layOk mixed Go.Proofs.Tryz.func117 rfl (by decide) rfl rfl ?_
 repeat refine stq rfl ?_
 refine pw_draw 4 [3,4,5,2] (by decide +kernel) ?_
 repeat refine stq rfl ?_
 refine qst rfl rfl (q_cs rfl h0 rfl rfl) ?_
 repeat refine stq rfl ?_
 refine qst rfl rfl (q_cp rfl hc rfl rfl rfl) ?_
 repeat refine stq rfl ?_
 exact end1i rfl rfl rfl
theorem rimm_ret (s : SR) (hs : s.Lim) (a : AR) {z t : Rat} {n m : Nat} [ha : Va a z t n m] (hn : n ≤ 1000000) (hm : m ≤ 1000000) : Ret Tryz.prog .shared 110 [.agg (eS s),.agg (eA a)] (.agg (eR (ofQ (yQ s z t)))) := by
 have hx : Zb s.x := zb_i64 hs.x.1 hs.x.2
 have hw := bW_ret s.x hs.x
 have e1 := pl_ret s.c a.z (hx := hs.c.v) (hy := ha.z) (by decide) (by omega)
 have v1 : Vq (ofQ (s.c.val + z)) (s.c.val + z) (13 + (n + 1) + 1) := Vq.ofQ (h := @HQ.add _ _ 13 (n + 1) hs.c.v.hq ha.z.hq)
 have e2 := ti_ret a.t (ofQ (s.x : Rat)) (hx := ha.t) (by omega) (by decide)
 have v2 : Vq (ofQ (t * (s.x : Rat))) (t * (s.x : Rat)) (m + 1 + 4) := Vq.ofQ (h := @HQ.mul _ _ (m + 1) 4 ha.t.hq HQ.int)
 have e3 := pl_ret (ofQ (s.c.val + z)) (ofQ (t * (s.x : Rat))) (hx := v1) (hy := v2) (by omega) (by omega)
 rw [show s.c.val + z + t * (s.x : Rat) = yQ s z t by rw [yQ];grind] at e3
 generalize ofQ (yQ s z t) = X at *
 generalize ofQ (s.c.val + z) = X1 at *
 generalize ofQ (t * (s.x : Rat)) = X2 at *
 generalize ofQ (s.x : Rat) = X3 at *
 obtain ⟨x,c,k⟩ := s
 obtain ⟨az,at'⟩ := a
 simp only at *
 refine Ret.of_pwp layOk mixed Go.Proofs.Tryz.func110 rfl (by decide) rfl rfl ?_
 repeat refine stq rfl ?_
 refine pw_draw 12 [5,6,7,8,9,10,11,12,13,14,15,16] (by decide +kernel) ?_
 repeat refine stq rfl ?_
 refine qst rfl rfl (q_cs rfl e1 rfl rfl) ?_
 repeat refine stq rfl ?_
 refine qst rfl rfl (q_cs rfl hw rfl rfl) ?_
 repeat refine stq rfl ?_
 refine qst rfl rfl (q_cs rfl e2 rfl rfl) ?_
 repeat refine stq rfl ?_
 refine qst rfl rfl (q_cs rfl e3 rfl rfl) ?_
 repeat refine stq rfl ?_
 exact endm rfl (by repeat' constructor) rfl (by repeat' constructor) rfl
theorem s_hq {c : CR} (hc : c.Lim) (k : Nat) : HQ (c.s k) 4 := by
 have h := sI_zb hc k
 have z1 : Zb (c.S.getD k 0) := zb_i64 h.1 h.2
 exact HQ.int
theorem top_hq {c : CR} (hc : c.Lim) {p : Rat} {n N : Nat} (hp : HQ p n) (k : Nat) : HQ (topQ c.s N p k) (n + 4) := by
 rw [topQ]
 split
 ·rw [minQ]
  split
  ·exact (s_hq hc (k + 1)).mono (by omega)
  ·exact hp.mono (by omega)
 ·exact hp.mono (by omega)
theorem d_hq {c : CR} (hc : c.Lim) {p : Rat} {n N : Nat} (hp : HQ p n) (k : Nat) : HQ (topQ c.s N p k - c.s k) (n + 9) := (@HQ.sub _ _ _ _ (top_hq hc hp k) (s_hq hc k)).mono (by omega)
theorem m_hq {c : CR} (hc : c.Lim) (k : Nat) : HQ (c.m k) 13 := by
 rw [CR.m]
 by_cases hk : k < c.M.length
 ·exact ((hc.m _ (List.mem_of_getElem? (get_some (d := RR.zero) hk))).v).hq
 ·rw [List.getD_eq_getElem?_getD,List.getElem?_eq_none (by omega)]
  show HQ RR.zero.val 13
  rw [RR.zero_val];exact HQ.zero.mono (by decide)
theorem pos_hq {x : Rat} {n : Nat} (h : HQ x n) : HQ (posQ x) (n + 4) := by
 rw [posQ];split
 ·exact h.mono (by omega)
 ·exact HQ.zero.mono (by omega)
theorem piece_hq {c : CR} (hc : c.Lim) {p : Rat} {n N : Nat} (hp : HQ p n) (k : Nat) : HQ (pieceQ c.s c.m N p k) (n + 30) := (@HQ.mul _ _ 13 (n + 9 + 4) (m_hq hc k) (pos_hq (d_hq hc hp k))).mono (by omega)
noncomputable def tpR (c : CR) (y : RR) (p : Rat) (N i : Nat) : RR := @ite _ (i + 1 < N ∧ c.s (i + 1) < p) (Classical.propDecidable _) (ofQ (c.s (i + 1))) y
theorem tpR_v {c : CR} (hc : c.Lim) {y : RR} {p : Rat} {N i n : Nat} [hy : Vq y p n] : Vq (tpR c y p N i) (topQ c.s N p i) (n + 8) := by
 rw [tpR,topQ]
 by_cases h1 : i + 1 < N
 ·rw [if_pos h1,minQ]
  by_cases h2 : c.s (i + 1) < p
  ·rw [if_pos ⟨h1,h2⟩,if_pos h2]
   exact vq_mono (Vq.ofQ (h := s_hq hc (i + 1))) (by omega)
  ·rw [if_neg (fun h => h2 h.2),if_neg h2]
   exact vq_mono hy (by omega)
 ·rw [if_neg (fun h => h1 h.1),if_neg h1]
  exact vq_mono hy (by omega)
set_option maxRecDepth 20000 in
theorem rforce_ret (c : CR) (hc : c.Lim) (h0 : curveE c = 0) (y : RR) {p : Rat} {n : Nat} [hy : Vq y p n] (hn : n ≤ 100000) : Ret Tryz.prog .shared 134 [.agg (eC c),.agg (eR y)] (.agg (eR (ofQ (valQ c.S.length c.s c.m p)))) := by
 obtain ⟨h40,hSM,-,hasc⟩ := curve_ok h0
 have w0 := w0_ret
 have hph := hy.hq
 rw [valQ,ramp_piece fun i hi => hasc i hi]
 have hSm : (c.S.map eN).length = c.S.length := by simp
 have hB : ∀ i,i ≤ 40 → i * (n + 1 + 30 + 1) + 4 ≤ 5000000 := fun i hi => by have := Nat.mul_le_mul hi (Nat.le_refl (n + 1 + 30 + 1));omega
 have vs : ∀ i,Vq (ofQ (sumN (pieceQ c.s c.m c.S.length p) i)) (sumN (pieceQ c.s c.m c.S.length p) i) (i * (n + 1 + 30 + 1) + 4) := fun i => Vq.ofQ (h := sumN_hq i fun k _ => piece_hq hc hph k)
 generalize hN : c.S.length = N at *
 refine Ret.of_pwp layOk mixed Go.Proofs.Tryz.func134 rfl (by decide) rfl rfl ?_
 repeat refine stq rfl ?_
 refine qst rfl rfl (q_cs rfl w0 rfl rfl) ?_
 repeat refine stq rfl ?_
 refine pw_loop (fun i : Nat => i ≤ N) (fun i => [(2,.ptr 2 1 0 0),(3,.ptr 3 1 0 0),(4,.ptr 4 1 0 0),(5,.ptr 5 1 0 0),(6,I (i : Nat))])
  (fun i => [(2,1,⟨120,2,[eC c],2⟩),(3,1,⟨26,4,[eR y],2⟩),(4,1,⟨26,4,[zN],2⟩),(5,1,⟨26,4,[eR (ofQ (sumN (pieceQ c.s c.m N p) i))],2⟩)]) (fun i => N - i) 0 (Nat.zero_le _) ⟨rfl,rfl,rfl,rfl,rfl,rfl,rfl,rfl,rfl,trivial⟩ ?_
 intro i s hi
 repeat refine stq rfl ?_
 refine pw_cond rfl (fun h => ?_) (fun h => ?_)
 ·have hlt : i < N := by have := of_decide_eq_true h;rw [hSm] at this;omega
  clear h
  have hx := get_some (l := c.S) (i := i) (d := 0) (by omega)
  have hmx := get_some (l := c.M) (i := i) (d := RR.zero) (by omega)
  have hxi := hc.s _ (List.mem_of_getElem? hx)
  have hmv := (hc.m _ (List.mem_of_getElem? hmx)).v
  have hw := bW_ret _ hxi
  have hnx : IntKind.i64.wrap (((i : Nat) : Int) + 1) = ((i + 1 : Nat) : Int) := by rw [wrap_i64 (by omega) (by omega)];omega
  (repeat ((fail_if_success (with_reducible refine pw_at 5 ?_));refine stx rfl ?_))
  iterate 6 refine stq rfl ?_
  refine pw_cut [(2,.ptr 2 1 0 0),(3,.ptr 3 1 0 0),(4,.ptr 4 1 0 0),(5,.ptr 5 1 0 0),(6,I (i : Nat)),(7,.ptr 7 ((s.own 7).1 + 1) 0 0)]
   [(2,1,⟨120,2,[eC c],2⟩),(3,1,⟨26,4,[eR y],2⟩),(4,1,⟨26,4,[zN],2⟩),(5,1,⟨26,4,[eR (ofQ (sumN (pieceQ c.s c.m N p) i))],2⟩),(7,(s.own 7).1 + 1,⟨26,4,[eR (tpR c y p N i)],2⟩)] ?_ (fun s3 => ?_)
  ·by_cases h1 : i + 1 < N
   ·have hx1 := get_some (l := c.S) (i := i + 1) (d := 0) (by omega)
    have hw1 := bW_ret _ (hc.s _ (List.mem_of_getElem? hx1))
    have zb1 : Zb (c.S.getD (i + 1) 0) := zb_i64 (hc.s _ (List.mem_of_getElem? hx1)).1 (hc.s _ (List.mem_of_getElem? hx1)).2
    have hc1 := rcmpR_ret y (ofQ ((c.S.getD (i + 1) 0 : Int) : Rat)) (by omega) (by decide)
    have hg := sgn_gt (p - ((c.S.getD (i + 1) 0 : Int) : Rat))
    have htp : tpR c y p N i = if 0 < sgn (p - ((c.S.getD (i + 1) 0 : Int) : Rat)) then ofQ ((c.S.getD (i + 1) 0 : Int) : Rat) else y := by
     rw [tpR]
     by_cases hlt1 : c.s (i + 1) < p
     ·rw [if_pos ⟨h1,hlt1⟩,if_pos (hg.2 (by have : ((c.S.getD (i + 1) 0 : Int) : Rat) < p := hlt1;grind))];rfl
     ·rw [if_neg (fun h => hlt1 h.2),if_neg (fun h => hlt1 (by have := hg.1 h;show ((c.S.getD (i + 1) 0 : Int) : Rat) < p;grind))]
    rw [htp]
    clear hg htp
    generalize sgn (p - ((c.S.getD (i + 1) 0 : Int) : Rat)) = sg at *
    generalize hW1 : ofQ ((c.S.getD (i + 1) 0 : Int) : Rat) = W1 at *
    generalize c.S.getD (i + 1) 0 = x1 at *
    repeat refine stq rfl ?_
    refine pw_draw 18 [18,19,20,21,22,23,24,25,26,27,28,29,30,31,32,33,34,35] (by decide +kernel) ?_
    repeat refine stq rfl ?_
    rw [hnx]
    repeat refine stq rfl ?_
    (first|refine ps_split rfl rfl ?_ ?_|refine pq_split rfl rfl ?_ ?_|refine p3_split rfl rfl ?_ ?_)<;>intro h
    ·clear h
     repeat refine stq rfl ?_
     rw [hnx]
     refine qst rfl rfl (q_idxm rfl rfl rfl rfl rfl (by omega) hx1 rfl) ?_
     repeat refine stq rfl ?_
     refine qst rfl rfl (q_cs rfl hw1 rfl rfl) ?_
     repeat refine stq rfl ?_
     refine qst rfl rfl (q_cp rfl hc1 rfl rfl rfl) ?_
     repeat refine stq rfl ?_
     refine pw_cond rfl (fun h => ?_) (fun h => ?_)
     ·rw [if_pos (of_decide_eq_true h)]
      clear h
      repeat refine stq rfl ?_
      rw [hnx]
      refine qst rfl rfl (q_idxm rfl rfl rfl rfl rfl (by omega) hx1 rfl) ?_
      repeat refine stq rfl ?_
      refine qst rfl rfl (q_cs rfl hw1 rfl rfl) ?_
      repeat refine stq rfl ?_
      exact ⟨rfl,rfl,rfl,rfl,rfl,rfl,rfl,rfl,rfl,rfl,rfl,trivial⟩
     ·rw [if_neg (of_decide_eq_false h)]
      clear h
      repeat refine stq rfl ?_
      exact ⟨rfl,rfl,rfl,rfl,rfl,rfl,rfl,rfl,rfl,rfl,rfl,trivial⟩
    ·exfalso
     have := of_decide_eq_false h
     rw [hSm] at this
     omega
   ·have htp : tpR c y p N i = y := by rw [tpR,if_neg (fun h => h1 h.1)]
    rw [htp]
    clear htp
    repeat refine stq rfl ?_
    refine pw_draw 18 [18,19,20,21,22,23,24,25,26,27,28,29,30,31,32,33,34,35] (by decide +kernel) ?_
    repeat refine stq rfl ?_
    rw [hnx]
    repeat refine stq rfl ?_
    (first|refine ps_split rfl rfl ?_ ?_|refine pq_split rfl rfl ?_ ?_|refine p3_split rfl rfl ?_ ?_)<;>intro h
    ·exfalso
     have := of_decide_eq_true h
     rw [hSm] at this
     omega
    ·clear h
     repeat refine stq rfl ?_
     exact ⟨rfl,rfl,rfl,rfl,rfl,rfl,rfl,rfl,rfl,rfl,rfl,trivial⟩
  have vT : Vq (tpR c y p N i) (topQ c.s N p i) (n + 8) := tpR_v hc
  have zbi : Zb (c.S.getD i 0) := zb_i64 hxi.1 hxi.2
  have e1 := ls_ret (tpR c y p N i) (ofQ ((c.S.getD i 0 : Int) : Rat)) (hx := vT) (by omega) (by decide)
  rw [show topQ c.s N p i - ((c.S.getD i 0 : Int) : Rat) = topQ c.s N p i - c.s i from rfl] at e1
  have vD : Vq (ofQ (topQ c.s N p i - c.s i)) (topQ c.s N p i - c.s i) (n + 1 + 9) := Vq.ofQ (h := d_hq hc hph i)
  have e2 := sg_ret (ofQ (topQ c.s N p i - c.s i)) (hx := vD) (by omega)
  have e3 := ti_ret (c.M.getD i RR.zero) (ofQ (topQ c.s N p i - c.s i)) (hx := hmv) (hy := vD) (by decide) (by omega)
  have hg := sgn_gt (topQ c.s N p i - c.s i)
  have hP : pieceQ c.s c.m N p i = (c.M.getD i RR.zero).val * posQ (topQ c.s N p i - c.s i) := rfl
  have hS : sumN (pieceQ c.s c.m N p) (i + 1) = sumN (pieceQ c.s c.m N p) i + pieceQ c.s c.m N p i := rfl
  by_cases hd : 0 < topQ c.s N p i - c.s i
  ·rw [posQ,if_pos hd] at hP
   rw [← hP] at e3
   have vP : Vq (ofQ (pieceQ c.s c.m N p i)) (pieceQ c.s c.m N p i) (n + 1 + 30) := Vq.ofQ (h := piece_hq hc hph i)
   have e4 := pl_ret (ofQ (sumN (pieceQ c.s c.m N p) i)) (ofQ (pieceQ c.s c.m N p i)) (hx := vs i) (hy := vP) (by have := hB i (by omega);omega) (by omega)
   rw [← hS] at e4
   have hgt := hg.2 hd
   generalize hSN : ofQ (sumN (pieceQ c.s c.m N p) (i + 1)) = S1 at *
   generalize ofQ (sumN (pieceQ c.s c.m N p) i) = S0 at *
   generalize ofQ (pieceQ c.s c.m N p i) = P0 at *
   generalize sgn (topQ c.s N p i - c.s i) = sg at *
   generalize ofQ (topQ c.s N p i - c.s i) = D0 at *
   generalize tpR c y p N i = T0 at *
   generalize ofQ ((c.S.getD i 0 : Int) : Rat) = W0 at *
   generalize c.S.getD i 0 = x0 at *
   generalize c.M.getD i RR.zero = m0 at *
   refine pw_seq ?_
   refine pw_ghost (gdrop 8) ?_
   refine pw_draw2 8 1 [43,44,45,46,47,48,49,50,8] [] (by decide +kernel) rfl ?_
   repeat refine stq rfl ?_
   refine qst rfl rfl (q_idxm rfl rfl rfl rfl rfl (by omega) hx rfl) ?_
   repeat refine stq rfl ?_
   refine qst rfl rfl (q_cs rfl hw rfl rfl) ?_
   repeat refine stq rfl ?_
   refine qst rfl rfl (q_cs rfl e1 rfl rfl) ?_
   repeat refine stq rfl ?_
   refine qst rfl rfl (q_cp rfl e2 rfl rfl rfl) ?_
   repeat refine stq rfl ?_
   refine pw_cond rfl (fun h => ?_) (fun h => ?_)
   ·clear h
    repeat refine stq rfl ?_
    refine pw_draw 9 [54,55,56,57,58,59,60,61,62] (by decide +kernel) ?_
    repeat refine stq rfl ?_
    refine qst rfl rfl (q_idxm rfl rfl rfl rfl rfl (by omega) hmx rfl) ?_
    repeat refine stq rfl ?_
    refine qst rfl rfl (q_cs rfl e3 rfl rfl) ?_
    repeat refine stq rfl ?_
    refine qst rfl rfl (q_cs rfl e4 rfl rfl) ?_
    repeat refine stq rfl ?_
    refine ⟨i + 1,hlt,by omega,rfl,rfl,rfl,rfl,congrArg I hnx,rfl,rfl,rfl,?_,trivial⟩
    show (_ : Nat × Option Cont) = (1,some (Cont.mk 26 4 [eR (ofQ (sumN (pieceQ c.s c.m N p) (i + 1)))] 2))
    rw [hSN]
    rfl
   ·exact absurd hgt (of_decide_eq_false h)
  ·rw [posQ,if_neg hd,Rat.mul_zero] at hP
   rw [hP,Rat.add_zero] at hS
   have hgt : ¬ 0 < sgn (topQ c.s N p i - c.s i) := fun h => hd (hg.1 h)
   rw [← hS]
   generalize hSN : ofQ (sumN (pieceQ c.s c.m N p) (i + 1)) = S0 at *
   generalize sgn (topQ c.s N p i - c.s i) = sg at *
   generalize ofQ (topQ c.s N p i - c.s i) = D0 at *
   generalize tpR c y p N i = T0 at *
   generalize ofQ ((c.S.getD i 0 : Int) : Rat) = W0 at *
   generalize c.S.getD i 0 = x0 at *
   refine pw_seq ?_
   refine pw_ghost (gdrop 8) ?_
   refine pw_draw2 8 1 [43,44,45,46,47,48,49,50,8] [] (by decide +kernel) rfl ?_
   repeat refine stq rfl ?_
   refine qst rfl rfl (q_idxm rfl rfl rfl rfl rfl (by omega) hx rfl) ?_
   repeat refine stq rfl ?_
   refine qst rfl rfl (q_cs rfl hw rfl rfl) ?_
   repeat refine stq rfl ?_
   refine qst rfl rfl (q_cs rfl e1 rfl rfl) ?_
   repeat refine stq rfl ?_
   refine qst rfl rfl (q_cp rfl e2 rfl rfl rfl) ?_
   repeat refine stq rfl ?_
   refine pw_cond rfl (fun h => ?_) (fun h => ?_)
   ·exact absurd (of_decide_eq_true h) hgt
   ·clear h
    repeat refine stq rfl ?_
    refine ⟨i + 1,hlt,by omega,rfl,rfl,rfl,rfl,congrArg I hnx,rfl,rfl,rfl,?_,trivial⟩
    show (_ : Nat × Option Cont) = (1,some (Cont.mk 26 4 [eR (ofQ (sumN (pieceQ c.s c.m N p) (i + 1)))] 2))
    rw [hSN]
    rfl
 ·have hie : i = N := by have := of_decide_eq_false h;rw [hSm] at this;omega
  clear h
  subst hie
  repeat refine stq rfl ?_
  exact endm rfl (by repeat' constructor) rfl (by repeat' constructor) rfl
end Go.Pv


set_option maxHeartbeats 2000000
namespace Go.Pv
attribute [local irreducible] PWP POps PQuiet PSem XThen XBlock RetPost InlPost
open Go.Proofs
set_option maxRecDepth 20000 in
theorem rright_ret (c : CR) (hc : c.Lim) (h0 : curveE c = 0) (y : RR) {p : Rat} {n : Nat} [hy : Vq y p n] (hn : n ≤ 1000000) : Ret Tryz.prog .shared 133 [.agg (eC c),.agg (eR y)] (.agg (eR (ofQ (befQ c.m (prI c.s p c.S.length))))) := by
 obtain ⟨h40,hSM,-,hasc⟩ := curve_ok h0
 have w0 := w0_ret
 have hSm : (c.S.map eN).length = c.S.length := by simp
 generalize hN : c.S.length = N at *
 refine Ret.of_pwp layOk mixed Go.Proofs.Tryz.func133 rfl (by decide) rfl rfl ?_
 repeat refine stq rfl ?_
 refine qst rfl rfl (q_cs rfl w0 rfl rfl) ?_
 repeat refine stq rfl ?_
 refine pw_loop (fun i : Nat => i ≤ N) (fun i => [(2,.ptr 2 1 0 0),(3,.ptr 3 1 0 0),(4,.ptr 4 1 0 0),(5,.ptr 5 1 0 0),(6,I (i : Nat))])
  (fun i => [(2,1,⟨120,2,[eC c],2⟩),(3,1,⟨26,4,[eR y],2⟩),(4,1,⟨26,4,[zN],2⟩),(5,1,⟨26,4,[eR (ofQ (befQ c.m (prI c.s p i)))],2⟩)]) (fun i => N - i) 0 (Nat.zero_le _) ⟨rfl,rfl,rfl,rfl,rfl,rfl,rfl,rfl,rfl,trivial⟩ ?_
 intro i s hi
 repeat refine stq rfl ?_
 refine pw_cond rfl (fun h => ?_) (fun h => ?_)
 ·have hlt : i < N := by have := of_decide_eq_true h;rw [hSm] at this;omega
  clear h
  have hx := get_some (l := c.S) (i := i) (d := 0) (by omega)
  have hmx := get_some (l := c.M) (i := i) (d := RR.zero) (by omega)
  have hxi := hc.s _ (List.mem_of_getElem? hx)
  have hmv := (hc.m _ (List.mem_of_getElem? hmx)).v
  have hw := bW_ret _ hxi
  have zbi : Zb (c.S.getD i 0) := zb_i64 hxi.1 hxi.2
  have hc1 := rcmpR_ret y (ofQ ((c.S.getD i 0 : Int) : Rat)) (by omega) (by decide)
  have hg := sgn_ge (p - ((c.S.getD i 0 : Int) : Rat))
  have e4 := pl_ret (c.M.getD i RR.zero) (ofQ 0) (hx := hmv) (by decide) (by decide)
  rw [Rat.add_zero] at e4
  have hnx : IntKind.i64.wrap (((i : Nat) : Int) + 1) = ((i + 1 : Nat) : Int) := by rw [wrap_i64 (by omega) (by omega)];omega
  have hpr : ofQ (befQ c.m (prI c.s p (i + 1))) = if 0 ≤ sgn (p - ((c.S.getD i 0 : Int) : Rat)) then ofQ (c.M.getD i RR.zero).val else ofQ (befQ c.m (prI c.s p i)) := by
   rw [prI]
   by_cases hle : c.s i ≤ p
   ·rw [if_pos hle,if_pos (hg.2 (by have : ((c.S.getD i 0 : Int) : Rat) ≤ p := hle;grind)),befQ];rfl
   ·rw [if_neg hle,if_neg (fun h => hle (by have := hg.1 h;show ((c.S.getD i 0 : Int) : Rat) ≤ p;grind))]
  generalize hSN : ofQ (befQ c.m (prI c.s p (i + 1))) = S1 at *
  generalize ofQ (befQ c.m (prI c.s p i)) = S0 at *
  generalize ofQ (c.M.getD i RR.zero).val = M1 at *
  generalize sgn (p - ((c.S.getD i 0 : Int) : Rat)) = sg at *
  generalize ofQ ((c.S.getD i 0 : Int) : Rat) = W0 at *
  generalize c.S.getD i 0 = x0 at *
  generalize c.M.getD i RR.zero = m0 at *
  repeat refine stq rfl ?_
  refine pw_draw 9 [15,16,17,18,19,20,21,22,23] (by decide +kernel) ?_
  repeat refine stq rfl ?_
  refine qst rfl rfl (q_idxm rfl rfl rfl rfl rfl (by omega) hx rfl) ?_
  repeat refine stq rfl ?_
  refine qst rfl rfl (q_cs rfl hw rfl rfl) ?_
  repeat refine stq rfl ?_
  refine qst rfl rfl (q_cp rfl hc1 rfl rfl rfl) ?_
  repeat refine stq rfl ?_
  refine pw_cond rfl (fun h => ?_) (fun h => ?_)
  ·have h1 := of_decide_eq_true h
   clear h
   rw [if_pos h1] at hpr
   repeat refine stq rfl ?_
   refine pw_draw 7 [24,25,26,27,28,29,30] (by decide +kernel) ?_
   repeat refine stq rfl ?_
   refine qst rfl rfl (q_idxm rfl rfl rfl rfl rfl (by omega) hmx rfl) ?_
   repeat refine stq rfl ?_
   refine qst rfl rfl (q_cs rfl w0 rfl rfl) ?_
   repeat refine stq rfl ?_
   refine qst rfl rfl (q_cs rfl e4 rfl rfl) ?_
   repeat refine stq rfl ?_
   refine ⟨i + 1,hlt,by omega,rfl,rfl,rfl,rfl,congrArg I hnx,rfl,rfl,rfl,?_,trivial⟩
   show (_ : Nat × Option Cont) = (1,some (Cont.mk 26 4 [eR (ofQ (befQ c.m (prI c.s p (i + 1))))] 2))
   rw [hSN,hpr]
   rfl
  ·have h1 := of_decide_eq_false h
   clear h
   rw [if_neg h1] at hpr
   repeat refine stq rfl ?_
   refine ⟨i + 1,hlt,by omega,rfl,rfl,rfl,rfl,congrArg I hnx,rfl,rfl,rfl,?_,trivial⟩
   show (_ : Nat × Option Cont) = (1,some (Cont.mk 26 4 [eR (ofQ (befQ c.m (prI c.s p (i + 1))))] 2))
   rw [hSN,hpr]
   rfl
 ·have hie : i = N := by have := of_decide_eq_false h;rw [hSm] at this;omega
  clear h
  subst hie
  repeat refine stq rfl ?_
  exact endm rfl (by repeat' constructor) rfl (by repeat' constructor) rfl
set_option maxRecDepth 20000 in
theorem rforces_ret (l : List SR) (hl : LimL l) (hck : checkL l = 0) (h12 : l.length ≤ 1000) (a : AR) {z t : Rat} {n m : Nat} [ha : Va a z t n m] (hn : n + m ≤ 90000) : Ret Tryz.prog .shared 59 [.sl (l.map eS),.agg (eA a)] (.sl ((FL l z t).map eR)) := by
 have hml : (l.map eS).length = l.length := by simp
 have hrows : ∀ (k : Nat) x,l[k]? = some x → (FL (l.take (k + 1)) z t).map eR = (FL (l.take k) z t).map eR ++ [eR (ofQ (fQ x z t))] := fun k x hx => by rw [FL,FL,take_snocU hx,List.map_append,List.map_append];rfl
 have him := fun x hx => rimm_ret x (hl.1 x hx) a (z := z) (t := t) (by omega) (by omega)
 have hfo : ∀ x,x ∈ l → Ret Tryz.prog .shared 134 [.agg (eC x.k),.agg (eR (ofQ (yQ x z t)))] (.agg (eR (ofQ (fQ x z t)))) := fun x hx => by
  have v1 : Vq (ofQ (yQ x z t)) (yQ x z t) (13 + (n + 1 + (m + 1 + 4) + 1) + 1) := Vq.ofQ (h := yQ_hq (hl.1 x hx) ha.z.hq ha.t.hq)
  exact rforce_ret x.k (hl.1 x hx).k (checkL_curve hck x hx) (ofQ (yQ x z t)) (hy := v1) (by omega)
 obtain ⟨az,at'⟩ := a
 refine Ret.of_pwp layOk mixed Go.Proofs.Tryz.func59 rfl (by decide) rfl rfl ?_
 (repeat ((fail_if_success (with_reducible refine pw_at 1 ?_));refine stx rfl ?_))
 ((repeat (first | refine ps_nil ?_ | refine pq_nil ?_ | refine x_norm ?_ | refine pw_seq ?_));refine pw_region ?_)
 (first | refine ps_run (o_nilm 26 4 1 rfl rfl ?_) | refine ps_run (o_nila 26 4 1 rfl rfl ?_))
 repeat refine stq rfl ?_
 refine pw_loop (fun k => k ≤ l.length) (fun k => [(0,.sl (l.map eS)),(3,.ptr 3 1 0 0),(5,.als 5 (k + 1) 0 ((FL (l.take k) z t).map eR).length),(6,I (k : Nat))]) (fun k => [(3,1,⟨40,8,[eA ⟨az,at'⟩],2⟩),(5,k + 1,⟨26,4,(FL (l.take k) z t).map eR,1⟩)]) (fun k => l.length - k) 0 (Nat.zero_le _) ⟨rfl,rfl,rfl,rfl,rfl,rfl,trivial⟩ ?_
 intro k s hk
 repeat refine stq rfl ?_
 refine pw_cond rfl (fun h => ?_) (fun h => ?_)
 ·have hlt : k < l.length := by have := of_decide_eq_true h;omega
  clear h
  obtain ⟨x,hx⟩ := get_lt hlt
  have e := him x (List.mem_of_getElem? hx)
  have e2 := hfo x (List.mem_of_getElem? hx)
  have hw : IntKind.i64.wrap (((k : Nat) : Int) + 1) = ((k + 1 : Nat) : Int) := by rw [wrap_i64 (by omega) (by omega)];omega
  have hil : (FL (l.take k) z t).length ≤ 1000 := by rw [FL,List.length_map,List.length_take];omega
  have hr := hrows k x hx
  generalize ofQ (yQ x z t) = Y at *
  generalize ofQ (fQ x z t) = F at *
  generalize FL (l.take k) z t = A at *
  obtain ⟨xx,xc,xk⟩ := x
  simp only at *
  repeat refine stq rfl ?_
  refine pw_draw3 [26,5] [13,14,15] (by decide +kernel) ?_
  repeat refine stq rfl ?_
  refine qst rfl rfl (q_idxm rfl rfl rfl rfl rfl (by omega) hx rfl) ?_
  repeat refine stq rfl ?_
  refine qst rfl rfl (q_idxm rfl rfl rfl rfl rfl (by omega) hx rfl) ?_
  repeat refine stq rfl ?_
  refine qst rfl rfl (q_cs rfl e rfl rfl) ?_
  repeat refine stq rfl ?_
  refine qst rfl rfl (q_cs rfl e2 rfl rfl) ?_
  repeat refine stq rfl ?_
  refine z3e rfl rfl rfl (o_slit 1 rfl rfl rfl rfl rfl rfl rfl rfl rfl rfl rfl (by repeat' constructor) rfl ⟨offz rfl,?_⟩)
  repeat refine stq rfl ?_
  refine z3e rfl rfl rfl (o_app 1 rfl rfl rfl rfl rfl rfl rfl rfl rfl rfl rfl (by repeat' constructor) (by intro row hr;first | (simp at hr;subst hr;rfl) | (simp at hr;obtain ⟨_,_,rfl⟩ := hr;rfl) | simp at hr) rfl rfl (by simp;omega) (by simp;omega) ⟨offz rfl,?_⟩)
  repeat refine stq rfl ?_
  refine ⟨k + 1,hlt,by omega,rfl,rfl,?_,congrArg I hw,rfl,?_,trivial⟩
  ·rw [hr];rfl
  ·rw [hr];rfl
 ·have hge : k = l.length := by have := of_decide_eq_false h;omega
  subst hge
  clear h
  rw [List.take_length]
  repeat refine stq rfl ?_
  exact end1 rfl rfl rfl ⟨rfl,rfl,rfl⟩ rfl
def yI (l : List SR) (z t : Rat) (i : Nat) : Rat := yQ (l.getD i dS) z t
end Go.Pv


set_option maxHeartbeats 2000000
namespace Go.Pv
attribute [local irreducible] PWP POps PQuiet PSem XThen XBlock RetPost InlPost
open Go.Proofs
set_option maxRecDepth 20000 in
theorem rsum_ret (l : List SR) (hl : LimL l) (h12 : l.length ≤ 12) (Fl : List RR) (f : Nat → Rat) {N : Nat} (hf : ∀ i,i < l.length → Fl[i]? = some (ofQ (f i))) (hH : ∀ i,i < l.length → HQ (f i) N) (hN : N ≤ 800500) :
  Ret Tryz.prog .shared 63 [.sl (l.map eS),.sl (Fl.map eR)] (.agg (eR (ofQ (sumN f l.length)) ++ eR (ofQ (sumN (fun i => f i * xI l i) l.length)))) := by
 have w0 := w0_ret
 have hml : (l.map eS).length = l.length := by simp
 have hGH : ∀ i,i < l.length → HQ (f i * xI l i) (N + 4) := fun i hi => by
  have hx := (hl.1 _ (getD_mem hi)).x
  have hx : Zb (l.getD i dS).x := zb_i64 hx.1 hx.2
  exact @HQ.mul _ _ _ 4 (hH i hi) HQ.int
 have hB : ∀ i,i ≤ l.length → i * (N + 4 + 1) + 4 ≤ 12000000 := fun i hi => by
  have := Nat.mul_le_mul (show i ≤ 12 by omega) (show N + 4 + 1 ≤ 800505 by omega)
  omega
 generalize hg : (fun i => f i * xI l i) = g at *
 refine Ret.of_pwp layOk mixed Go.Proofs.Tryz.func63 rfl (by decide) rfl rfl ?_
 repeat refine stq rfl ?_
 refine qst rfl rfl (q_cs rfl w0 rfl rfl) ?_
 repeat refine stq rfl ?_
 refine qst rfl rfl (q_cs rfl w0 rfl rfl) ?_
 repeat refine stq rfl ?_
 refine pw_loop (fun i : Nat => i ≤ l.length) (fun i => [(0,.sl (l.map eS)),(1,.sl (Fl.map eR)),(4,.ptr 4 1 0 0),(5,.ptr 5 1 0 0),(6,I (i : Nat))])
  (fun i => [(4,1,⟨90,8,[zN ++ zN],2⟩),(5,1,⟨90,8,[eR (ofQ (sumN f i)) ++ eR (ofQ (sumN g i))],2⟩)]) (fun i => l.length - i) 0 (Nat.zero_le _) ⟨rfl,rfl,rfl,rfl,rfl,rfl,rfl,trivial⟩ ?_
 intro i s hi
 repeat refine stq rfl ?_
 refine pw_cond rfl (fun h => ?_) (fun h => ?_)
 ·have hlt : i < l.length := by have := of_decide_eq_true h;omega
  clear h
  have hx := get_some (d := dS) hlt
  have hFi := hf i hlt
  have hxx := (hl.1 _ (getD_mem hlt)).x
  have hzb : Zb (l.getD i dS).x := zb_i64 hxx.1 hxx.2
  have hw : IntKind.i64.wrap (((i : Nat) : Int) + 1) = ((i + 1 : Nat) : Int) := by rw [wrap_i64 (by omega) (by omega)];omega
  have hBi := hB i hi
  have hgi : f i * ((l.getD i dS).x : Rat) = g i := by rw [← hg];rfl
  have v0 : Vq (ofQ (f i)) (f i) N := Vq.ofQ (h := hH i hlt)
  have vg : Vq (ofQ (g i)) (g i) (N + 4) := Vq.ofQ (h := by rw [← hg];exact hGH i hlt)
  have v1 : Vq (ofQ (sumN f i)) (sumN f i) (i * (N + 1) + 4) := Vq.ofQ (h := sumN_hq i fun k hk => hH k (by omega))
  have v2 : Vq (ofQ (sumN g i)) (sumN g i) (i * (N + 4 + 1) + 4) := Vq.ofQ (h := sumN_hq i fun k hk => by rw [← hg];exact hGH k (by omega))
  have h1 := pl_ret (ofQ (sumN f i)) (ofQ (f i)) (hx := v1) (hy := v0) (by have := Nat.mul_le_mul (Nat.le_refl i) (show N + 1 ≤ N + 4 + 1 by omega);omega) (by omega)
  have h2 := bW_ret (l.getD i dS).x hxx
  have h3 := ti_ret (ofQ (f i)) (ofQ ((l.getD i dS).x : Rat)) (hx := v0) (by omega) (by decide)
  rw [hgi] at h3
  have h4 := pl_ret (ofQ (sumN g i)) (ofQ (g i)) (hx := v2) (hy := vg) (by omega) (by omega)
  rw [show sumN f i + f i = sumN f (i + 1) from rfl] at h1
  rw [show sumN g i + g i = sumN g (i + 1) from rfl] at h4
  generalize hF1 : ofQ (sumN f (i + 1)) = F1 at *
  generalize hG1 : ofQ (sumN g (i + 1)) = G1 at *
  generalize ofQ (sumN f i) = F0 at *
  generalize ofQ (sumN g i) = G0 at *
  generalize ofQ (f i) = f0 at *
  generalize ofQ (g i) = g0 at *
  repeat refine stq rfl ?_
  refine pw_draw 8 [16,17,18,19,20,21,22,23] (by decide +kernel) ?_
  repeat refine stq rfl ?_
  refine qst rfl rfl (q_idxm rfl rfl rfl rfl rfl (by omega) hFi rfl) ?_
  repeat refine stq rfl ?_
  refine qst rfl rfl (q_cs rfl h1 rfl rfl) ?_
  repeat refine stq rfl ?_
  refine pw_draw 15 [24,25,26,27,28,29,30,31,32,33,34,35,36,37,38] (by decide +kernel) ?_
  repeat refine stq rfl ?_
  refine qst rfl rfl (q_idxm rfl rfl rfl rfl rfl (by omega) hFi rfl) ?_
  repeat refine stq rfl ?_
  refine qst rfl rfl (q_idxm rfl rfl rfl rfl rfl (by omega) hx rfl) ?_
  repeat refine stq rfl ?_
  refine qst rfl rfl (q_cs rfl h2 rfl rfl) ?_
  repeat refine stq rfl ?_
  refine qst rfl rfl (q_cs rfl h3 rfl rfl) ?_
  repeat refine stq rfl ?_
  refine qst rfl rfl (q_cs rfl h4 rfl rfl) ?_
  repeat refine stq rfl ?_
  refine ⟨i + 1,hlt,by omega,rfl,rfl,rfl,rfl,congrArg I hw,rfl,?_,trivial⟩
  show (_ : Nat × Option Cont) = (1,some (Cont.mk 90 8 [eR (ofQ (sumN f (i + 1))) ++ eR (ofQ (sumN g (i + 1)))] 2))
  rw [hF1,hG1]
  rfl
 ·have hie : i = l.length := by have := of_decide_eq_false h;omega
  clear h
  subst hie
  repeat refine stq rfl ?_
  exact endm rfl (by repeat' constructor) rfl (by repeat' constructor) rfl
theorem FL_at {l : List SR} {z t : Rat} {i : Nat} (hi : i < l.length) : (FL l z t)[i]? = some (ofQ (fI l z t i)) := by
 rw [FL,List.getElem?_map,get_some (d := dS) hi];rfl
theorem fI_hq {l : List SR} (hl : LimL l) (hf : FewL l) {z t : Rat} {n m : Nat} (hz : HQ z n) (ht : HQ t m) {i : Nat} (hi : i < l.length) : HQ (fI l z t i) (8 * (n + m + 60) + 4) := fQ_hq (hl.1 _ (getD_mem hi)) (hf.2 _ (getD_mem hi)) hz ht
theorem rtotal_ret (l : List SR) (hl : LimL l) (hc : checkL l = 0) (hf : FewL l) (a : AR) {z t : Rat} {n m : Nat} [ha : Va a z t n m] (hn : n + m ≤ 90000) :
  Ret Tryz.prog .shared 55 [.sl (l.map eS),.agg (eA a)] (.agg (eR (ofQ (sumN (fI l z t) l.length)) ++ eR (ofQ (sumN (gI l z t) l.length)))) := by
 have h12 := hf.1
 have h1 := rforces_ret l hl hc (by omega) a (z := z) (t := t) hn
 have h2 := rsum_ret l hl hf.1 (FL l z t) (fI l z t) (fun i hi => FL_at hi) (fun i hi => fI_hq hl hf ha.z.hq ha.t.hq hi) (by omega)
 rw [show (fun i => fI l z t i * xI l i) = gI l z t from rfl] at h2
 generalize ofQ (sumN (fI l z t) l.length) = X1 at *
 generalize ofQ (sumN (gI l z t) l.length) = X2 at *
 generalize FL l z t = L at *
 obtain ⟨az,at'⟩ := a
 refine Ret.of_pwp layOk mixed Go.Proofs.Tryz.func55 rfl (by decide) rfl rfl ?_
 repeat refine stq rfl ?_
 refine qst rfl rfl (q_cs rfl h1 rfl rfl) ?_
 repeat refine stq rfl ?_
 refine qst rfl rfl (q_cs rfl h2 rfl rfl) ?_
 repeat refine stq rfl ?_
 exact endm rfl (by repeat' constructor) rfl (by repeat' constructor) rfl
theorem rbal_ret (b : BR) (hb : b.Ok) (a : AR) {z t : Rat} {n m : Nat} [ha : Va a z t n m] (hn : n + m ≤ 60000) : Ret Tryz.prog .shared 119 [.agg (eB b),.agg (eA a)] (.bool (decide ((bd b).Bal z t))) := by
 have h1 := rtotal_ret b.l hb.lim.l hb.chkL hb.few a (z := z) (t := t) (by omega)
 have h2 := bW_ret b.w hb.lim.w
 have hw : Zb b.w := zb_i64 hb.lim.w.1 hb.lim.w.2
 have v0 : Vq (ofQ (sumN (fI b.l z t) b.l.length)) (sumN (fI b.l z t) b.l.length) (96 * (n + 1 + (m + 1) + 60) + 200) := Vq.ofQ (h := F_hq hb.lim.l hb.few ha.z.hq ha.t.hq)
 have h5 := rcmpR_ret (ofQ (sumN (fI b.l z t) b.l.length)) (ofQ (b.w : Rat)) (hx := v0) (by omega) (by decide)
 have h3 := ti_ret (ofQ (b.w : Rat)) b.a (hy := hb.lim.a.v) (by decide) (by decide)
 have v1 : Vq (ofQ (sumN (gI b.l z t) b.l.length)) (sumN (gI b.l z t) b.l.length) (96 * (n + 1 + (m + 1) + 60) + 200) := Vq.ofQ (h := G_hq hb.lim.l hb.few ha.z.hq ha.t.hq)
 have v2 : Vq (ofQ ((b.w : Rat) * b.a.val)) ((b.w : Rat) * b.a.val) 17 := Vq.ofQ (h := wA_hq hb)
 have h4 := rcmpR_ret (ofQ (sumN (gI b.l z t) b.l.length)) (ofQ ((b.w : Rat) * b.a.val)) (hx := v1) (hy := v2) (by omega) (by decide)
 have key : decide ((bd b).Bal z t) = (decide (sgn (sumN (fI b.l z t) b.l.length - (b.w : Rat)) = 0) && decide (sgn (sumN (gI b.l z t) b.l.length - (b.w : Rat) * b.a.val) = 0)) := by
  rw [← Bool.decide_and,decide_eq_decide,sgn_eq,sgn_eq]
  show sumN (fI b.l z t) b.l.length = (b.w : Rat) ∧ sumN (gI b.l z t) b.l.length = (b.w : Rat) * b.a.val ↔ _
  constructor
  ·rintro ⟨e1,e2⟩;rw [e1,e2];constructor <;> grind
  ·rintro ⟨e1,e2⟩;constructor <;> grind
 rw [key]
 generalize sgn (sumN (fI b.l z t) b.l.length - (b.w : Rat)) = g1 at *
 generalize sgn (sumN (gI b.l z t) b.l.length - (b.w : Rat) * b.a.val) = g2 at *
 generalize ofQ (sumN (fI b.l z t) b.l.length) = X1 at *
 generalize ofQ (sumN (gI b.l z t) b.l.length) = X2 at *
 generalize ofQ ((b.w : Rat) * b.a.val) = X3 at *
 generalize ofQ (b.w : Rat) = X4 at *
 obtain ⟨w,ba,l⟩ := b
 obtain ⟨az,at'⟩ := a
 simp only at *
 refine Ret.of_pwp layOk mixed Go.Proofs.Tryz.func119 rfl (by decide) rfl rfl ?_
 repeat refine stq rfl ?_
 refine qst rfl rfl (q_cs rfl h1 rfl rfl) ?_
 repeat refine stq rfl ?_
 refine qst rfl rfl (q_cs rfl h2 rfl rfl) ?_
 repeat refine stq rfl ?_
 refine pw_draw 16 [14,15,16,17,18,19,20,21,22,23,24,25,26,27,28,4] (by decide +kernel) ?_
 repeat refine stq rfl ?_
 refine qst rfl rfl (q_cp rfl h5 rfl rfl rfl) ?_
 repeat refine stq rfl ?_
 (first|refine ps_split rfl rfl ?_ ?_|refine pq_split rfl rfl ?_ ?_|refine p3_split rfl rfl ?_ ?_)<;>intro h
 ·rw [h]
  clear h
  repeat refine stq rfl ?_
  refine qst rfl rfl (q_cs rfl h3 rfl rfl) ?_
  repeat refine stq rfl ?_
  refine qst rfl rfl (q_cp rfl h4 rfl rfl rfl) ?_
  repeat refine stq rfl ?_
  exact end1b rfl rfl rfl
 ·rw [h]
  clear h
  repeat refine stq rfl ?_
  exact end1b rfl rfl rfl
def eqV : List RR → List RR → Bool
 |[],[] => true
 |x :: l,y :: m => decide (x.val = y.val) && eqV l m
 |_,_ => false
theorem eqV_len : ∀ {l m : List RR},eqV l m = true → l.length = m.length
 |[],[],_ => rfl
 |x :: l,y :: m,h => by
  rw [eqV,Bool.and_eq_true] at h
  simp [eqV_len h.2]
 |[],_ :: _,h => by cases h
 |_ :: _,[],h => by cases h
theorem eqV_drop {l m : List RR} {i : Nat} {x y : RR} (hx : l[i]? = some x) (hy : m[i]? = some y) : eqV (l.drop i) (m.drop i) = (decide (x.val = y.val) && eqV (l.drop (i + 1)) (m.drop (i + 1))) := by
 obtain ⟨h1,rfl⟩ := List.getElem?_eq_some_iff.1 hx
 obtain ⟨h2,rfl⟩ := List.getElem?_eq_some_iff.1 hy
 rw [List.drop_eq_getElem_cons h1,List.drop_eq_getElem_cons h2,eqV]
def solE (b : BR) (z t : Rat) (F : List RR) : Int := if eqV (FL b.l z t) F = true ∧ (bd b).Bal z t then 0 else 24
def LeL (F : List RR) (n : Nat) : Prop := ∀ x ∈ F,x.le n
theorem leL_v {F : List RR} {n : Nat} (h : LeL F n) {x : RR} (hx : x ∈ F) : Vq x x.val n := Vq.raw (h x hx).1 (h x hx).2
theorem FL_le {l : List SR} (hl : LimL l) (hf : FewL l) {z t : Rat} {n m : Nat} (hz : HQ z n) (ht : HQ t m) : LeL (FL l z t) (8 * (n + m + 60) + 4) := by
 intro x hx
 obtain ⟨s,hs,rfl⟩ := List.mem_map.1 hx
 exact hq_len (fQ_hq (hl.1 s hs) (hf.2 s hs) hz ht).ok
set_option maxRecDepth 20000 in
theorem rsol_ret (b : BR) (hb : b.Ok) (a : AR) (F : List RR) {z t : Rat} {n m k : Nat} [ha : Va a z t n m] (hn : n + m ≤ 60000) (hF : LeL F k) (hk : k ≤ 1000000) (hFl : F.length ≤ 9223372036854775807) : Ret Tryz.prog .shared 40 [.agg (eB b),.agg (eSol a F)] (I (solE b z t F)) := by
 have h12 := hb.few.1
 have h1 := rforces_ret b.l hb.lim.l hb.chkL (by omega) a (z := z) (t := t) (by omega)
 have h2 := rbal_ret b hb a (z := z) (t := t) hn
 have hle := FL_le hb.lim.l hb.few ha.z.hq ha.t.hq
 have hll : (FL b.l z t).length ≤ 12 := by rw [FL,List.length_map];omega
 generalize hE : solE b z t F = E
 rw [solE] at hE
 have hmF : (F.map eR).length = F.length := by simp
 generalize FL b.l z t = G at *
 have hmG : (G.map eR).length = G.length := by simp
 by_cases hbal : (bd b).Bal z t
 ·rw [decide_eq_true hbal] at h2
  by_cases hlen : G.length = F.length
  ·generalize hQ : eqV G F = Q at *
   obtain ⟨w,ba,l⟩ := b
   obtain ⟨az,at'⟩ := a
   simp only at *
   refine Ret.of_pwp layOk mixed Go.Proofs.Tryz.func40 rfl (by decide) rfl rfl ?_
   repeat refine stq rfl ?_
   refine qst rfl rfl (q_cs rfl h1 rfl rfl) ?_
   repeat refine stq rfl ?_
   refine qst rfl rfl (q_cp rfl h2 rfl rfl rfl) ?_
   repeat refine stq rfl ?_
   refine pw_cond rfl (fun h => ?_) (fun h => ?_)
   ·exfalso
    simp at h
    omega
   clear h
   repeat refine stq rfl ?_
   refine pw_loop (fun i : Nat => i ≤ G.length ∧ eqV (G.drop i) (F.drop i) = Q) (fun i => [(3,.ptr 3 1 0 0),(5,.sl (G.map eR)),(6,I (i : Nat))]) (fun i => [(3,1,⟨60,9,[eSol ⟨az,at'⟩ F],2⟩)]) (fun i => G.length - i) 0 ⟨Nat.zero_le _,hQ⟩ ⟨rfl,rfl,rfl,rfl,trivial⟩ ?_
   intro i s ⟨hi,hD⟩
   repeat refine stq rfl ?_
   refine pw_cond rfl (fun h => ?_) (fun h => ?_)
   ·have hlt : i < G.length := by have := of_decide_eq_true h;omega
    clear h
    obtain ⟨x,hx⟩ := get_lt hlt
    obtain ⟨y,hy⟩ := get_lt (show i < F.length by omega)
    have hc := rcmpR_ret x y (hx := leL_v hle (List.mem_of_getElem? hx)) (hy := leL_v hF (List.mem_of_getElem? hy)) (by omega) (by omega)
    have hs := sgn_eq (x.val - y.val)
    have hw : IntKind.i64.wrap (((i : Nat) : Int) + 1) = ((i + 1 : Nat) : Int) := by rw [wrap_i64 (by omega) (by omega)];omega
    rw [eqV_drop hx hy] at hD
    by_cases he : x.val = y.val
    ·rw [decide_eq_true he,Bool.true_and] at hD
     rw [hs.2 (by rw [he];grind)] at hc
     repeat refine stq rfl ?_
     refine pw_draw 11 [31,32,33,34,35,36,37,38,39,40,41] (by decide +kernel) ?_
     repeat refine stq rfl ?_
     refine qst rfl rfl (q_idxm rfl rfl rfl rfl rfl (by omega) hx rfl) ?_
     repeat refine stq rfl ?_
     refine qst rfl rfl (q_idxm rfl rfl rfl rfl rfl (by omega) hy rfl) ?_
     repeat refine stq rfl ?_
     refine qst rfl rfl (q_cp rfl hc rfl rfl rfl) ?_
     repeat refine stq rfl ?_
     exact ⟨i + 1,⟨by omega,hD⟩,by omega,rfl,rfl,congrArg I hw,rfl,trivial⟩
    ·rw [decide_eq_false he,Bool.false_and] at hD
     subst hD
     rw [if_neg (by simp)] at hE
     have hne : sgn (x.val - y.val) ≠ 0 := fun h => he (by have := hs.1 h;grind)
     generalize sgn (x.val - y.val) = sg at *
     subst hE
     repeat refine stq rfl ?_
     refine pw_draw 11 [31,32,33,34,35,36,37,38,39,40,41] (by decide +kernel) ?_
     repeat refine stq rfl ?_
     refine qst rfl rfl (q_idxm rfl rfl rfl rfl rfl (by omega) hx rfl) ?_
     repeat refine stq rfl ?_
     refine qst rfl rfl (q_idxm rfl rfl rfl rfl rfl (by omega) hy rfl) ?_
     repeat refine stq rfl ?_
     refine qst rfl rfl (q_cp rfl hc rfl rfl rfl) ?_
     repeat refine stq rfl ?_
     refine pw_cond rfl (fun h => ?_) (fun h => ?_)
     ·repeat refine stq rfl ?_
      exact end1i rfl rfl rfl
     ·exfalso
      simp at h
      exact hne h
   ·have hie : i = G.length := by have := of_decide_eq_false h;omega
    clear h
    rw [hie,List.drop_length,hlen,List.drop_length] at hD
    have hD : true = Q := hD
    subst hD
    rw [if_pos ⟨rfl,hbal⟩] at hE
    subst hE
    repeat refine stq rfl ?_
    exact end1i rfl rfl rfl
  ·rw [if_neg (fun h => hlen (eqV_len h.1))] at hE
   subst hE
   obtain ⟨w,ba,l⟩ := b
   obtain ⟨az,at'⟩ := a
   simp only at *
   refine Ret.of_pwp layOk mixed Go.Proofs.Tryz.func40 rfl (by decide) rfl rfl ?_
   repeat refine stq rfl ?_
   refine qst rfl rfl (q_cs rfl h1 rfl rfl) ?_
   repeat refine stq rfl ?_
   refine qst rfl rfl (q_cp rfl h2 rfl rfl rfl) ?_
   repeat refine stq rfl ?_
   refine pw_cond rfl (fun h => ?_) (fun h => ?_)
   ·clear h
    repeat refine stq rfl ?_
    exact end1i rfl rfl rfl
   ·exfalso
    simp at h
    omega
 ·rw [decide_eq_false hbal] at h2
  rw [if_neg (fun h => hbal h.2)] at hE
  subst hE
  obtain ⟨w,ba,l⟩ := b
  obtain ⟨az,at'⟩ := a
  simp only at *
  refine Ret.of_pwp layOk mixed Go.Proofs.Tryz.func40 rfl (by decide) rfl rfl ?_
  repeat refine stq rfl ?_
  refine qst rfl rfl (q_cs rfl h1 rfl rfl) ?_
  repeat refine stq rfl ?_
  refine qst rfl rfl (q_cp rfl h2 rfl rfl rfl) ?_
  repeat refine stq rfl ?_
  exact end1i rfl rfl rfl
theorem cmp0_ret (x y : RR) {n m : Nat} (hx : Vq x x.val n) (hy : Vq y y.val m) (hn : n ≤ 8000000) (hm : m ≤ 8000000) : Ret Tryz.prog .shared 114 [.agg (eR x),.agg (eR y)] (.bool (decide (x.val = y.val))) := by
 have hc := cmpR x y hn hm
 have hs := sgn_eq (x.val - y.val)
 have e : decide (x.val = y.val) = decide (sgn (x.val - y.val) = 0) := by rw [decide_eq_decide,hs];constructor <;> intro h <;> grind
 rw [e]
 generalize sgn (x.val - y.val) = sg at *
 refine Ret.of_pwp layOk mixed Go.Proofs.Tryz.func114 rfl (by decide) rfl rfl ?_
 repeat refine stq rfl ?_
 refine qst rfl rfl (q_cp rfl hc rfl rfl rfl) ?_
 repeat refine stq rfl ?_
 exact end1b rfl rfl rfl
set_option maxRecDepth 20000 in
theorem eqF_ret (G F : List RR) {n k : Nat} (hG : LeL G n) (hF : LeL F k) (hn : n ≤ 8000000) (hk : k ≤ 8000000) (h1 : G.length ≤ 9223372036854775807) : Ret Tryz.prog .shared 113 [.sl (G.map eR),.sl (F.map eR),.clo 114 []] (.bool (eqV G F)) := by
 have hmF : (F.map eR).length = F.length := by simp
 have hmG : (G.map eR).length = G.length := by simp
 by_cases hlen : G.length = F.length
 ·generalize hQ : eqV G F = Q at *
  refine Ret.of_pwp layOk mixed Go.Proofs.Tryz.func113 rfl (by decide) rfl rfl ?_
  repeat refine stq rfl ?_
  refine pw_cond rfl (fun h => ?_) (fun h => ?_)
  ·exfalso
   simp at h
   omega
  clear h
  repeat refine stq rfl ?_
  refine pw_loop (fun i : Nat => i ≤ G.length ∧ eqV (G.drop i) (F.drop i) = Q) (fun i => [(1,.sl (F.map eR)),(2,.clo 114 []),(15,.sl (G.map eR)),(16,I G.length),(17,I (i : Nat))]) (fun i => []) (fun i => G.length - i) 0 ⟨Nat.zero_le _,hQ⟩ ⟨rfl,rfl,rfl,by rw [← hmG];rfl,rfl,trivial⟩ ?_
  intro i s ⟨hi,hD⟩
  repeat refine stq rfl ?_
  refine pw_cond rfl (fun h => ?_) (fun h => ?_)
  ·have hlt : i < G.length := by have := of_decide_eq_true h;omega
   clear h
   obtain ⟨x,hx⟩ := get_lt hlt
   obtain ⟨y,hy⟩ := get_lt (show i < F.length by omega)
   have hc := cmp0_ret x y (leL_v hG (List.mem_of_getElem? hx)) (leL_v hF (List.mem_of_getElem? hy)) hn hk
   have hw : IntKind.i64.wrap (((i : Nat) : Int) + 1) = ((i + 1 : Nat) : Int) := by rw [wrap_i64 (by omega) (by omega)];omega
   rw [eqV_drop hx hy] at hD
   by_cases he : x.val = y.val
   ·rw [decide_eq_true he] at hc hD
    rw [Bool.true_and] at hD
    repeat refine stq rfl ?_
    refine qst rfl rfl (q_idxm rfl rfl rfl rfl rfl (by omega) hx rfl) ?_
    repeat refine stq rfl ?_
    refine qst rfl rfl (q_idxm rfl rfl rfl rfl rfl (by omega) hy rfl) ?_
    repeat refine stq rfl ?_
    refine qst rfl rfl (q_cp rfl hc rfl rfl rfl) ?_
    repeat refine stq rfl ?_
    exact ⟨i + 1,⟨by omega,hD⟩,by omega,rfl,rfl,rfl,rfl,congrArg I hw,trivial⟩
   ·rw [decide_eq_false he] at hc hD
    rw [Bool.false_and] at hD
    subst hD
    repeat refine stq rfl ?_
    refine qst rfl rfl (q_idxm rfl rfl rfl rfl rfl (by omega) hx rfl) ?_
    repeat refine stq rfl ?_
    refine qst rfl rfl (q_idxm rfl rfl rfl rfl rfl (by omega) hy rfl) ?_
    repeat refine stq rfl ?_
    refine qst rfl rfl (q_cp rfl hc rfl rfl rfl) ?_
    repeat refine stq rfl ?_
    exact end1b rfl rfl rfl
  ·have hie : i = G.length := by have := of_decide_eq_false h;omega
   clear h
   rw [hie,List.drop_length,hlen,List.drop_length] at hD
   have hD : true = Q := hD
   subst hD
   repeat refine stq rfl ?_
   exact end1b rfl rfl rfl
 ·have hQ : eqV G F = false := by
   cases hq : eqV G F with
   |false => rfl
   |true => exact absurd (eqV_len hq) hlen
  rw [hQ]
  refine Ret.of_pwp layOk mixed Go.Proofs.Tryz.func113 rfl (by decide) rfl rfl ?_
  repeat refine stq rfl ?_
  refine pw_cond rfl (fun h => ?_) (fun h => ?_)
  ·clear h
   repeat refine stq rfl ?_
   exact end1b rfl rfl rfl
  ·exfalso
   simp at h
   omega
set_option maxRecDepth 20000 in
theorem psol_ret (b : BR) (hb : b.Ok) (a : AR) (F : List RR) {z t : Rat} {n m k : Nat} [ha : Va a z t n m] (hn : n + m ≤ 60000) (hF : LeL F k) (hk : k ≤ 1000000) : Ret Tryz.prog .shared 37 [.agg (eB b),.agg (eSol a F)] (I (solE b z t F)) := by
 have h12 := hb.few.1
 have h0 := checkBody_ret b hb.lim
 rw [hb.chk] at h0
 have h1 := forces_ret b.l hb.lim.l hb.chkL a (z := z) (t := t) (by omega)
 have h2 := balanced_ret b hb a (z := z) (t := t) hn
 have hle := FL_le hb.lim.l hb.few ha.z.hq ha.t.hq
 have hll : (FL b.l z t).length ≤ 12 := by rw [FL,List.length_map];omega
 have h3 := eqF_ret (FL b.l z t) F hle hF (by omega) (by omega) (by omega)
 have hE : solE b z t F = if eqV (FL b.l z t) F = true ∧ (bd b).Bal z t then 0 else 24 := rfl
 rw [hE]
 clear hE hle hll
 generalize eqV (FL b.l z t) F = Q at *
 generalize FL b.l z t = G at *
 cases Q with
 |false =>
  rw [if_neg (by simp)]
  obtain ⟨w,ba,l⟩ := b
  obtain ⟨az,at'⟩ := a
  simp only at *
  refine Ret.of_pwp layOk mixed Go.Proofs.Tryz.func37 rfl (by decide) rfl rfl ?_
  repeat refine stq rfl ?_
  refine qst rfl rfl (q_cp rfl h0 rfl rfl rfl) ?_
  repeat refine stq rfl ?_
  refine qst rfl rfl (q_cs rfl h1 rfl rfl) ?_
  repeat refine stq rfl ?_
  refine qst rfl rfl (q_cp rfl h3 rfl rfl rfl) ?_
  repeat refine stq rfl ?_
  exact end1i rfl rfl rfl
 |true =>
  by_cases hbal : (bd b).Bal z t
  ·rw [if_pos ⟨rfl,hbal⟩]
   rw [decide_eq_true hbal] at h2
   obtain ⟨w,ba,l⟩ := b
   obtain ⟨az,at'⟩ := a
   simp only at *
   refine Ret.of_pwp layOk mixed Go.Proofs.Tryz.func37 rfl (by decide) rfl rfl ?_
   repeat refine stq rfl ?_
   refine qst rfl rfl (q_cp rfl h0 rfl rfl rfl) ?_
   repeat refine stq rfl ?_
   refine qst rfl rfl (q_cs rfl h1 rfl rfl) ?_
   repeat refine stq rfl ?_
   refine qst rfl rfl (q_cp rfl h3 rfl rfl rfl) ?_
   repeat refine stq rfl ?_
   refine qst rfl rfl (q_cp rfl h2 rfl rfl rfl) ?_
   repeat refine stq rfl ?_
   exact end1i rfl rfl rfl
  ·rw [if_neg (fun h => hbal h.2)]
   rw [decide_eq_false hbal] at h2
   obtain ⟨w,ba,l⟩ := b
   obtain ⟨az,at'⟩ := a
   simp only at *
   refine Ret.of_pwp layOk mixed Go.Proofs.Tryz.func37 rfl (by decide) rfl rfl ?_
   repeat refine stq rfl ?_
   refine qst rfl rfl (q_cp rfl h0 rfl rfl rfl) ?_
   repeat refine stq rfl ?_
   refine qst rfl rfl (q_cs rfl h1 rfl rfl) ?_
   repeat refine stq rfl ?_
   refine qst rfl rfl (q_cp rfl h3 rfl rfl rfl) ?_
   repeat refine stq rfl ?_
   refine qst rfl rfl (q_cp rfl h2 rfl rfl rfl) ?_
   repeat refine stq rfl ?_
   exact end1i rfl rfl rfl
end Go.Pv


set_option maxHeartbeats 2000000
namespace Go.Pv
attribute [local irreducible] PWP POps PQuiet PSem XThen XBlock RetPost InlPost
open Go.Proofs
theorem brief_va {a : AR} (h : briefB a = true) : Va a a.z.val a.t.val 4 4 := by
 rw [briefB,Bool.and_eq_true,shR_sz,shR_sz] at h
 exact ⟨Vq.raw h.1.1 h.1.2,Vq.raw h.2.1 h.2.2⟩
end Go.Pv


set_option maxHeartbeats 2000000
namespace Go.Pv
attribute [local irreducible] PWP POps PQuiet PSem XThen XBlock RetPost InlPost
open Go.Proofs
theorem psol_err (b : BR) (hb : b.Lim) (he : bodyE b ≠ 0) (a : AR) (F : List RR) : Ret Tryz.prog .shared 37 [.agg (eB b),.agg (eSol a F)] (I (bodyE b)) := by
 have h0 := checkBody_ret b hb
 generalize bodyE b = e at *
 obtain ⟨az,at'⟩ := a
 refine Ret.of_pwp layOk mixed Go.Proofs.Tryz.func37 rfl (by decide) rfl rfl ?_
 repeat refine stq rfl ?_
 refine qst rfl rfl (q_cp rfl h0 rfl rfl rfl) ?_
 repeat refine stq rfl ?_
 refine pw_cond rfl (fun h => ?_) (fun h => ?_)
 ·repeat refine stq rfl ?_
  exact end1i rfl rfl rfl
 ·exfalso
  simp at h
  exact he h
end Go.Pv


set_option maxHeartbeats 2000000
namespace Go.Pv
attribute [local irreducible] PWP POps PQuiet PSem XThen XBlock RetPost InlPost
open Go.Proofs
theorem many_good {b : BR} (hb : ArgB b) (h : manyB b = true) : b.Lim ∧ (bodyE b = 0 → b.Ok ∧ (bd b).Sz) := by
 rw [manyB,Bool.and_eq_true,shR_sz,shL_iff] at h
 exact ⟨⟨hb.w,h.2.mono (by decide),short_limL hb.data h.1 (by decide) (by decide)⟩,fun hc => ⟨short_ok hb.w hb.data h.2 h.1 (by decide) (by decide) hc,short_sz hb.w hb.data h.2 h.1 (by decide) (by decide) hc⟩⟩
theorem shAll_le {F : List RR} {n : Nat} (h : (F.all fun x => shR x n) = true) : LeL F n := fun x hx => by
 have := List.all_eq_true.1 h x hx
 exact shR_sz.1 this
end Go.Pv


set_option maxHeartbeats 2000000
namespace Go.Pv
attribute [local irreducible] PWP POps PQuiet PSem XThen XBlock RetPost InlPost
open Go.Proofs
end Go.Pv


set_option maxHeartbeats 2000000
namespace Go.Pv
attribute [local irreducible] PWP POps PQuiet PSem XThen XBlock RetPost InlPost
open Go.Proofs
end Go.Pv


set_option maxHeartbeats 2000000
namespace Go.Pv
attribute [local irreducible] PWP POps PQuiet PSem XThen XBlock RetPost InlPost
open Go.Proofs
end Go.Pv


set_option maxHeartbeats 2000000
namespace Go.Pv
attribute [local irreducible] PWP POps PQuiet PSem XThen XBlock RetPost InlPost
open Go.Proofs
def kI (l : List SR) (z t : Rat) (i : Nat) : Rat := befQ (l.getD i dS).k.m (prI (l.getD i dS).k.s (yI l z t i) (l.getD i dS).k.S.length)
theorem kI_hq {l : List SR} (hl : LimL l) {z t : Rat} {i : Nat} (hi : i < l.length) : HQ (kI l z t i) 13 := (bfR_v _ (hl.1 _ (getD_mem hi)).k _).hq
theorem xI_zb {l : List SR} (hl : LimL l) {i : Nat} (hi : i < l.length) : Zb (l.getD i dS).x := by
 have hx := (hl.1 _ (getD_mem hi)).x
 exact zb_i64 hx.1 hx.2
set_option maxRecDepth 20000 in
theorem rstiff_ret (l : List SR) (hl : LimL l) (hf : FewL l) (hck : checkL l = 0) (a : AR) {z t : Rat} {n m : Nat} [ha : Va a z t n m] (hn : n + m ≤ 60000) :
  Ret Tryz.prog .shared 56 [.sl (l.map eS),.agg (eA a)] (.agg (eK (ofQ (sumN (kI l z t) l.length)) (ofQ (sumN (fun i => kI l z t i * xI l i) l.length)) (ofQ (sumN (fun i => kI l z t i * xI l i * xI l i) l.length)))) := by
 have w0 := w0_ret
 have h12 := hf.1
 have hml : (l.map eS).length = l.length := by simp
 have him := fun x hx => rimm_ret x (hl.1 x hx) a (z := z) (t := t) (by omega) (by omega)
 have hrg : ∀ i,i < l.length → Ret Tryz.prog .shared 133 [.agg (eC (l.getD i dS).k),.agg (eR (ofQ (yI l z t i)))] (.agg (eR (ofQ (kI l z t i)))) := fun i hi => by
  have v1 : Vq (ofQ (yI l z t i)) (yI l z t i) (13 + (n + 1 + (m + 1 + 4) + 1) + 1) := Vq.ofQ (h := yQ_hq (hl.1 _ (getD_mem hi)) ha.z.hq ha.t.hq)
  exact rright_ret _ (hl.1 _ (getD_mem hi)).k (checkL_curve hck _ (getD_mem hi)) (ofQ (yI l z t i)) (hy := v1) (by omega)
 generalize hg2 : (fun i => kI l z t i * xI l i) = g2
 generalize hg3 : (fun i => kI l z t i * xI l i * xI l i) = g3
 have q1 : ∀ i,i < l.length → HQ (kI l z t i) 30 := fun i hi => (kI_hq hl hi).mono (by decide)
 have q2 : ∀ i,i < l.length → HQ (g2 i) 30 := fun i hi => by
  have := xI_zb hl hi
  rw [← hg2];exact (@HQ.mul _ _ 13 4 (kI_hq hl hi) HQ.int).mono (by decide)
 have q3 : ∀ i,i < l.length → HQ (g3 i) 30 := fun i hi => by
  have := xI_zb hl hi
  rw [← hg3];exact (@HQ.mul _ _ 17 4 (@HQ.mul _ _ 13 4 (kI_hq hl hi) HQ.int) HQ.int).mono (by decide)
 refine Ret.of_pwp layOk mixed Go.Proofs.Tryz.func56 rfl (by decide) rfl rfl ?_
 repeat refine stq rfl ?_
 refine qst rfl rfl (q_cs rfl w0 rfl rfl) ?_
 repeat refine stq rfl ?_
 refine qst rfl rfl (q_cs rfl w0 rfl rfl) ?_
 repeat refine stq rfl ?_
 refine qst rfl rfl (q_cs rfl w0 rfl rfl) ?_
 repeat refine stq rfl ?_
 refine pw_loop (fun i : Nat => i ≤ l.length) (fun i => [(0,.sl (l.map eS)),(3,.ptr 3 1 0 0),(4,.ptr 4 1 0 0),(5,.ptr 5 1 0 0),(6,I (i : Nat))])
  (fun i => [(3,1,⟨40,8,[eA a],2⟩),(4,1,⟨94,12,[zN ++ (zN ++ zN)],2⟩),(5,1,⟨94,12,[eK (ofQ (sumN (kI l z t) i)) (ofQ (sumN g2 i)) (ofQ (sumN g3 i))],2⟩)]) (fun i => l.length - i) 0 (Nat.zero_le _) ⟨rfl,rfl,rfl,rfl,rfl,rfl,rfl,rfl,trivial⟩ ?_
 intro i s hi
 repeat refine stq rfl ?_
 refine pw_cond rfl (fun h => ?_) (fun h => ?_)
 ·have hlt : i < l.length := by have := of_decide_eq_true h;omega
  clear h
  have hx := get_some (d := dS) hlt
  have hxl := hl.1 _ (getD_mem hlt)
  have zx := xI_zb hl hlt
  have hw : IntKind.i64.wrap (((i : Nat) : Int) + 1) = ((i + 1 : Nat) : Int) := by rw [wrap_i64 (by omega) (by omega)];omega
  have e1 := him _ (getD_mem hlt)
  rw [show yQ (l.getD i dS) z t = yI l z t i from rfl] at e1
  have e2 := hrg i hlt
  have e3 := bW_ret (l.getD i dS).x hxl.x
  have vk : Vq (ofQ (kI l z t i)) (kI l z t i) 30 := Vq.ofQ (h := q1 i hlt)
  have v1 : Vq (ofQ (sumN (kI l z t) i)) (sumN (kI l z t) i) (i * 31 + 4) := Vq.ofQ (h := sumN_hq i fun k hk => q1 k (by omega))
  have v2 : Vq (ofQ (sumN g2 i)) (sumN g2 i) (i * 31 + 4) := Vq.ofQ (h := sumN_hq i fun k hk => q2 k (by omega))
  have v3 : Vq (ofQ (sumN g3 i)) (sumN g3 i) (i * 31 + 4) := Vq.ofQ (h := sumN_hq i fun k hk => q3 k (by omega))
  have vg2 : Vq (ofQ (g2 i)) (g2 i) 30 := Vq.ofQ (h := q2 i hlt)
  have vg3 : Vq (ofQ (g3 i)) (g3 i) 30 := Vq.ofQ (h := q3 i hlt)
  have f1 := pl_ret (ofQ (sumN (kI l z t) i)) (ofQ (kI l z t i)) (hx := v1) (hy := vk) (by omega) (by decide)
  have f2 := ti_ret (ofQ (kI l z t i)) (ofQ ((l.getD i dS).x : Rat)) (hx := vk) (by decide) (by decide)
  have hg2i : kI l z t i * ((l.getD i dS).x : Rat) = g2 i := by rw [← hg2];rfl
  rw [hg2i] at f2
  have f3 := pl_ret (ofQ (sumN g2 i)) (ofQ (g2 i)) (hx := v2) (hy := vg2) (by omega) (by decide)
  have f4 := ti_ret (ofQ ((l.getD i dS).x : Rat)) (ofQ ((l.getD i dS).x : Rat)) (by decide) (by decide)
  have vxx : Vq (ofQ (((l.getD i dS).x : Rat) * ((l.getD i dS).x : Rat))) (((l.getD i dS).x : Rat) * ((l.getD i dS).x : Rat)) 8 := Vq.ofQ (h := @HQ.mul _ _ 4 4 HQ.int HQ.int)
  have f5 := ti_ret (ofQ (kI l z t i)) (ofQ (((l.getD i dS).x : Rat) * ((l.getD i dS).x : Rat))) (hx := vk) (hy := vxx) (by decide) (by decide)
  have hg3i : kI l z t i * (((l.getD i dS).x : Rat) * ((l.getD i dS).x : Rat)) = g3 i := by rw [← hg3,← Rat.mul_assoc];rfl
  rw [hg3i] at f5
  have f6 := pl_ret (ofQ (sumN g3 i)) (ofQ (g3 i)) (hx := v3) (hy := vg3) (by omega) (by decide)
  rw [show sumN (kI l z t) i + kI l z t i = sumN (kI l z t) (i + 1) from rfl] at f1
  rw [show sumN g2 i + g2 i = sumN g2 (i + 1) from rfl] at f3
  rw [show sumN g3 i + g3 i = sumN g3 (i + 1) from rfl] at f6
  generalize hA : ofQ (sumN (kI l z t) (i + 1)) = A1 at *
  generalize hB : ofQ (sumN g2 (i + 1)) = B1 at *
  generalize hC : ofQ (sumN g3 (i + 1)) = C1 at *
  generalize ofQ (sumN (kI l z t) i) = A0 at *
  generalize ofQ (sumN g2 i) = B0 at *
  generalize ofQ (sumN g3 i) = C0 at *
  generalize ofQ (((l.getD i dS).x : Rat) * ((l.getD i dS).x : Rat)) = XX at *
  generalize ofQ (kI l z t i) = K0 at *
  generalize ofQ (yI l z t i) = Y0 at *
  generalize ofQ (g2 i) = G2 at *
  generalize ofQ (g3 i) = G3 at *
  generalize ofQ ((l.getD i dS).x : Rat) = X0 at *
  generalize l.getD i dS = x at *
  clear him hrg q1 q2 q3 hg2 hg3
  obtain ⟨xx,xc,xk⟩ := x
  obtain ⟨az,at'⟩ := a
  simp only at *
  refine pw_ghost (gdrop 7) ?_
  refine pw_ghost (gdrop 8) ?_
  repeat refine stq rfl ?_
  refine pw_draw2 18 2 [19,20,21,22,23,24,25,26,27,28,29,30,31,32,33,34,35,36,7,8] [] (by decide +kernel) rfl ?_
  repeat refine stq rfl ?_
  refine qst rfl rfl (q_idxm rfl rfl rfl rfl rfl (by omega) hx rfl) ?_
  repeat refine stq rfl ?_
  refine qst rfl rfl (q_idxm rfl rfl rfl rfl rfl (by omega) hx rfl) ?_
  repeat refine stq rfl ?_
  refine qst rfl rfl (q_cs rfl e1 rfl rfl) ?_
  repeat refine stq rfl ?_
  refine qst rfl rfl (q_cs rfl e2 rfl rfl) ?_
  repeat refine stq rfl ?_
  refine qst rfl rfl (q_idxm rfl rfl rfl rfl rfl (by omega) hx rfl) ?_
  repeat refine stq rfl ?_
  refine qst rfl rfl (q_cs rfl e3 rfl rfl) ?_
  repeat refine stq rfl ?_
  refine qst rfl rfl (q_cs rfl f1 rfl rfl) ?_
  repeat refine stq rfl ?_
  refine pw_draw 7 [42,43,44,45,46,47,48] (by decide +kernel) ?_
  repeat refine stq rfl ?_
  refine qst rfl rfl (q_cs rfl f2 rfl rfl) ?_
  repeat refine stq rfl ?_
  refine qst rfl rfl (q_cs rfl f3 rfl rfl) ?_
  repeat refine stq rfl ?_
  refine pw_draw 9 [49,50,51,52,53,54,55,56,57] (by decide +kernel) ?_
  repeat refine stq rfl ?_
  refine qst rfl rfl (q_cs rfl f4 rfl rfl) ?_
  repeat refine stq rfl ?_
  refine qst rfl rfl (q_cs rfl f5 rfl rfl) ?_
  repeat refine stq rfl ?_
  refine qst rfl rfl (q_cs rfl f6 rfl rfl) ?_
  repeat refine stq rfl ?_
  refine ⟨i + 1,hlt,by omega,rfl,rfl,rfl,rfl,congrArg I hw,rfl,rfl,?_,trivial⟩
  show (_ : Nat × Option Cont) = (1,some (Cont.mk 94 12 [eK (ofQ (sumN (kI l z t) (i + 1))) (ofQ (sumN g2 (i + 1))) (ofQ (sumN g3 (i + 1)))] 2))
  rw [hA,hB,hC]
  rfl
 ·have hie : i = l.length := by have := of_decide_eq_false h;omega
  clear h
  subst hie
  repeat refine stq rfl ?_
  exact endm rfl (by repeat' constructor) rfl (by repeat' constructor) rfl
def meetQ (S1 T1 V1 S2 T2 V2 : Rat) : Option (Rat × Rat) := if S1 * T2 - T1 * S2 = 0 then none else some ((V1 * T2 - T1 * V2) / (S1 * T2 - T1 * S2),(S1 * V2 - V1 * S2) / (S1 * T2 - T1 * S2))
theorem meet_newt {h c p u v : Rat} : meetQ h c u c p v = Bd.newt h c p u v := by
 rw [meetQ,Bd.newt]
 split
 ·rfl
 ·congr 2
  ·grind
  ·grind
set_option maxRecDepth 20000 in
theorem rmeet_ret (s1 t1 v1 s2 t2 v2 : RR) {S1 T1 V1 S2 T2 V2 : Rat} {n : Nat} (a1 : Vq s1 S1 n) (a2 : Vq t1 T1 n) (a3 : Vq v1 V1 n) (a4 : Vq s2 S2 n) (a5 : Vq t2 T2 n) (a6 : Vq v2 V2 n) (hn : n ≤ 1000000) :
  Ret Tryz.prog .shared 129 [.agg (eK s1 t1 v1),.agg (eK s2 t2 v2)] (movedR (meetQ S1 T1 V1 S2 T2 V2)) := by
 have m1 := ti_ret s1 t2 (hx := a1) (hy := a5) (by omega) (by omega)
 have m2 := ti_ret t1 s2 (hx := a2) (hy := a4) (by omega) (by omega)
 have w1 : Vq (ofQ (S1 * T2)) (S1 * T2) (n + 1 + (n + 1)) := Vq.ofQ (h := @HQ.mul _ _ _ _ a1.hq a5.hq)
 have w2 : Vq (ofQ (T1 * S2)) (T1 * S2) (n + 1 + (n + 1)) := Vq.ofQ (h := @HQ.mul _ _ _ _ a2.hq a4.hq)
 have m3 := ls_ret (ofQ (S1 * T2)) (ofQ (T1 * S2)) (hx := w1) (hy := w2) (by omega) (by omega)
 have w3 : Vq (ofQ (S1 * T2 - T1 * S2)) (S1 * T2 - T1 * S2) (n + 1 + (n + 1) + (n + 1 + (n + 1)) + 1) := Vq.ofQ (h := @HQ.sub _ _ _ _ (vq_hq2 w1) (vq_hq2 w2))
 have sg := sg_ret (ofQ (S1 * T2 - T1 * S2)) (hx := w3) (by omega)
 have hs0 := sgn_eq (S1 * T2 - T1 * S2)
 by_cases h0 : S1 * T2 - T1 * S2 = 0
 ·rw [meetQ,if_pos h0]
  rw [hs0.2 h0] at sg
  simp only [movedR]
  generalize ofQ (S1 * T2 - T1 * S2) = D at *
  generalize ofQ (S1 * T2) = D1 at *
  generalize ofQ (T1 * S2) = D2 at *
  refine Ret.of_pwp layOk mixed Go.Proofs.Tryz.func129 rfl (by decide) rfl rfl ?_
  repeat refine stq rfl ?_
  refine pw_draw2 11 1 [9,10,11,12,13,14,15,16,17,18,19,6] [] (by decide +kernel) rfl ?_
  repeat refine stq rfl ?_
  refine qst rfl rfl (q_cs rfl m1 rfl rfl) ?_
  repeat refine stq rfl ?_
  refine qst rfl rfl (q_cs rfl m2 rfl rfl) ?_
  repeat refine stq rfl ?_
  refine qst rfl rfl (q_cs rfl m3 rfl rfl) ?_
  repeat refine stq rfl ?_
  refine qst rfl rfl (q_cp rfl sg rfl rfl rfl) ?_
  repeat refine stq rfl ?_
  exact endm rfl (by repeat' constructor) rfl (by repeat' constructor) rfl
 ·have hne : sgn (S1 * T2 - T1 * S2) ≠ 0 := fun h => h0 (hs0.1 h)
  rw [meetQ,if_neg h0]
  have m4 := ti_ret v1 t2 (hx := a3) (hy := a5) (by omega) (by omega)
  have m5 := ti_ret t1 v2 (hx := a2) (hy := a6) (by omega) (by omega)
  have w4 : Vq (ofQ (V1 * T2)) (V1 * T2) (n + 1 + (n + 1)) := Vq.ofQ (h := @HQ.mul _ _ _ _ a3.hq a5.hq)
  have w5 : Vq (ofQ (T1 * V2)) (T1 * V2) (n + 1 + (n + 1)) := Vq.ofQ (h := @HQ.mul _ _ _ _ a2.hq a6.hq)
  have m6 := ls_ret (ofQ (V1 * T2)) (ofQ (T1 * V2)) (hx := w4) (hy := w5) (by omega) (by omega)
  have w6 : Vq (ofQ (V1 * T2 - T1 * V2)) (V1 * T2 - T1 * V2) (n + 1 + (n + 1) + (n + 1 + (n + 1)) + 1) := Vq.ofQ (h := @HQ.sub _ _ _ _ (vq_hq2 w4) (vq_hq2 w5))
  have m7 := by_ret (ofQ (V1 * T2 - T1 * V2)) (ofQ (S1 * T2 - T1 * S2)) (hx := w6) (hy := w3) (by omega) (by omega) h0
  have m8 := ti_ret s1 v2 (hx := a1) (hy := a6) (by omega) (by omega)
  have m9 := ti_ret v1 s2 (hx := a3) (hy := a4) (by omega) (by omega)
  have w8 : Vq (ofQ (S1 * V2)) (S1 * V2) (n + 1 + (n + 1)) := Vq.ofQ (h := @HQ.mul _ _ _ _ a1.hq a6.hq)
  have w9 : Vq (ofQ (V1 * S2)) (V1 * S2) (n + 1 + (n + 1)) := Vq.ofQ (h := @HQ.mul _ _ _ _ a3.hq a4.hq)
  have ma := ls_ret (ofQ (S1 * V2)) (ofQ (V1 * S2)) (hx := w8) (hy := w9) (by omega) (by omega)
  have wa : Vq (ofQ (S1 * V2 - V1 * S2)) (S1 * V2 - V1 * S2) (n + 1 + (n + 1) + (n + 1 + (n + 1)) + 1) := Vq.ofQ (h := @HQ.sub _ _ _ _ (vq_hq2 w8) (vq_hq2 w9))
  have mb := by_ret (ofQ (S1 * V2 - V1 * S2)) (ofQ (S1 * T2 - T1 * S2)) (hx := wa) (hy := w3) (by omega) (by omega) h0
  simp only [movedR]
  generalize ofQ ((V1 * T2 - T1 * V2) / (S1 * T2 - T1 * S2)) = R1 at *
  generalize ofQ ((S1 * V2 - V1 * S2) / (S1 * T2 - T1 * S2)) = R2 at *
  generalize sgn (S1 * T2 - T1 * S2) = gs at *
  generalize ofQ (S1 * T2 - T1 * S2) = D at *
  generalize ofQ (V1 * T2 - T1 * V2) = D3 at *
  generalize ofQ (S1 * V2 - V1 * S2) = D4 at *
  generalize ofQ (S1 * T2) = D1 at *
  generalize ofQ (T1 * S2) = D2 at *
  generalize ofQ (V1 * T2) = D5 at *
  generalize ofQ (T1 * V2) = D6 at *
  generalize ofQ (S1 * V2) = D7 at *
  generalize ofQ (V1 * S2) = D8 at *
  refine Ret.of_pwp layOk mixed Go.Proofs.Tryz.func129 rfl (by decide) rfl rfl ?_
  repeat refine stq rfl ?_
  refine pw_draw2 11 1 [9,10,11,12,13,14,15,16,17,18,19,6] [] (by decide +kernel) rfl ?_
  repeat refine stq rfl ?_
  refine qst rfl rfl (q_cs rfl m1 rfl rfl) ?_
  repeat refine stq rfl ?_
  refine qst rfl rfl (q_cs rfl m2 rfl rfl) ?_
  repeat refine stq rfl ?_
  refine qst rfl rfl (q_cs rfl m3 rfl rfl) ?_
  repeat refine stq rfl ?_
  refine qst rfl rfl (q_cp rfl sg rfl rfl rfl) ?_
  repeat refine stq rfl ?_
  refine pw_cond rfl (fun h => ?_) (fun h => ?_)
  ·exact absurd (of_decide_eq_true h) hne
  clear h
  repeat refine stq rfl ?_
  refine pw_draw2 13 1 [24,25,26,27,28,29,30,31,32,33,34,35,36,7] [] (by decide +kernel) rfl ?_
  repeat refine stq rfl ?_
  refine qst rfl rfl (q_cs rfl m4 rfl rfl) ?_
  repeat refine stq rfl ?_
  refine qst rfl rfl (q_cs rfl m5 rfl rfl) ?_
  repeat refine stq rfl ?_
  refine qst rfl rfl (q_cs rfl m6 rfl rfl) ?_
  repeat refine stq rfl ?_
  refine qst rfl rfl (q_cs rfl m7 rfl rfl) ?_
  repeat refine stq rfl ?_
  refine pw_draw2 13 1 [37,38,39,40,41,42,43,44,45,46,47,48,49,8] [] (by decide +kernel) rfl ?_
  repeat refine stq rfl ?_
  refine qst rfl rfl (q_cs rfl m8 rfl rfl) ?_
  repeat refine stq rfl ?_
  refine qst rfl rfl (q_cs rfl m9 rfl rfl) ?_
  repeat refine stq rfl ?_
  refine qst rfl rfl (q_cs rfl ma rfl rfl) ?_
  repeat refine stq rfl ?_
  refine qst rfl rfl (q_cs rfl mb rfl rfl) ?_
  repeat refine stq rfl ?_
  exact endm rfl (by repeat' constructor) rfl (by repeat' constructor) rfl
end Go.Pv


set_option maxHeartbeats 2000000
namespace Go.Pv
attribute [local irreducible] PWP POps PQuiet PSem XThen XBlock RetPost InlPost
open Go.Proofs
structure LR where
 nm : List UInt8
 m : Int
 x : Int
 z : Int
 f : Int
def eLd (w : LR) : List PV := [.str w.nm,I w.m,I w.x,I w.z,I w.f]
def badL (w : LR) : Bool := decide (w.m < 0 ∨ 1000000000 < w.m ∨ w.x < -1000000 ∨ 1000000 < w.x)
def stepQ (b : BR) (z t : Rat) (w : LR) : Option (Rat × Rat) := Bd.newt ((bd b).Kh ((bd b).pR z t)) ((bd b).Kc ((bd b).pR z t)) ((bd b).Kp ((bd b).pR z t)) (w.m : Rat) ((w.m : Rat) * (w.x : Rat))
structure TQ where
 a : AR
 e : Int
def TQ.pv (q : TQ) : PV := .tup [.agg (eA q.a),I q.e]
noncomputable def trimQ (b : BR) (z t : Rat) (F : List RR) (w : LR) : TQ :=
 if solE b z t F = 0 then (if badL w = true then ⟨zA,2⟩ else match stepQ b z t w with
  |none => ⟨zA,9⟩
  |some d => ⟨⟨ofQ (z + d.1),ofQ (t + d.2)⟩,0⟩) else ⟨zA,solE b z t F⟩
theorem newt_hq2 {h c p u v : Rat} {d : Rat × Rat} (hh : HQ h 300) (hc : HQ c 300) (hp : HQ p 300) (hu : HQ u 10) (hv : HQ v 10) (hd : Bd.newt h c p u v = some d) : HQ d.1 2000 ∧ HQ d.2 2000 := by
 rw [Bd.newt] at hd
 split at hd
 ·cases hd
 ·cases hd
  have dt := @HQ.sub _ _ _ _ (@HQ.mul _ _ 300 300 hh hp) (@HQ.mul _ _ 300 300 hc hc)
  exact ⟨(@HQ.div _ _ _ _ (@HQ.sub _ _ _ _ (@HQ.mul _ _ _ _ hp hu) (@HQ.mul _ _ _ _ hc hv)) dt).mono (by decide),(@HQ.div _ _ _ _ (@HQ.sub _ _ _ _ (@HQ.mul _ _ _ _ hh hv) (@HQ.mul _ _ _ _ hc hu)) dt).mono (by decide)⟩
theorem step_hq {b : BR} (hb : b.Ok) {z t : Rat} {w : LR} (hm : i64 w.m) (hx : i64 w.x) {d : Rat × Rat} (hd : stepQ b z t w = some d) : HQ d.1 2000 ∧ HQ d.2 2000 := by
 have zm : Zb w.m := zb_i64 hm.1 hm.2
 have zx : Zb w.x := zb_i64 hx.1 hx.2
 exact newt_hq2 (Kh_hq hb _) (Kc_hq hb _) (Kp_hq hb _) ((HQ.int (z := w.m)).mono (by decide)) ((@HQ.mul _ _ 4 4 HQ.int HQ.int).mono (by decide)) hd
theorem badL_no {w : LR} (h : badL w = false) : 0 ≤ w.m ∧ w.m ≤ 1000000000 ∧ -1000000 ≤ w.x ∧ w.x ≤ 1000000 := by
 have := of_decide_eq_false h
 omega
set_option maxRecDepth 20000 in
theorem ptrim_err (b : BR) (a : AR) (F : List RR) (w : LR) (e : Int) (he : e ≠ 0) (h0 : Ret Tryz.prog .shared 37 [.agg (eB b),.agg (eSol a F)] (I e)) : Ret Tryz.prog .shared 47 [.agg (eB b),.agg (eSol a F),.agg (eLd w)] (.tup [.agg (eA zA),I e]) := by
 refine Ret.weak (r' := .tup [.agg (zN ++ zN),I e]) ?_ (WeakL.refl _) (WeakL.tup (.cons zA_weak.agg (WeakL.refl _)))
 obtain ⟨az,at'⟩ := a
 obtain ⟨nm,m,x,z,f⟩ := w
 refine Ret.of_pwp layOk mixed Go.Proofs.Tryz.func47 rfl (by decide) rfl rfl ?_
 repeat refine stq rfl ?_
 refine qst rfl rfl (q_cp rfl h0 rfl rfl rfl) ?_
 repeat refine stq rfl ?_
 refine pw_cond rfl (fun h => ?_) (fun h => ?_)
 ·clear h
  repeat refine stq rfl ?_
  exact endm rfl (by repeat' constructor) rfl (by repeat' constructor) rfl
 ·exfalso
  simp at h
  exact he h
set_option maxRecDepth 20000 in
theorem ptrim_bad (b : BR) (a : AR) (F : List RR) (w : LR) (hw : badL w = true) (h0 : Ret Tryz.prog .shared 37 [.agg (eB b),.agg (eSol a F)] (I 0)) : Ret Tryz.prog .shared 47 [.agg (eB b),.agg (eSol a F),.agg (eLd w)] (.tup [.agg (eA zA),I 2]) := by
 refine Ret.weak (r' := .tup [.agg (zN ++ zN),I 2]) ?_ (WeakL.refl _) (WeakL.tup (.cons zA_weak.agg (WeakL.refl _)))
 obtain ⟨az,at'⟩ := a
 obtain ⟨nm,m,x,z,f⟩ := w
 have hfar := far_ret x
 have hd := of_decide_eq_true hw
 simp only at hd
 by_cases h1 : m < 0
 ·refine Ret.of_pwp layOk mixed Go.Proofs.Tryz.func47 rfl (by decide) rfl rfl ?_
  repeat refine stq rfl ?_
  refine qst rfl rfl (q_cp rfl h0 rfl rfl rfl) ?_
  repeat refine stq rfl ?_
  (first|refine ps_split rfl rfl ?_ ?_|refine pq_split rfl rfl ?_ ?_|refine p3_split rfl rfl ?_ ?_)<;>intro h
  ·clear h
   repeat refine stq rfl ?_
   exact endm rfl (by repeat' constructor) rfl (by repeat' constructor) rfl
  ·exact absurd h1 (of_decide_eq_false h)
 ·by_cases h2 : 1000000000 < m
  ·refine Ret.of_pwp layOk mixed Go.Proofs.Tryz.func47 rfl (by decide) rfl rfl ?_
   repeat refine stq rfl ?_
   refine qst rfl rfl (q_cp rfl h0 rfl rfl rfl) ?_
   repeat refine stq rfl ?_
   (first|refine ps_split rfl rfl ?_ ?_|refine pq_split rfl rfl ?_ ?_|refine p3_split rfl rfl ?_ ?_)<;>intro h
   ·exact absurd (of_decide_eq_true h) h1
   clear h
   repeat refine stq rfl ?_
   (first|refine ps_split rfl rfl ?_ ?_|refine pq_split rfl rfl ?_ ?_|refine p3_split rfl rfl ?_ ?_)<;>intro h
   ·clear h
    repeat refine stq rfl ?_
    exact endm rfl (by repeat' constructor) rfl (by repeat' constructor) rfl
   ·exact absurd h2 (of_decide_eq_false h)
  ·rw [decide_eq_true (show x < -1000000 ∨ 1000000 < x by omega)] at hfar
   refine Ret.of_pwp layOk mixed Go.Proofs.Tryz.func47 rfl (by decide) rfl rfl ?_
   repeat refine stq rfl ?_
   refine qst rfl rfl (q_cp rfl h0 rfl rfl rfl) ?_
   repeat refine stq rfl ?_
   (first|refine ps_split rfl rfl ?_ ?_|refine pq_split rfl rfl ?_ ?_|refine p3_split rfl rfl ?_ ?_)<;>intro h
   ·exact absurd (of_decide_eq_true h) h1
   clear h
   repeat refine stq rfl ?_
   (first|refine ps_split rfl rfl ?_ ?_|refine pq_split rfl rfl ?_ ?_|refine p3_split rfl rfl ?_ ?_)<;>intro h
   ·exact absurd (of_decide_eq_true h) h2
   clear h
   repeat refine stq rfl ?_
   refine qst rfl rfl (q_cp rfl hfar rfl rfl rfl) ?_
   repeat refine stq rfl ?_
   exact endm rfl (by repeat' constructor) rfl (by repeat' constructor) rfl
set_option maxRecDepth 20000 in
theorem ptrim_go (b : BR) (hb : b.Ok) (a : AR) (F : List RR) (w : LR) (hw : badL w = false) {z t : Rat} {n m : Nat} [ha : Va a z t n m] (hn : n + m ≤ 50000) (h0 : Ret Tryz.prog .shared 37 [.agg (eB b),.agg (eSol a F)] (I 0)) :
  Ret Tryz.prog .shared 47 [.agg (eB b),.agg (eSol a F),.agg (eLd w)] (match stepQ b z t w with
  |none => (⟨zA,9⟩ : TQ)
  |some d => ⟨⟨ofQ (z + d.1),ofQ (t + d.2)⟩,0⟩).pv := by
 obtain ⟨g1,g2,g3,g4⟩ := badL_no hw
 have hm : i64 w.m := ⟨by omega,by omega⟩
 have hx : i64 w.x := ⟨by omega,by omega⟩
 have zm : Zb w.m := zb_i64 hm.1 hm.2
 have zx : Zb w.x := zb_i64 hx.1 hx.2
 have hfar := far_ret w.x
 rw [decide_eq_false (show ¬ (w.x < -1000000 ∨ 1000000 < w.x) by omega)] at hfar
 have hri := right_ret a
 have hst := stiffR_ret b hb a (z := z) (t := t) (by omega)
 have w1 := wholeF w.m hm
 have w2 := wholeF w.x hx
 have e1 := mulR (ofQ (w.m : Rat)) (ofQ (w.x : Rat)) (by decide) (by decide)
 have vm : Vq (ofQ (w.m : Rat)) (w.m : Rat) 1000 := vq_mono (Vq.ofQ (h := HQ.int (z := w.m))) (by decide)
 have vmx : Vq (ofQ ((w.m : Rat) * (w.x : Rat))) ((w.m : Rat) * (w.x : Rat)) 1000 := vq_mono (Vq.ofQ (h := @HQ.mul _ _ 4 4 HQ.int HQ.int)) (by decide)
 have hmv := moved_ret _ _ _ _ _ (a := 300) (b := 1000) (Vq.ofQ (h := Kh_hq hb ((bd b).pR z t))) (Vq.ofQ (h := Kc_hq hb ((bd b).pR z t))) (Vq.ofQ (h := Kp_hq hb ((bd b).pR z t))) vm vmx (by decide) (by decide)
 rw [show Bd.newt ((bd b).Kh ((bd b).pR z t)) ((bd b).Kc ((bd b).pR z t)) ((bd b).Kp ((bd b).pR z t)) (w.m : Rat) ((w.m : Rat) * (w.x : Rat)) = stepQ b z t w from rfl] at hmv
 have haf : ∀ d,stepQ b z t w = some d → Ret Tryz.prog .shared 128 [.agg (eA a),.agg (eA ⟨ofQ d.1,ofQ d.2⟩)] (.agg (eA ⟨ofQ (z + d.1),ofQ (t + d.2)⟩)) := fun d hd => by
  obtain ⟨k1,k2⟩ := step_hq hb hm hx hd
  exact after_ret a ⟨ofQ d.1,ofQ d.2⟩ (hd := ⟨Vq.ofQ (h := k1),Vq.ofQ (h := k2)⟩) (by omega) (by omega) (by decide) (by decide)
 rw [stR] at hst
 generalize ofQ ((bd b).Kh ((bd b).pR z t)) = R1 at *
 generalize ofQ ((bd b).Kc ((bd b).pR z t)) = R2 at *
 generalize ofQ ((bd b).Kp ((bd b).pR z t)) = R3 at *
 generalize ofQ ((w.m : Rat) * (w.x : Rat)) = MX at *
 generalize ofQ (w.m : Rat) = M0 at *
 generalize ofQ (w.x : Rat) = X0 at *
 generalize stepQ b z t w = st at *
 clear vm vmx
 cases st with
 |none =>
  simp only [movedR] at hmv
  refine Ret.weak (r' := .tup [.agg (zN ++ zN),I 9]) ?_ (WeakL.refl _) (WeakL.tup (.cons zA_weak.agg (WeakL.refl _)))
  obtain ⟨bw,ba,bl⟩ := b
  obtain ⟨az,at'⟩ := a
  obtain ⟨nm,m,x,z,f⟩ := w
  simp only at *
  refine Ret.of_pwp layOk mixed Go.Proofs.Tryz.func47 rfl (by decide) rfl rfl ?_
  repeat refine stq rfl ?_
  refine qst rfl rfl (q_cp rfl h0 rfl rfl rfl) ?_
  repeat refine stq rfl ?_
  (first|refine ps_split rfl rfl ?_ ?_|refine pq_split rfl rfl ?_ ?_|refine p3_split rfl rfl ?_ ?_)<;>intro h
  ·have := of_decide_eq_true h
   simp only at this
   omega
  clear h
  repeat refine stq rfl ?_
  (first|refine ps_split rfl rfl ?_ ?_|refine pq_split rfl rfl ?_ ?_|refine p3_split rfl rfl ?_ ?_)<;>intro h
  ·have := of_decide_eq_true h
   simp only at this
   omega
  clear h
  repeat refine stq rfl ?_
  refine qst rfl rfl (q_cp rfl hfar rfl rfl rfl) ?_
  repeat refine stq rfl ?_
  refine pw_draw3 [9] [20,21] (by decide +kernel) ?_
  repeat refine stq rfl ?_
  refine qst rfl rfl (q_cs rfl hri rfl rfl) ?_
  repeat refine stq rfl ?_
  refine qst rfl rfl (q_cs rfl hst rfl rfl) ?_
  repeat refine stq rfl ?_
  refine qst rfl rfl (q_cs rfl w1 rfl rfl) ?_
  repeat refine stq rfl ?_
  refine qst rfl rfl (q_cs rfl w1 rfl rfl) ?_
  repeat refine stq rfl ?_
  refine qst rfl rfl (q_cs rfl w2 rfl rfl) ?_
  repeat refine stq rfl ?_
  refine qst rfl rfl (q_cs rfl e1 rfl rfl) ?_
  repeat refine stq rfl ?_
  refine qst rfl rfl (q_cs rfl hmv rfl rfl) ?_
  repeat refine stq rfl ?_
  exact endm rfl (by repeat' constructor) rfl (by repeat' constructor) rfl
 |some d =>
  have haf := haf d rfl
  simp only [movedR] at hmv
  simp only [TQ.pv]
  generalize ofQ d.1 = D1 at *
  generalize ofQ d.2 = D2 at *
  generalize ofQ (z + d.1) = E1 at *
  generalize ofQ (t + d.2) = E2 at *
  obtain ⟨bw,ba,bl⟩ := b
  obtain ⟨az,at'⟩ := a
  obtain ⟨nm,m,x,z,f⟩ := w
  simp only at *
  refine Ret.of_pwp layOk mixed Go.Proofs.Tryz.func47 rfl (by decide) rfl rfl ?_
  repeat refine stq rfl ?_
  refine qst rfl rfl (q_cp rfl h0 rfl rfl rfl) ?_
  repeat refine stq rfl ?_
  (first|refine ps_split rfl rfl ?_ ?_|refine pq_split rfl rfl ?_ ?_|refine p3_split rfl rfl ?_ ?_)<;>intro h
  ·have := of_decide_eq_true h
   simp only at this
   omega
  clear h
  repeat refine stq rfl ?_
  (first|refine ps_split rfl rfl ?_ ?_|refine pq_split rfl rfl ?_ ?_|refine p3_split rfl rfl ?_ ?_)<;>intro h
  ·have := of_decide_eq_true h
   simp only at this
   omega
  clear h
  repeat refine stq rfl ?_
  refine qst rfl rfl (q_cp rfl hfar rfl rfl rfl) ?_
  repeat refine stq rfl ?_
  refine pw_draw3 [9] [20,21] (by decide +kernel) ?_
  repeat refine stq rfl ?_
  refine qst rfl rfl (q_cs rfl hri rfl rfl) ?_
  repeat refine stq rfl ?_
  refine qst rfl rfl (q_cs rfl hst rfl rfl) ?_
  repeat refine stq rfl ?_
  refine qst rfl rfl (q_cs rfl w1 rfl rfl) ?_
  repeat refine stq rfl ?_
  refine qst rfl rfl (q_cs rfl w1 rfl rfl) ?_
  repeat refine stq rfl ?_
  refine qst rfl rfl (q_cs rfl w2 rfl rfl) ?_
  repeat refine stq rfl ?_
  refine qst rfl rfl (q_cs rfl e1 rfl rfl) ?_
  repeat refine stq rfl ?_
  refine qst rfl rfl (q_cs rfl hmv rfl rfl) ?_
  repeat refine stq rfl ?_
  refine qst rfl rfl (q_cs rfl haf rfl rfl) ?_
  repeat refine stq rfl ?_
  exact endm rfl (by repeat' constructor) rfl (by repeat' constructor) rfl
theorem ptrim_ret (b : BR) (hb : b.Ok) (a : AR) (F : List RR) (w : LR) {z t : Rat} {n m k : Nat} [ha : Va a z t n m] (hn : n + m ≤ 50000) (hF : LeL F k) (hk : k ≤ 1000000) : Ret Tryz.prog .shared 47 [.agg (eB b),.agg (eSol a F),.agg (eLd w)] (trimQ b z t F w).pv := by
 have h0 := psol_ret b hb a F (z := z) (t := t) (by omega) hF hk
 rw [trimQ]
 by_cases h1 : solE b z t F = 0
 ·rw [if_pos h1]
  rw [h1] at h0
  by_cases h2 : badL w = true
  ·rw [if_pos h2]
   exact ptrim_bad b a F w h2 h0
  ·rw [if_neg h2]
   exact ptrim_go b hb a F w (by simpa using h2) hn h0
 ·rw [if_neg h1]
  exact ptrim_err b a F w _ h1 h0
theorem ptrim_body (b : BR) (hb : b.Lim) (he : bodyE b ≠ 0) (a : AR) (F : List RR) (w : LR) : Ret Tryz.prog .shared 47 [.agg (eB b),.agg (eSol a F),.agg (eLd w)] (.tup [.agg (eA zA),I (bodyE b)]) :=
 ptrim_err b a F w _ he (psol_err b hb he a F)
end Go.Pv


set_option maxHeartbeats 2000000
namespace Go.Pv
attribute [local irreducible] PWP POps PQuiet PSem XThen XBlock RetPost InlPost
open Go.Proofs
set_option maxRecDepth 20000 in
theorem rtrim_err (b : BR) (a : AR) (F : List RR) (w : LR) (e : Int) (he : e ≠ 0) (h0 : Ret Tryz.prog .shared 40 [.agg (eB b),.agg (eSol a F)] (I e)) : Ret Tryz.prog .shared 49 [.agg (eB b),.agg (eSol a F),.agg (eLd w)] (.tup [.agg (eA zA),I e]) := by
 refine Ret.weak (r' := .tup [.agg (zN ++ zN),I e]) ?_ (WeakL.refl _) (WeakL.tup (.cons zA_weak.agg (WeakL.refl _)))
 obtain ⟨az,at'⟩ := a
 obtain ⟨nm,m,x,z,f⟩ := w
 refine Ret.of_pwp layOk mixed Go.Proofs.Tryz.func49 rfl (by decide) rfl rfl ?_
 repeat refine stq rfl ?_
 refine qst rfl rfl (q_cp rfl h0 rfl rfl rfl) ?_
 repeat refine stq rfl ?_
 refine pw_cond rfl (fun h => ?_) (fun h => ?_)
 ·clear h
  repeat refine stq rfl ?_
  exact endm rfl (by repeat' constructor) rfl (by repeat' constructor) rfl
 ·exfalso
  simp at h
  exact he h
set_option maxRecDepth 20000 in
theorem rtrim_bad (b : BR) (a : AR) (F : List RR) (w : LR) (hw : badL w = true) (h0 : Ret Tryz.prog .shared 40 [.agg (eB b),.agg (eSol a F)] (I 0)) : Ret Tryz.prog .shared 49 [.agg (eB b),.agg (eSol a F),.agg (eLd w)] (.tup [.agg (eA zA),I 2]) := by
 refine Ret.weak (r' := .tup [.agg (zN ++ zN),I 2]) ?_ (WeakL.refl _) (WeakL.tup (.cons zA_weak.agg (WeakL.refl _)))
 obtain ⟨az,at'⟩ := a
 obtain ⟨nm,m,x,z,f⟩ := w
 have hd := of_decide_eq_true hw
 simp only at hd
 by_cases h1 : m < 0
 ·refine Ret.of_pwp layOk mixed Go.Proofs.Tryz.func49 rfl (by decide) rfl rfl ?_
  repeat refine stq rfl ?_
  refine qst rfl rfl (q_cp rfl h0 rfl rfl rfl) ?_
  repeat refine stq rfl ?_
  (first|refine ps_split rfl rfl ?_ ?_|refine pq_split rfl rfl ?_ ?_|refine p3_split rfl rfl ?_ ?_)<;>intro h
  ·clear h
   repeat refine stq rfl ?_
   exact endm rfl (by repeat' constructor) rfl (by repeat' constructor) rfl
  ·exact absurd h1 (of_decide_eq_false h)
 ·by_cases h2 : 1000000000 < m
  ·refine Ret.of_pwp layOk mixed Go.Proofs.Tryz.func49 rfl (by decide) rfl rfl ?_
   repeat refine stq rfl ?_
   refine qst rfl rfl (q_cp rfl h0 rfl rfl rfl) ?_
   repeat refine stq rfl ?_
   (first|refine ps_split rfl rfl ?_ ?_|refine pq_split rfl rfl ?_ ?_|refine p3_split rfl rfl ?_ ?_)<;>intro h
   ·exact absurd (of_decide_eq_true h) h1
   clear h
   repeat refine stq rfl ?_
   (first|refine ps_split rfl rfl ?_ ?_|refine pq_split rfl rfl ?_ ?_|refine p3_split rfl rfl ?_ ?_)<;>intro h
   ·clear h
    repeat refine stq rfl ?_
    exact endm rfl (by repeat' constructor) rfl (by repeat' constructor) rfl
   ·exact absurd h2 (of_decide_eq_false h)
  ·by_cases h3 : x < -1000000
   ·refine Ret.of_pwp layOk mixed Go.Proofs.Tryz.func49 rfl (by decide) rfl rfl ?_
    repeat refine stq rfl ?_
    refine qst rfl rfl (q_cp rfl h0 rfl rfl rfl) ?_
    repeat refine stq rfl ?_
    (first|refine ps_split rfl rfl ?_ ?_|refine pq_split rfl rfl ?_ ?_|refine p3_split rfl rfl ?_ ?_)<;>intro h
    ·exact absurd (of_decide_eq_true h) h1
    clear h
    repeat refine stq rfl ?_
    (first|refine ps_split rfl rfl ?_ ?_|refine pq_split rfl rfl ?_ ?_|refine p3_split rfl rfl ?_ ?_)<;>intro h
    ·exact absurd (of_decide_eq_true h) h2
    clear h
    repeat refine stq rfl ?_
    (first|refine ps_split rfl rfl ?_ ?_|refine pq_split rfl rfl ?_ ?_|refine p3_split rfl rfl ?_ ?_)<;>intro h
    ·clear h
     repeat refine stq rfl ?_
     exact endm rfl (by repeat' constructor) rfl (by repeat' constructor) rfl
    ·exact absurd h3 (of_decide_eq_false h)
   ·refine Ret.of_pwp layOk mixed Go.Proofs.Tryz.func49 rfl (by decide) rfl rfl ?_
    repeat refine stq rfl ?_
    refine qst rfl rfl (q_cp rfl h0 rfl rfl rfl) ?_
    repeat refine stq rfl ?_
    (first|refine ps_split rfl rfl ?_ ?_|refine pq_split rfl rfl ?_ ?_|refine p3_split rfl rfl ?_ ?_)<;>intro h
    ·exact absurd (of_decide_eq_true h) h1
    clear h
    repeat refine stq rfl ?_
    (first|refine ps_split rfl rfl ?_ ?_|refine pq_split rfl rfl ?_ ?_|refine p3_split rfl rfl ?_ ?_)<;>intro h
    ·exact absurd (of_decide_eq_true h) h2
    clear h
    repeat refine stq rfl ?_
    (first|refine ps_split rfl rfl ?_ ?_|refine pq_split rfl rfl ?_ ?_|refine p3_split rfl rfl ?_ ?_)<;>intro h
    ·exact absurd (of_decide_eq_true h) h3
    clear h
    repeat refine stq rfl ?_
    refine pw_cond rfl (fun h => ?_) (fun h => ?_)
    ·clear h
     repeat refine stq rfl ?_
     exact endm rfl (by repeat' constructor) rfl (by repeat' constructor) rfl
    ·have := of_decide_eq_false h
     simp only at this
     omega
set_option maxRecDepth 20000 in
theorem rtrim_go (b : BR) (hb : b.Ok) (a : AR) (F : List RR) (w : LR) (hw : badL w = false) {z t : Rat} {n m : Nat} [ha : Va a z t n m] (hn : n + m ≤ 50000) (h0 : Ret Tryz.prog .shared 40 [.agg (eB b),.agg (eSol a F)] (I 0)) :
  Ret Tryz.prog .shared 49 [.agg (eB b),.agg (eSol a F),.agg (eLd w)] (match stepQ b z t w with
  |none => (⟨zA,9⟩ : TQ)
  |some d => ⟨⟨ofQ (z + d.1),ofQ (t + d.2)⟩,0⟩).pv := by
 obtain ⟨g1,g2,g3,g4⟩ := badL_no hw
 have hm : i64 w.m := ⟨by omega,by omega⟩
 have hx : i64 w.x := ⟨by omega,by omega⟩
 have zm : Zb w.m := zb_i64 hm.1 hm.2
 have zx : Zb w.x := zb_i64 hx.1 hx.2
 have hst := rstiff_ret b.l hb.lim.l hb.few hb.chkL a (z := z) (t := t) (by omega)
 rw [show sumN (kI b.l z t) b.l.length = (bd b).Kh ((bd b).pR z t) from rfl,show sumN (fun i => kI b.l z t i * xI b.l i) b.l.length = (bd b).Kc ((bd b).pR z t) from rfl,show sumN (fun i => kI b.l z t i * xI b.l i * xI b.l i) b.l.length = (bd b).Kp ((bd b).pR z t) from rfl] at hst
 have w1 := bW_ret w.m hm
 have w2 := bW_ret w.x hx
 have e1 := ti_ret (ofQ (w.m : Rat)) (ofQ (w.x : Rat)) (by decide) (by decide)
 have vm : Vq (ofQ (w.m : Rat)) (w.m : Rat) 1000 := vq_mono (Vq.ofQ (h := HQ.int (z := w.m))) (by decide)
 have vmx : Vq (ofQ ((w.m : Rat) * (w.x : Rat))) ((w.m : Rat) * (w.x : Rat)) 1000 := vq_mono (Vq.ofQ (h := @HQ.mul _ _ 4 4 HQ.int HQ.int)) (by decide)
 have v1 : Vq (ofQ ((bd b).Kh ((bd b).pR z t))) ((bd b).Kh ((bd b).pR z t)) 1000 := vq_mono (Vq.ofQ (h := Kh_hq hb ((bd b).pR z t))) (by decide)
 have v2 : Vq (ofQ ((bd b).Kc ((bd b).pR z t))) ((bd b).Kc ((bd b).pR z t)) 1000 := vq_mono (Vq.ofQ (h := Kc_hq hb ((bd b).pR z t))) (by decide)
 have v3 : Vq (ofQ ((bd b).Kp ((bd b).pR z t))) ((bd b).Kp ((bd b).pR z t)) 1000 := vq_mono (Vq.ofQ (h := Kp_hq hb ((bd b).pR z t))) (by decide)
 have hmv := rmeet_ret _ _ _ _ _ _ v1 v2 vm v2 v3 vmx (by decide)
 rw [meet_newt,show Bd.newt ((bd b).Kh ((bd b).pR z t)) ((bd b).Kc ((bd b).pR z t)) ((bd b).Kp ((bd b).pR z t)) (w.m : Rat) ((w.m : Rat) * (w.x : Rat)) = stepQ b z t w from rfl] at hmv
 have haf : ∀ d,stepQ b z t w = some d → Ret Tryz.prog .shared 108 [.agg (eR a.z),.agg (eR (ofQ d.1))] (.agg (eR (ofQ (z + d.1)))) ∧ Ret Tryz.prog .shared 108 [.agg (eR a.t),.agg (eR (ofQ d.2))] (.agg (eR (ofQ (t + d.2)))) := fun d hd => by
  obtain ⟨k1,k2⟩ := step_hq hb hm hx hd
  exact ⟨pl_ret a.z (ofQ d.1) (hx := ha.z) (hy := Vq.ofQ (h := k1)) (by omega) (by decide),pl_ret a.t (ofQ d.2) (hx := ha.t) (hy := Vq.ofQ (h := k2)) (by omega) (by decide)⟩
 generalize ofQ ((bd b).Kh ((bd b).pR z t)) = R1 at *
 generalize ofQ ((bd b).Kc ((bd b).pR z t)) = R2 at *
 generalize ofQ ((bd b).Kp ((bd b).pR z t)) = R3 at *
 generalize ofQ ((w.m : Rat) * (w.x : Rat)) = MX at *
 generalize ofQ (w.m : Rat) = M0 at *
 generalize ofQ (w.x : Rat) = X0 at *
 generalize stepQ b z t w = st at *
 clear vm vmx v1 v2 v3
 cases st with
 |none =>
  simp only [movedR] at hmv
  refine Ret.weak (r' := .tup [.agg (zN ++ zN),I 9]) ?_ (WeakL.refl _) (WeakL.tup (.cons zA_weak.agg (WeakL.refl _)))
  obtain ⟨bw,ba,bl⟩ := b
  obtain ⟨az,at'⟩ := a
  obtain ⟨nm,m,x,z,f⟩ := w
  simp only at *
  refine Ret.of_pwp layOk mixed Go.Proofs.Tryz.func49 rfl (by decide) rfl rfl ?_
  repeat refine stq rfl ?_
  refine qst rfl rfl (q_cp rfl h0 rfl rfl rfl) ?_
  repeat refine stq rfl ?_
  (first|refine ps_split rfl rfl ?_ ?_|refine pq_split rfl rfl ?_ ?_|refine p3_split rfl rfl ?_ ?_)<;>intro h
  ·have := of_decide_eq_true h
   simp only at this
   omega
  clear h
  repeat refine stq rfl ?_
  (first|refine ps_split rfl rfl ?_ ?_|refine pq_split rfl rfl ?_ ?_|refine p3_split rfl rfl ?_ ?_)<;>intro h
  ·have := of_decide_eq_true h
   simp only at this
   omega
  clear h
  repeat refine stq rfl ?_
  (first|refine ps_split rfl rfl ?_ ?_|refine pq_split rfl rfl ?_ ?_|refine p3_split rfl rfl ?_ ?_)<;>intro h
  ·have := of_decide_eq_true h
   simp only at this
   omega
  clear h
  repeat refine stq rfl ?_
  refine pw_cond rfl (fun h => ?_) (fun h => ?_)
  ·have := of_decide_eq_true h
   simp only at this
   omega
  clear h
  repeat refine stq rfl ?_
  refine qst rfl rfl (q_cs rfl hst rfl rfl) ?_
  repeat refine stq rfl ?_
  refine qst rfl rfl (q_cs rfl w1 rfl rfl) ?_
  repeat refine stq rfl ?_
  refine pw_draw3 [11] [20,21] (by decide +kernel) ?_
  repeat refine stq rfl ?_
  refine qst rfl rfl (q_cs rfl w2 rfl rfl) ?_
  repeat refine stq rfl ?_
  refine qst rfl rfl (q_cs rfl e1 rfl rfl) ?_
  repeat refine stq rfl ?_
  refine qst rfl rfl (q_cs rfl hmv rfl rfl) ?_
  repeat refine stq rfl ?_
  exact endm rfl (by repeat' constructor) rfl (by repeat' constructor) rfl
 |some d =>
  obtain ⟨p1,p2⟩ := haf d rfl
  simp only [movedR] at hmv
  simp only [TQ.pv]
  generalize ofQ d.1 = D1 at *
  generalize ofQ d.2 = D2 at *
  generalize ofQ (z + d.1) = E1 at *
  generalize ofQ (t + d.2) = E2 at *
  obtain ⟨bw,ba,bl⟩ := b
  obtain ⟨az,at'⟩ := a
  obtain ⟨nm,m,x,z,f⟩ := w
  simp only at *
  refine Ret.of_pwp layOk mixed Go.Proofs.Tryz.func49 rfl (by decide) rfl rfl ?_
  repeat refine stq rfl ?_
  refine qst rfl rfl (q_cp rfl h0 rfl rfl rfl) ?_
  repeat refine stq rfl ?_
  (first|refine ps_split rfl rfl ?_ ?_|refine pq_split rfl rfl ?_ ?_|refine p3_split rfl rfl ?_ ?_)<;>intro h
  ·have := of_decide_eq_true h
   simp only at this
   omega
  clear h
  repeat refine stq rfl ?_
  (first|refine ps_split rfl rfl ?_ ?_|refine pq_split rfl rfl ?_ ?_|refine p3_split rfl rfl ?_ ?_)<;>intro h
  ·have := of_decide_eq_true h
   simp only at this
   omega
  clear h
  repeat refine stq rfl ?_
  (first|refine ps_split rfl rfl ?_ ?_|refine pq_split rfl rfl ?_ ?_|refine p3_split rfl rfl ?_ ?_)<;>intro h
  ·have := of_decide_eq_true h
   simp only at this
   omega
  clear h
  repeat refine stq rfl ?_
  refine pw_cond rfl (fun h => ?_) (fun h => ?_)
  ·have := of_decide_eq_true h
   simp only at this
   omega
  clear h
  repeat refine stq rfl ?_
  refine qst rfl rfl (q_cs rfl hst rfl rfl) ?_
  repeat refine stq rfl ?_
  refine qst rfl rfl (q_cs rfl w1 rfl rfl) ?_
  repeat refine stq rfl ?_
  refine pw_draw3 [11] [20,21] (by decide +kernel) ?_
  repeat refine stq rfl ?_
  refine qst rfl rfl (q_cs rfl w2 rfl rfl) ?_
  repeat refine stq rfl ?_
  refine qst rfl rfl (q_cs rfl e1 rfl rfl) ?_
  repeat refine stq rfl ?_
  refine qst rfl rfl (q_cs rfl hmv rfl rfl) ?_
  repeat refine stq rfl ?_
  refine pw_draw 13 [70,71,72,73,74,75,76,77,78,79,80,81,82] (by decide +kernel) ?_
  repeat refine stq rfl ?_
  refine qst rfl rfl (q_cs rfl p1 rfl rfl) ?_
  repeat refine stq rfl ?_
  refine qst rfl rfl (q_cs rfl p2 rfl rfl) ?_
  repeat refine stq rfl ?_
  exact endm rfl (by repeat' constructor) rfl (by repeat' constructor) rfl
theorem rtrimmed_ret (b : BR) (hb : b.Ok) (a : AR) (F : List RR) (w : LR) {z t : Rat} {n m k : Nat} [ha : Va a z t n m] (hn : n + m ≤ 50000) (hF : LeL F k) (hk : k ≤ 1000000) (hFl : F.length ≤ 9223372036854775807) : Ret Tryz.prog .shared 49 [.agg (eB b),.agg (eSol a F),.agg (eLd w)] (trimQ b z t F w).pv := by
 have h0 := rsol_ret b hb a F (z := z) (t := t) (by omega) hF hk hFl
 rw [trimQ]
 by_cases h1 : solE b z t F = 0
 ·rw [if_pos h1]
  rw [h1] at h0
  by_cases h2 : badL w = true
  ·rw [if_pos h2]
   exact rtrim_bad b a F w h2 h0
  ·rw [if_neg h2]
   exact rtrim_go b hb a F w (by simpa using h2) hn h0
 ·rw [if_neg h1]
  exact rtrim_err b a F w _ h1 h0
end Go.Pv


set_option maxHeartbeats 2000000
namespace Go.Pv
attribute [local irreducible] PWP POps PQuiet PSem XThen XBlock RetPost InlPost
open Go.Proofs
theorem dec_Ld {c : PV} (h : argW lay.get 79 c) : ∃ w : LR,c = .agg (eLd w) := by
 obtain ⟨cs,rfl,h⟩ : ∃ cs,c = .agg cs ∧ tyP lay.get 12 79 cs := h
 obtain ⟨parts,rfl,hl,hp⟩ := tyP_st h rfl
 match parts,hl,hp with
 |[p0,p1,p2,p3,p4],_,hp =>
  obtain ⟨a0,rfl⟩ := tyP_str (hp 0 _ p0 rfl rfl) rfl
  obtain ⟨a1,rfl⟩ := tyP_int (hp 1 _ p1 rfl rfl) rfl
  obtain ⟨a2,rfl⟩ := tyP_int (hp 2 _ p2 rfl rfl) rfl
  obtain ⟨a3,rfl⟩ := tyP_int (hp 3 _ p3 rfl rfl) rfl
  obtain ⟨a4,rfl⟩ := tyP_int (hp 4 _ p4 rfl rfl) rfl
  exact ⟨⟨a0,a1,a2,a3,a4⟩,rfl⟩
theorem same_zeroA : Ret Tryz.prog .shared 48 [.agg (eA zA),.agg (zN ++ zN)] (.bool true) :=
 (sameA_ret zA ⟨Nat.zero_le _,Nat.zero_le _⟩ ⟨Nat.zero_le _,Nat.zero_le _⟩).weak (.cons (.rfl _) (.cons zA_weak.agg .nil)) (.rfl _)
theorem trim_le {b : BR} (hb : b.Ok) {z t : Rat} {F : List RR} {w : LR} {n m : Nat} (hz : HQ z n) (ht : HQ t m) (hn : n + m ≤ 60000) : (trimQ b z t F w).a.z.le 1000000000 ∧ (trimQ b z t F w).a.t.le 1000000000 := by
 have z0 : zA.z.le 1000000000 ∧ zA.t.le 1000000000 := ⟨⟨Nat.zero_le _,Nat.zero_le _⟩,⟨Nat.zero_le _,Nat.zero_le _⟩⟩
 rw [trimQ]
 split
 ·split
  ·exact z0
  ·rename_i h2
   obtain ⟨g1,g2,g3,g4⟩ := badL_no (w := w) (by simpa using h2)
   split
   ·exact z0
   ·rename_i d hd
    obtain ⟨k1,k2⟩ := step_hq hb ⟨by omega,by omega⟩ ⟨by omega,by omega⟩ hd
    have l1 := hq_len (@HQ.add _ _ _ _ hz k1).ok
    have l2 := hq_len (@HQ.add _ _ _ _ ht k2).ok
    exact ⟨⟨by simp only;omega,by simp only;omega⟩,⟨by simp only;omega,by simp only;omega⟩⟩
 ·exact z0
set_option maxRecDepth 20000 in
theorem trims_law (b : BR) (hb : ArgB b) (a : AR) (F : List RR) (hFl : F.length ≤ 9223372036854775807) (w : LR) : Ret Tryz.prog .shared 10 [.agg (eB b),.agg (eSol a F),.agg (eLd w)] (.bool true) := by
 have aw := awake_ret
 have h1 := many_ret b hb.len
 have h2 := brief_ret a
 have h3 := shortAll_ret F 12 (by decide) hFl
 have hmF : (F.map eR).length = F.length := by simp
 by_cases x1 : manyB b = true
 rotate_left
 ·rw [Bool.not_eq_true] at x1
  rw [x1] at h1
  obtain ⟨az,at'⟩ := a
  refine Ret.of_pwp layOk mixed Go.Proofs.Tryz.func10 rfl (by decide) rfl rfl ?_
  repeat refine stq rfl ?_
  refine qst rfl rfl (q_cp rfl aw rfl rfl rfl) ?_
  repeat refine stq rfl ?_
  refine qst rfl rfl (q_cp rfl h1 rfl rfl rfl) ?_
  repeat refine stq rfl ?_
  exact end1b rfl rfl rfl
 rw [x1] at h1
 by_cases x2 : briefB a = true
 rotate_left
 ·rw [Bool.not_eq_true] at x2
  rw [x2] at h2
  obtain ⟨az,at'⟩ := a
  refine Ret.of_pwp layOk mixed Go.Proofs.Tryz.func10 rfl (by decide) rfl rfl ?_
  repeat refine stq rfl ?_
  refine qst rfl rfl (q_cp rfl aw rfl rfl rfl) ?_
  repeat refine stq rfl ?_
  refine qst rfl rfl (q_cp rfl h1 rfl rfl rfl) ?_
  repeat refine stq rfl ?_
  refine qst rfl rfl (q_cp rfl h2 rfl rfl rfl) ?_
  repeat refine stq rfl ?_
  exact end1b rfl rfl rfl
 rw [x2] at h2
 by_cases x3 : 20 < F.length
 ·obtain ⟨az,at'⟩ := a
  refine Ret.of_pwp layOk mixed Go.Proofs.Tryz.func10 rfl (by decide) rfl rfl ?_
  repeat refine stq rfl ?_
  refine qst rfl rfl (q_cp rfl aw rfl rfl rfl) ?_
  repeat refine stq rfl ?_
  refine qst rfl rfl (q_cp rfl h1 rfl rfl rfl) ?_
  repeat refine stq rfl ?_
  refine qst rfl rfl (q_cp rfl h2 rfl rfl rfl) ?_
  repeat refine stq rfl ?_
  (first|refine ps_split rfl rfl ?_ ?_|refine pq_split rfl rfl ?_ ?_|refine p3_split rfl rfl ?_ ?_)<;>intro h
  ·clear h
   repeat refine stq rfl ?_
   exact end1b rfl rfl rfl
  ·exfalso
   have := of_decide_eq_false h
   simp only [hmF] at this
   omega
 by_cases x4 : (F.all fun x => shR x 12) = true
 rotate_left
 ·rw [Bool.not_eq_true] at x4
  rw [x4] at h3
  obtain ⟨az,at'⟩ := a
  refine Ret.of_pwp layOk mixed Go.Proofs.Tryz.func10 rfl (by decide) rfl rfl ?_
  repeat refine stq rfl ?_
  refine qst rfl rfl (q_cp rfl aw rfl rfl rfl) ?_
  repeat refine stq rfl ?_
  refine qst rfl rfl (q_cp rfl h1 rfl rfl rfl) ?_
  repeat refine stq rfl ?_
  refine qst rfl rfl (q_cp rfl h2 rfl rfl rfl) ?_
  repeat refine stq rfl ?_
  (first|refine ps_split rfl rfl ?_ ?_|refine pq_split rfl rfl ?_ ?_|refine p3_split rfl rfl ?_ ?_)<;>intro h
  ·exfalso
   have := of_decide_eq_true h
   simp only [hmF] at this
   omega
  clear h
  repeat refine stq rfl ?_
  refine qst rfl rfl (q_cp rfl h3 rfl rfl rfl) ?_
  repeat refine stq rfl ?_
  exact end1b rfl rfl rfl
 rw [x4] at h3
 obtain ⟨hlim,hgood⟩ := many_good hb x1
 have va := brief_va x2
 have hLe := shAll_le x4
 have c0 := rbody_ret b hlim
 by_cases x7 : bodyE b = 0
 rotate_left
 ·have p1 := ptrim_body b hlim x7 a F w
  have sz := same_zeroA
  clear hgood va hLe
  generalize bodyE b = e at *
  obtain ⟨az,at'⟩ := a
  refine Ret.of_pwp layOk mixed Go.Proofs.Tryz.func10 rfl (by decide) rfl rfl ?_
  repeat refine stq rfl ?_
  refine qst rfl rfl (q_cp rfl aw rfl rfl rfl) ?_
  repeat refine stq rfl ?_
  refine qst rfl rfl (q_cp rfl h1 rfl rfl rfl) ?_
  repeat refine stq rfl ?_
  refine qst rfl rfl (q_cp rfl h2 rfl rfl rfl) ?_
  repeat refine stq rfl ?_
  (first|refine ps_split rfl rfl ?_ ?_|refine pq_split rfl rfl ?_ ?_|refine p3_split rfl rfl ?_ ?_)<;>intro h
  ·exfalso
   have := of_decide_eq_true h
   simp only [hmF] at this
   omega
  clear h
  repeat refine stq rfl ?_
  refine qst rfl rfl (q_cp rfl h3 rfl rfl rfl) ?_
  repeat refine stq rfl ?_
  refine qst rfl rfl (q_cs rfl p1 rfl rfl) ?_
  repeat refine stq rfl ?_
  refine qst rfl rfl (q_cp rfl c0 rfl rfl rfl) ?_
  repeat refine stq rfl ?_
  refine pw_cond rfl (fun h => ?_) (fun h => ?_)
  ·clear h
   repeat refine stq rfl ?_
   (first|refine ps_split rfl rfl ?_ ?_|refine pq_split rfl rfl ?_ ?_|refine p3_split rfl rfl ?_ ?_)<;>intro h
   ·clear h
    repeat refine stq rfl ?_
    refine qst rfl rfl (q_cp rfl sz rfl rfl rfl) ?_
    repeat refine stq rfl ?_
    exact end1b rfl rfl rfl
   ·simp at h
  ·exfalso
   simp at h
   exact x7 h
 obtain ⟨hok,hsz⟩ := hgood x7
 rw [x7] at c0
 have p1 := ptrim_ret b hok a F w (ha := va) (by decide) hLe (by decide)
 have q1 := rtrimmed_ret b hok a F w (ha := va) (by decide) hLe (by decide) hFl
 have hle := trim_le hok (F := F) (w := w) va.z.hq va.t.hq (by decide)
 generalize trimQ b a.z.val a.t.val F w = T at *
 clear hgood va hLe hok hsz hlim
 have s1 := sameA_ret T.a hle.1 hle.2
 obtain ⟨Ta,Te⟩ := T
 simp only [TQ.pv] at *
 obtain ⟨az,at'⟩ := a
 refine Ret.of_pwp layOk mixed Go.Proofs.Tryz.func10 rfl (by decide) rfl rfl ?_
 repeat refine stq rfl ?_
 refine qst rfl rfl (q_cp rfl aw rfl rfl rfl) ?_
 repeat refine stq rfl ?_
 refine qst rfl rfl (q_cp rfl h1 rfl rfl rfl) ?_
 repeat refine stq rfl ?_
 refine qst rfl rfl (q_cp rfl h2 rfl rfl rfl) ?_
 repeat refine stq rfl ?_
 (first|refine ps_split rfl rfl ?_ ?_|refine pq_split rfl rfl ?_ ?_|refine p3_split rfl rfl ?_ ?_)<;>intro h
 ·exfalso
  have := of_decide_eq_true h
  simp only [hmF] at this
  omega
 clear h
 repeat refine stq rfl ?_
 refine qst rfl rfl (q_cp rfl h3 rfl rfl rfl) ?_
 repeat refine stq rfl ?_
 refine qst rfl rfl (q_cs rfl p1 rfl rfl) ?_
 repeat refine stq rfl ?_
 refine qst rfl rfl (q_cp rfl c0 rfl rfl rfl) ?_
 repeat refine stq rfl ?_
 refine qst rfl rfl (q_cs rfl q1 rfl rfl) ?_
 repeat refine stq rfl ?_
 refine qst rfl rfl (q_cp rfl s1 rfl rfl rfl) ?_
 repeat refine stq rfl ?_
 exact end1b rfl rfl (by simp)
end Go.Pv

