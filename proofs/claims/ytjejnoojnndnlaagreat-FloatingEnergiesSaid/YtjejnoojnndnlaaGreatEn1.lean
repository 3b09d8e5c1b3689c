/- Texts of one hand, gathered: FsF, FsG, FsH, FtB, FsI, FtC, FsJ, FsK, FtD. -/
import Derived.Test.YtjejnoojnndnlaaGreatBa5
set_option linter.unusedSectionVars false
set_option linter.unusedSimpArgs false
set_option linter.unusedVariables false
set_option linter.unnecessarySimpa false
set_option maxHeartbeats 2000000
namespace Go.Pv
attribute [local irreducible] PWP POps PQuiet PSem XThen XBlock RetPost InlPost
open Go.Proofs
theorem pl_ret (x y : RR) {p q : Rat} {n m : Nat} [hx : Vq x p n] [hy : Vq y q m] (hn : n ≤ 20000000) (hm : m ≤ 20000000) : Ret Tryz.prog .shared 108 [.agg (eR x),.agg (eR y)] (.agg (eR (ofQ (p + q)))) := by
 have h := raddR_ret x y hn hm
 generalize ofQ (p + q) = X at *
 refine Ret.of_pwp layOk mixed Go.Proofs.Tryz.func108 rfl (by decide) rfl rfl ?_
 repeat refine stq rfl ?_
 refine qst rfl rfl (q_cs rfl h rfl rfl) ?_
 repeat refine stq rfl ?_
 exact endm rfl (by repeat' constructor) rfl (by repeat' constructor) rfl
theorem ti_ret (x y : RR) {p q : Rat} {n m : Nat} [hx : Vq x p n] [hy : Vq y q m] (hn : n ≤ 20000000) (hm : m ≤ 20000000) : Ret Tryz.prog .shared 111 [.agg (eR x),.agg (eR y)] (.agg (eR (ofQ (p * q)))) := by
 have h := rmulR_ret x y hn hm
 generalize ofQ (p * q) = X at *
 refine Ret.of_pwp layOk mixed Go.Proofs.Tryz.func111 rfl (by decide) rfl rfl ?_
 repeat refine stq rfl ?_
 refine qst rfl rfl (q_cs rfl h rfl rfl) ?_
 repeat refine stq rfl ?_
 exact endm rfl (by repeat' constructor) rfl (by repeat' constructor) rfl
theorem ls_ret (x y : RR) {p q : Rat} {n m : Nat} [hx : Vq x p n] [hy : Vq y q m] (hn : n ≤ 10000000) (hm : m ≤ 10000000) : Ret Tryz.prog .shared 112 [.agg (eR x),.agg (eR y)] (.agg (eR (ofQ (p - q)))) := by
 have h := rsubR_ret x y hn hm
 generalize ofQ (p - q) = X at *
 refine Ret.of_pwp layOk mixed Go.Proofs.Tryz.func112 rfl (by decide) rfl rfl ?_
 repeat refine stq rfl ?_
 refine qst rfl rfl (q_cs rfl h rfl rfl) ?_
 repeat refine stq rfl ?_
 exact endm rfl (by repeat' constructor) rfl (by repeat' constructor) rfl
theorem by_ret (x y : RR) {p q : Rat} {n m : Nat} [hx : Vq x p n] [hy : Vq y q m] (hn : n ≤ 20000000) (hm : m ≤ 20000000) (h0 : q ≠ 0) : Ret Tryz.prog .shared 138 [.agg (eR x),.agg (eR y)] (.agg (eR (ofQ (p / q)))) := by
 have h := rquoR_ret x y hn hm h0
 generalize ofQ (p / q) = X at *
 refine Ret.of_pwp layOk mixed Go.Proofs.Tryz.func138 rfl (by decide) rfl rfl ?_
 repeat refine stq rfl ?_
 refine qst rfl rfl (q_cs rfl h rfl rfl) ?_
 repeat refine stq rfl ?_
 exact endm rfl (by repeat' constructor) rfl (by repeat' constructor) rfl
theorem w0_ret : Ret Tryz.prog .shared 25 [I 0] (.agg (eR (ofQ 0))) := by
 have := bW_ret 0 ⟨by decide,by decide⟩
 rwa [show (((0 : Int) : Rat)) = 0 from rfl] at this
theorem sg_ret (x : RR) {p : Rat} {n : Nat} [hx : Vq x p n] (hn : n ≤ 8000000) : Ret Tryz.prog .shared 117 [.agg (eR x)] (I (sgn p)) := by
 have h0 := w0_ret
 have hc := rcmpR_ret x (ofQ 0) (by omega) (by decide)
 rw [Rat.sub_eq_add_neg,Rat.neg_zero,Rat.add_zero] at hc
 generalize sgn p = g at *
 generalize ofQ 0 = Z at *
 refine Ret.of_pwp layOk mixed Go.Proofs.Tryz.func117 rfl (by decide) rfl rfl ?_
 repeat refine stq rfl ?_
 refine pw_draw 4 [3,4,5,2] (by decide +kernel) ?_
 repeat refine stq rfl ?_
 refine qst rfl rfl (q_cs rfl h0 rfl rfl) ?_
 repeat refine stq rfl ?_
 refine qst rfl rfl (q_cp rfl hc rfl rfl rfl) ?_
 repeat refine stq rfl ?_
 exact end1i rfl rfl rfl
theorem rimm_ret (s : SR) (hs : s.Lim) (a : AR) {z t : Rat} {n m : Nat} [ha : Va a z t n m] (hn : n ≤ 1000000) (hm : m ≤ 1000000) : Ret Tryz.prog .shared 110 [.agg (eS s),.agg (eA a)] (.agg (eR (ofQ (yQ s z t)))) := by
 have hx : Zb s.x := zb_i64 hs.x.1 hs.x.2
 have hw := bW_ret s.x hs.x
 have e1 := pl_ret s.c a.z (hx := hs.c.v) (hy := ha.z) (by decide) (by omega)
 have v1 : Vq (ofQ (s.c.val + z)) (s.c.val + z) (13 + (n + 1) + 1) := Vq.ofQ (h := @HQ.add _ _ 13 (n + 1) hs.c.v.hq ha.z.hq)
 have e2 := ti_ret a.t (ofQ (s.x : Rat)) (hx := ha.t) (by omega) (by decide)
 have v2 : Vq (ofQ (t * (s.x : Rat))) (t * (s.x : Rat)) (m + 1 + 4) := Vq.ofQ (h := @HQ.mul _ _ (m + 1) 4 ha.t.hq HQ.int)
 have e3 := pl_ret (ofQ (s.c.val + z)) (ofQ (t * (s.x : Rat))) (hx := v1) (hy := v2) (by omega) (by omega)
 rw [show s.c.val + z + t * (s.x : Rat) = yQ s z t by rw [yQ];grind] at e3
 generalize ofQ (yQ s z t) = X at *
 generalize ofQ (s.c.val + z) = X1 at *
 generalize ofQ (t * (s.x : Rat)) = X2 at *
 generalize ofQ (s.x : Rat) = X3 at *
 obtain ⟨x,c,k⟩ := s
 obtain ⟨az,at'⟩ := a
 simp only at *
 refine Ret.of_pwp layOk mixed Go.Proofs.Tryz.func110 rfl (by decide) rfl rfl ?_
 repeat refine stq rfl ?_
 refine pw_draw 12 [5,6,7,8,9,10,11,12,13,14,15,16] (by decide +kernel) ?_
 repeat refine stq rfl ?_
 refine qst rfl rfl (q_cs rfl e1 rfl rfl) ?_
 repeat refine stq rfl ?_
 refine qst rfl rfl (q_cs rfl hw rfl rfl) ?_
 repeat refine stq rfl ?_
 refine qst rfl rfl (q_cs rfl e2 rfl rfl) ?_
 repeat refine stq rfl ?_
 refine qst rfl rfl (q_cs rfl e3 rfl rfl) ?_
 repeat refine stq rfl ?_
 exact endm rfl (by repeat' constructor) rfl (by repeat' constructor) rfl
theorem s_hq {c : CR} (hc : c.Lim) (k : Nat) : HQ (c.s k) 4 := by
 have h := sI_zb hc k
 have z1 : Zb (c.S.getD k 0) := zb_i64 h.1 h.2
 exact HQ.int
theorem top_hq {c : CR} (hc : c.Lim) {p : Rat} {n N : Nat} (hp : HQ p n) (k : Nat) : HQ (topQ c.s N p k) (n + 4) := by
 rw [topQ]
 split
 ·rw [minQ]
  split
  ·exact (s_hq hc (k + 1)).mono (by omega)
  ·exact hp.mono (by omega)
 ·exact hp.mono (by omega)
theorem d_hq {c : CR} (hc : c.Lim) {p : Rat} {n N : Nat} (hp : HQ p n) (k : Nat) : HQ (topQ c.s N p k - c.s k) (n + 9) := (@HQ.sub _ _ _ _ (top_hq hc hp k) (s_hq hc k)).mono (by omega)
theorem m_hq {c : CR} (hc : c.Lim) (k : Nat) : HQ (c.m k) 13 := by
 rw [CR.m]
 by_cases hk : k < c.M.length
 ·exact ((hc.m _ (List.mem_of_getElem? (get_some (d := RR.zero) hk))).v).hq
 ·rw [List.getD_eq_getElem?_getD,List.getElem?_eq_none (by omega)]
  show HQ RR.zero.val 13
  rw [RR.zero_val];exact HQ.zero.mono (by decide)
theorem pos_hq {x : Rat} {n : Nat} (h : HQ x n) : HQ (posQ x) (n + 4) := by
 rw [posQ];split
 ·exact h.mono (by omega)
 ·exact HQ.zero.mono (by omega)
noncomputable def tpR (c : CR) (y : RR) (p : Rat) (N i : Nat) : RR := @ite _ (i + 1 < N ∧ c.s (i + 1) < p) (Classical.propDecidable _) (ofQ (c.s (i + 1))) y
theorem tpR_v {c : CR} (hc : c.Lim) {y : RR} {p : Rat} {N i n : Nat} [hy : Vq y p n] : Vq (tpR c y p N i) (topQ c.s N p i) (n + 8) := by
 rw [tpR,topQ]
 by_cases h1 : i + 1 < N
 ·rw [if_pos h1,minQ]
  by_cases h2 : c.s (i + 1) < p
  ·rw [if_pos ⟨h1,h2⟩,if_pos h2]
   exact vq_mono (Vq.ofQ (h := s_hq hc (i + 1))) (by omega)
  ·rw [if_neg (fun h => h2 h.2),if_neg h2]
   exact vq_mono hy (by omega)
 ·rw [if_neg (fun h => h1 h.1),if_neg h1]
  exact vq_mono hy (by omega)
end Go.Pv


set_option maxHeartbeats 2000000
namespace Go.Pv
attribute [local irreducible] PWP POps PQuiet PSem XThen XBlock RetPost InlPost
open Go.Proofs
def yI (l : List SR) (z t : Rat) (i : Nat) : Rat := yQ (l.getD i dS) z t
end Go.Pv


set_option maxHeartbeats 2000000
namespace Go.Pv
attribute [local irreducible] PWP POps PQuiet PSem XThen XBlock RetPost InlPost
open Go.Proofs
end Go.Pv


set_option maxHeartbeats 2000000
namespace Go.Pv
attribute [local irreducible] PWP POps PQuiet PSem XThen XBlock RetPost InlPost
open Go.Proofs
theorem brief_va {a : AR} (h : briefB a = true) : Va a a.z.val a.t.val 4 4 := by
 rw [briefB,Bool.and_eq_true,shR_sz,shR_sz] at h
 exact ⟨Vq.raw h.1.1 h.1.2,Vq.raw h.2.1 h.2.2⟩
end Go.Pv


set_option maxHeartbeats 2000000
namespace Go.Pv
attribute [local irreducible] PWP POps PQuiet PSem XThen XBlock RetPost InlPost
open Go.Proofs
end Go.Pv


set_option maxHeartbeats 2000000
namespace Go.Pv
attribute [local irreducible] PWP POps PQuiet PSem XThen XBlock RetPost InlPost
open Go.Proofs
theorem many_good {b : BR} (hb : ArgB b) (h : manyB b = true) : b.Lim ∧ (bodyE b = 0 → b.Ok ∧ (bd b).Sz) := by
 rw [manyB,Bool.and_eq_true,shR_sz,shL_iff] at h
 exact ⟨⟨hb.w,h.2.mono (by decide),short_limL hb.data h.1 (by decide) (by decide)⟩,fun hc => ⟨short_ok hb.w hb.data h.2 h.1 (by decide) (by decide) hc,short_sz hb.w hb.data h.2 h.1 (by decide) (by decide) hc⟩⟩
end Go.Pv


set_option maxHeartbeats 2000000
namespace Go.Pv
attribute [local irreducible] PWP POps PQuiet PSem XThen XBlock RetPost InlPost
open Go.Proofs
theorem pieceE_hq {c : CR} (hc : c.Lim) {p : Rat} {n N : Nat} (hp : HQ p n) (k : Nat) : HQ (pieceE N c.s c.m p k) (4 * n + 60) := by
 rw [← pieceE_eq]
 have hu : HQ (uQ N c.s p k) (n + 9 + 4) := pos_hq (d_hq hc hp k)
 exact (@HQ.mul _ _ _ _ (m_hq hc k) (@HQ.mul _ _ _ _ hu (@HQ.add _ _ _ _ (@HQ.div _ _ _ _ hu HQ.two) (@HQ.sub _ _ _ _ hp (top_hq hc hp k))))).mono (by omega)
set_option maxRecDepth 20000 in
theorem rarea_ret (c : CR) (hc : c.Lim) (h0 : curveE c = 0) (y : RR) {p : Rat} {n : Nat} [hy : Vq y p n] (hn : n ≤ 50000) : Ret Tryz.prog .shared 109 [.agg (eC c),.agg (eR y)] (.agg (eR (ofQ (enQ c.S.length c.s c.m p)))) := by
 obtain ⟨h40,hSM,-,hasc⟩ := curve_ok h0
 have w0 := w0_ret
 have hph := hy.hq
 rw [enQ]
 have hSm : (c.S.map eN).length = c.S.length := by simp
 have hB : ∀ i,i ≤ 40 → i * (4 * (n + 1) + 60 + 1) + 4 ≤ 9000000 := fun i hi => by have := Nat.mul_le_mul hi (Nat.le_refl (4 * (n + 1) + 60 + 1));omega
 have vs : ∀ i,Vq (ofQ (sumN (pieceE c.S.length c.s c.m p) i)) (sumN (pieceE c.S.length c.s c.m p) i) (i * (4 * (n + 1) + 60 + 1) + 4) := fun i => Vq.ofQ (h := sumN_hq i fun k _ => pieceE_hq hc hph k)
 generalize hN : c.S.length = N at *
 refine Ret.of_pwp layOk mixed Go.Proofs.Tryz.func109 rfl (by decide) rfl rfl ?_
 repeat refine stq rfl ?_
 refine qst rfl rfl (q_cs rfl w0 rfl rfl) ?_
 repeat refine stq rfl ?_
 refine pw_loop (fun i : Nat => i ≤ N) (fun i => [(2,.ptr 2 1 0 0),(3,.ptr 3 1 0 0),(4,.ptr 4 1 0 0),(5,.ptr 5 1 0 0),(6,I (i : Nat))])
  (fun i => [(2,1,⟨120,2,[eC c],2⟩),(3,1,⟨26,4,[eR y],2⟩),(4,1,⟨26,4,[zN],2⟩),(5,1,⟨26,4,[eR (ofQ (sumN (pieceE N c.s c.m p) i))],2⟩)]) (fun i => N - i) 0 (Nat.zero_le _) ⟨rfl,rfl,rfl,rfl,rfl,rfl,rfl,rfl,rfl,trivial⟩ ?_
 intro i s hi
 repeat refine stq rfl ?_
 refine pw_cond rfl (fun h => ?_) (fun h => ?_)
 ·have hlt : i < N := by have := of_decide_eq_true h;rw [hSm] at this;omega
  clear h
  have hx := get_some (l := c.S) (i := i) (d := 0) (by omega)
  have hmx := get_some (l := c.M) (i := i) (d := RR.zero) (by omega)
  have hxi := hc.s _ (List.mem_of_getElem? hx)
  have hmv := (hc.m _ (List.mem_of_getElem? hmx)).v
  have hw := bW_ret _ hxi
  have hnx : IntKind.i64.wrap (((i : Nat) : Int) + 1) = ((i + 1 : Nat) : Int) := by rw [wrap_i64 (by omega) (by omega)];omega
  (repeat ((fail_if_success (with_reducible refine pw_at 5 ?_));refine stx rfl ?_))
  iterate 6 refine stq rfl ?_
  refine pw_cut [(2,.ptr 2 1 0 0),(3,.ptr 3 1 0 0),(4,.ptr 4 1 0 0),(5,.ptr 5 1 0 0),(6,I (i : Nat)),(7,.ptr 7 ((s.own 7).1 + 1) 0 0)]
   [(2,1,⟨120,2,[eC c],2⟩),(3,1,⟨26,4,[eR y],2⟩),(4,1,⟨26,4,[zN],2⟩),(5,1,⟨26,4,[eR (ofQ (sumN (pieceE N c.s c.m p) i))],2⟩),(7,(s.own 7).1 + 1,⟨26,4,[eR (tpR c y p N i)],2⟩)] ?_ (fun s3 => ?_)
  ·by_cases h1 : i + 1 < N
   ·have hx1 := get_some (l := c.S) (i := i + 1) (d := 0) (by omega)
    have hw1 := bW_ret _ (hc.s _ (List.mem_of_getElem? hx1))
    have zb1 : Zb (c.S.getD (i + 1) 0) := zb_i64 (hc.s _ (List.mem_of_getElem? hx1)).1 (hc.s _ (List.mem_of_getElem? hx1)).2
    have hc1 := rcmpR_ret y (ofQ ((c.S.getD (i + 1) 0 : Int) : Rat)) (by omega) (by decide)
    have hg := sgn_gt (p - ((c.S.getD (i + 1) 0 : Int) : Rat))
    have htp : tpR c y p N i = if 0 < sgn (p - ((c.S.getD (i + 1) 0 : Int) : Rat)) then ofQ ((c.S.getD (i + 1) 0 : Int) : Rat) else y := by
     rw [tpR]
     by_cases hlt1 : c.s (i + 1) < p
     ·rw [if_pos ⟨h1,hlt1⟩,if_pos (hg.2 (by have : ((c.S.getD (i + 1) 0 : Int) : Rat) < p := hlt1;grind))];rfl
     ·rw [if_neg (fun h => hlt1 h.2),if_neg (fun h => hlt1 (by have := hg.1 h;show ((c.S.getD (i + 1) 0 : Int) : Rat) < p;grind))]
    rw [htp]
    clear hg htp
    generalize sgn (p - ((c.S.getD (i + 1) 0 : Int) : Rat)) = sg at *
    generalize hW1 : ofQ ((c.S.getD (i + 1) 0 : Int) : Rat) = W1 at *
    generalize c.S.getD (i + 1) 0 = x1 at *
    repeat refine stq rfl ?_
    refine pw_draw 18 [19,20,21,22,23,24,25,26,27,28,29,30,31,32,33,34,35,36] (by decide +kernel) ?_
    repeat refine stq rfl ?_
    rw [hnx]
    repeat refine stq rfl ?_
    (first|refine ps_split rfl rfl ?_ ?_|refine pq_split rfl rfl ?_ ?_|refine p3_split rfl rfl ?_ ?_)<;>intro h
    ·clear h
     repeat refine stq rfl ?_
     rw [hnx]
     refine qst rfl rfl (q_idxm rfl rfl rfl rfl rfl (by omega) hx1 rfl) ?_
     repeat refine stq rfl ?_
     refine qst rfl rfl (q_cs rfl hw1 rfl rfl) ?_
     repeat refine stq rfl ?_
     refine qst rfl rfl (q_cp rfl hc1 rfl rfl rfl) ?_
     repeat refine stq rfl ?_
     refine pw_cond rfl (fun h => ?_) (fun h => ?_)
     ·rw [if_pos (of_decide_eq_true h)]
      clear h
      repeat refine stq rfl ?_
      rw [hnx]
      refine qst rfl rfl (q_idxm rfl rfl rfl rfl rfl (by omega) hx1 rfl) ?_
      repeat refine stq rfl ?_
      refine qst rfl rfl (q_cs rfl hw1 rfl rfl) ?_
      repeat refine stq rfl ?_
      exact ⟨rfl,rfl,rfl,rfl,rfl,rfl,rfl,rfl,rfl,rfl,rfl,trivial⟩
     ·rw [if_neg (of_decide_eq_false h)]
      clear h
      repeat refine stq rfl ?_
      exact ⟨rfl,rfl,rfl,rfl,rfl,rfl,rfl,rfl,rfl,rfl,rfl,trivial⟩
    ·exfalso
     have := of_decide_eq_false h
     rw [hSm] at this
     omega
   ·have htp : tpR c y p N i = y := by rw [tpR,if_neg (fun h => h1 h.1)]
    rw [htp]
    clear htp
    repeat refine stq rfl ?_
    refine pw_draw 18 [19,20,21,22,23,24,25,26,27,28,29,30,31,32,33,34,35,36] (by decide +kernel) ?_
    repeat refine stq rfl ?_
    rw [hnx]
    repeat refine stq rfl ?_
    (first|refine ps_split rfl rfl ?_ ?_|refine pq_split rfl rfl ?_ ?_|refine p3_split rfl rfl ?_ ?_)<;>intro h
    ·exfalso
     have := of_decide_eq_true h
     rw [hSm] at this
     omega
    ·clear h
     repeat refine stq rfl ?_
     exact ⟨rfl,rfl,rfl,rfl,rfl,rfl,rfl,rfl,rfl,rfl,rfl,trivial⟩
  have vT : Vq (tpR c y p N i) (topQ c.s N p i) (n + 8) := tpR_v hc
  have zbi : Zb (c.S.getD i 0) := zb_i64 hxi.1 hxi.2
  have e1 := ls_ret (tpR c y p N i) (ofQ ((c.S.getD i 0 : Int) : Rat)) (hx := vT) (by omega) (by decide)
  rw [show topQ c.s N p i - ((c.S.getD i 0 : Int) : Rat) = topQ c.s N p i - c.s i from rfl] at e1
  have vD : Vq (ofQ (topQ c.s N p i - c.s i)) (topQ c.s N p i - c.s i) (n + 1 + 9) := Vq.ofQ (h := d_hq hc hph i)
  have e2 := sg_ret (ofQ (topQ c.s N p i - c.s i)) (hx := vD) (by omega)
  have e3 := ti_ret (c.M.getD i RR.zero) (ofQ (topQ c.s N p i - c.s i)) (hx := hmv) (hy := vD) (by decide) (by omega)
  have hg := sgn_gt (topQ c.s N p i - c.s i)
  have hP := pieceE_eq (n := N) (S := c.s) (M := c.m) (y := p) (k := i)
  have hS : sumN (pieceE N c.s c.m p) (i + 1) = sumN (pieceE N c.s c.m p) i + pieceE N c.s c.m p i := rfl
  by_cases hd : 0 < topQ c.s N p i - c.s i
  ·rw [uQ,posQ,if_pos hd] at hP
   have hP2 : pieceE N c.s c.m p i = (c.M.getD i RR.zero).val * (topQ c.s N p i - c.s i) * ((topQ c.s N p i - c.s i) / 2 + (p - topQ c.s N p i)) := by rw [← hP,Rat.mul_assoc];rfl
   have vR : Vq (ofQ ((c.M.getD i RR.zero).val * (topQ c.s N p i - c.s i))) ((c.M.getD i RR.zero).val * (topQ c.s N p i - c.s i)) (12 + 1 + (n + 1 + 9)) := Vq.ofQ (h := @HQ.mul _ _ _ _ hmv.hq (d_hq hc hph i))
   have w2 := bW_ret 2 ⟨by decide,by decide⟩
   rw [show (((2 : Int) : Rat)) = 2 from rfl] at w2
   have v2 : Vq (ofQ 2) 2 4 := Vq.ofQ (h := HQ.two)
   have e4 := by_ret (ofQ (topQ c.s N p i - c.s i)) (ofQ 2) (hx := vD) (hy := v2) (by omega) (by decide) (by decide)
   have vH : Vq (ofQ ((topQ c.s N p i - c.s i) / 2)) ((topQ c.s N p i - c.s i) / 2) (n + 1 + 9 + 4) := Vq.ofQ (h := @HQ.div _ _ _ _ (d_hq hc hph i) HQ.two)
   have e5 := ls_ret y (tpR c y p N i) (hx := hy) (hy := vT) (by omega) (by omega)
   have vL : Vq (ofQ (p - topQ c.s N p i)) (p - topQ c.s N p i) (n + 1 + (n + 1 + 4) + 1) := Vq.ofQ (h := @HQ.sub _ _ _ _ hph (top_hq hc hph i))
   have e6 := pl_ret (ofQ ((topQ c.s N p i - c.s i) / 2)) (ofQ (p - topQ c.s N p i)) (hx := vH) (hy := vL) (by omega) (by omega)
   have vX : Vq (ofQ ((topQ c.s N p i - c.s i) / 2 + (p - topQ c.s N p i))) ((topQ c.s N p i - c.s i) / 2 + (p - topQ c.s N p i)) (n + 1 + 9 + 4 + (n + 1 + (n + 1 + 4) + 1) + 1) := Vq.ofQ (h := @HQ.add _ _ _ _ (@HQ.div _ _ _ _ (d_hq hc hph i) HQ.two) (@HQ.sub _ _ _ _ hph (top_hq hc hph i)))
   have e7 := ti_ret (ofQ ((c.M.getD i RR.zero).val * (topQ c.s N p i - c.s i))) (ofQ ((topQ c.s N p i - c.s i) / 2 + (p - topQ c.s N p i))) (hx := vR) (hy := vX) (by omega) (by omega)
   rw [← hP2] at e7
   have vP : Vq (ofQ (pieceE N c.s c.m p i)) (pieceE N c.s c.m p i) (4 * (n + 1) + 60) := Vq.ofQ (h := pieceE_hq hc hph i)
   have e8 := pl_ret (ofQ (sumN (pieceE N c.s c.m p) i)) (ofQ (pieceE N c.s c.m p i)) (hx := vs i) (hy := vP) (by have := hB i (by omega);omega) (by omega)
   rw [← hS] at e8
   have hgt := hg.2 hd
   generalize hSN : ofQ (sumN (pieceE N c.s c.m p) (i + 1)) = S1 at *
   generalize ofQ (sumN (pieceE N c.s c.m p) i) = S0 at *
   generalize ofQ (pieceE N c.s c.m p i) = P0 at *
   generalize ofQ ((c.M.getD i RR.zero).val * (topQ c.s N p i - c.s i)) = R0 at *
   generalize ofQ ((topQ c.s N p i - c.s i) / 2 + (p - topQ c.s N p i)) = X0 at *
   generalize ofQ ((topQ c.s N p i - c.s i) / 2) = H0 at *
   generalize ofQ (p - topQ c.s N p i) = L0 at *
   generalize sgn (topQ c.s N p i - c.s i) = sg at *
   generalize ofQ (topQ c.s N p i - c.s i) = D0 at *
   generalize tpR c y p N i = T0 at *
   generalize ofQ (2 : Rat) = W2 at *
   generalize ofQ ((c.S.getD i 0 : Int) : Rat) = W0 at *
   generalize c.S.getD i 0 = x0 at *
   generalize c.M.getD i RR.zero = m0 at *
   refine pw_seq ?_
   refine pw_ghost (gdrop 8) ?_
   refine pw_draw2 8 1 [44,45,46,47,48,49,50,51,8] [] (by decide +kernel) rfl ?_
   repeat refine stq rfl ?_
   refine qst rfl rfl (q_idxm rfl rfl rfl rfl rfl (by omega) hx rfl) ?_
   repeat refine stq rfl ?_
   refine qst rfl rfl (q_cs rfl hw rfl rfl) ?_
   repeat refine stq rfl ?_
   refine qst rfl rfl (q_cs rfl e1 rfl rfl) ?_
   repeat refine stq rfl ?_
   refine qst rfl rfl (q_cp rfl e2 rfl rfl rfl) ?_
   repeat refine stq rfl ?_
   refine pw_cond rfl (fun h => ?_) (fun h => ?_)
   ·clear h
    refine pw_seq ?_
    refine pw_ghost (gdrop 9) ?_
    refine pw_draw2 7 1 [55,56,57,58,59,60,61,9] [] (by decide +kernel) rfl ?_
    repeat refine stq rfl ?_
    refine qst rfl rfl (q_idxm rfl rfl rfl rfl rfl (by omega) hmx rfl) ?_
    repeat refine stq rfl ?_
    refine qst rfl rfl (q_cs rfl e3 rfl rfl) ?_
    repeat refine stq rfl ?_
    refine pw_draw 11 [62,63,64,65,66,67,68,69,70,71,72] (by decide +kernel) ?_
    repeat refine stq rfl ?_
    refine qst rfl rfl (q_cs rfl w2 rfl rfl) ?_
    repeat refine stq rfl ?_
    refine qst rfl rfl (q_cs rfl e4 rfl rfl) ?_
    repeat refine stq rfl ?_
    refine qst rfl rfl (q_cs rfl e5 rfl rfl) ?_
    repeat refine stq rfl ?_
    refine qst rfl rfl (q_cs rfl e6 rfl rfl) ?_
    repeat refine stq rfl ?_
    refine qst rfl rfl (q_cs rfl e7 rfl rfl) ?_
    repeat refine stq rfl ?_
    refine qst rfl rfl (q_cs rfl e8 rfl rfl) ?_
    repeat refine stq rfl ?_
    refine ⟨i + 1,hlt,by omega,rfl,rfl,rfl,rfl,congrArg I hnx,rfl,rfl,rfl,?_,trivial⟩
    show (_ : Nat × Option Cont) = (1,some (Cont.mk 26 4 [eR (ofQ (sumN (pieceE N c.s c.m p) (i + 1)))] 2))
    rw [hSN]
    rfl
   ·exact absurd hgt (of_decide_eq_false h)
  ·have hP2 : pieceE N c.s c.m p i = 0 := by rw [← hP,uQ,posQ,if_neg hd];grind
   rw [hP2,Rat.add_zero] at hS
   have hgt : ¬ 0 < sgn (topQ c.s N p i - c.s i) := fun h => hd (hg.1 h)
   rw [← hS]
   generalize hSN : ofQ (sumN (pieceE N c.s c.m p) (i + 1)) = S0 at *
   generalize sgn (topQ c.s N p i - c.s i) = sg at *
   generalize ofQ (topQ c.s N p i - c.s i) = D0 at *
   generalize tpR c y p N i = T0 at *
   generalize ofQ ((c.S.getD i 0 : Int) : Rat) = W0 at *
   generalize c.S.getD i 0 = x0 at *
   refine pw_seq ?_
   refine pw_ghost (gdrop 8) ?_
   refine pw_draw2 8 1 [44,45,46,47,48,49,50,51,8] [] (by decide +kernel) rfl ?_
   repeat refine stq rfl ?_
   refine qst rfl rfl (q_idxm rfl rfl rfl rfl rfl (by omega) hx rfl) ?_
   repeat refine stq rfl ?_
   refine qst rfl rfl (q_cs rfl hw rfl rfl) ?_
   repeat refine stq rfl ?_
   refine qst rfl rfl (q_cs rfl e1 rfl rfl) ?_
   repeat refine stq rfl ?_
   refine qst rfl rfl (q_cp rfl e2 rfl rfl rfl) ?_
   repeat refine stq rfl ?_
   refine pw_cond rfl (fun h => ?_) (fun h => ?_)
   ·exact absurd (of_decide_eq_true h) hgt
   ·clear h
    repeat refine stq rfl ?_
    refine ⟨i + 1,hlt,by omega,rfl,rfl,rfl,rfl,congrArg I hnx,rfl,rfl,rfl,?_,trivial⟩
    show (_ : Nat × Option Cont) = (1,some (Cont.mk 26 4 [eR (ofQ (sumN (pieceE N c.s c.m p) (i + 1)))] 2))
    rw [hSN]
    rfl
 ·have hie : i = N := by have := of_decide_eq_false h;rw [hSm] at this;omega
  clear h
  subst hie
  repeat refine stq rfl ?_
  exact endm rfl (by repeat' constructor) rfl (by repeat' constructor) rfl
end Go.Pv


set_option maxHeartbeats 2000000
namespace Go.Pv
attribute [local irreducible] PWP POps PQuiet PSem XThen XBlock RetPost InlPost
open Go.Proofs
def eI2 (l : List SR) (z t : Rat) (i : Nat) : Rat := enQ (l.getD i dS).k.S.length (l.getD i dS).k.s (l.getD i dS).k.m (yI l z t i)
theorem bd_U (b : BR) (z t : Rat) : (bd b).U z t = sumN (eI2 b.l z t) b.l.length - (b.w : Rat) * (z + t * b.a.val) := rfl
theorem eI2_hq {l : List SR} (hl : LimL l) (hf : FewL l) {z t : Rat} {n m : Nat} (hz : HQ z n) (ht : HQ t m) {i : Nat} (hi : i < l.length) : HQ (eI2 l z t i) (32 * (n + m) + 1300) := by
 have hs := hl.1 _ (getD_mem hi)
 have h8 := hf.2 _ (getD_mem hi)
 rw [eI2,enQ]
 exact (sumN_hq (m := 4 * (13 + (n + (m + 4) + 1) + 1) + 60) _ fun k _ => pieceE_hq hs.k (yQ_hq hs hz ht) k).mono (by have := Nat.mul_le_mul h8 (Nat.le_refl (4 * (13 + (n + (m + 4) + 1) + 1) + 60 + 1));omega)
set_option maxRecDepth 20000 in
theorem renergy_ret (b : BR) (hb : b.Ok) (a : AR) {z t : Rat} {n m : Nat} [ha : Va a z t n m] (hn : n + m ≤ 20000) : Ret Tryz.prog .shared 35 [.agg (eB b),.agg (eA a)] (.agg (eR (ofQ ((bd b).U z t)))) := by
 have w0 := w0_ret
 have hl := hb.lim.l
 have hf := hb.few
 have h12 := hf.1
 have hck := hb.chkL
 have hml : (b.l.map eS).length = b.l.length := by simp
 have zw : Zb b.w := zb_i64 hb.lim.w.1 hb.lim.w.2
 have hBd : ∀ i,i ≤ b.l.length → i * (32 * (n + 1 + (m + 1)) + 1300 + 1) + 4 ≤ 8000000 := fun i hi => by have := Nat.mul_le_mul (show i ≤ 12 by omega) (Nat.le_refl (32 * (n + 1 + (m + 1)) + 1300 + 1));omega
 have vs : ∀ i,i ≤ b.l.length → Vq (ofQ (sumN (eI2 b.l z t) i)) (sumN (eI2 b.l z t) i) (i * (32 * (n + 1 + (m + 1)) + 1300 + 1) + 4) := fun i hi => Vq.ofQ (h := sumN_hq i fun k hk => eI2_hq hl hf ha.z.hq ha.t.hq (by omega))
 have k1 := ti_ret a.t b.a (hx := ha.t) (hy := hb.lim.a.v) (by omega) (by decide)
 have vk1 : Vq (ofQ (t * b.a.val)) (t * b.a.val) (m + 1 + 13) := Vq.ofQ (h := @HQ.mul _ _ _ _ ha.t.hq hb.lim.a.v.hq)
 have k2 := pl_ret a.z (ofQ (t * b.a.val)) (hx := ha.z) (hy := vk1) (by omega) (by omega)
 have vk2 : Vq (ofQ (z + t * b.a.val)) (z + t * b.a.val) (n + 1 + (m + 1 + 13) + 1) := Vq.ofQ (h := @HQ.add _ _ _ _ ha.z.hq (vq_hq2 vk1))
 have k3 := bW_ret b.w hb.lim.w
 have k4 := ti_ret (ofQ (b.w : Rat)) (ofQ (z + t * b.a.val)) (hy := vk2) (by decide) (by omega)
 have vk4 : Vq (ofQ ((b.w : Rat) * (z + t * b.a.val))) ((b.w : Rat) * (z + t * b.a.val)) (4 + (n + 1 + (m + 1 + 13) + 1)) := Vq.ofQ (h := @HQ.mul _ _ 4 _ HQ.int (vq_hq2 vk2))
 have hU := bd_U b z t
 have k5 := ls_ret (ofQ (sumN (eI2 b.l z t) b.l.length)) (ofQ ((b.w : Rat) * (z + t * b.a.val))) (hx := vs _ (Nat.le_refl _)) (hy := vk4) (by have := hBd _ (Nat.le_refl b.l.length);omega) (by omega)
 rw [← hU] at k5
 have him := fun x hx => rimm_ret x (hl.1 x hx) a (z := z) (t := t) (by omega) (by omega)
 have har : ∀ i,i < b.l.length → Ret Tryz.prog .shared 109 [.agg (eC (b.l.getD i dS).k),.agg (eR (ofQ (yI b.l z t i)))] (.agg (eR (ofQ (eI2 b.l z t i)))) := fun i hi => by
  have v1 : Vq (ofQ (yI b.l z t i)) (yI b.l z t i) (13 + (n + 1 + (m + 1 + 4) + 1) + 1) := Vq.ofQ (h := yQ_hq (hl.1 _ (getD_mem hi)) ha.z.hq ha.t.hq)
  exact rarea_ret _ (hl.1 _ (getD_mem hi)).k (checkL_curve hck _ (getD_mem hi)) (ofQ (yI b.l z t i)) (hy := v1) (by omega)
 have vE : ∀ i,i < b.l.length → Vq (ofQ (eI2 b.l z t i)) (eI2 b.l z t i) (32 * (n + 1 + (m + 1)) + 1300) := fun i hi => Vq.ofQ (h := eI2_hq hl hf ha.z.hq ha.t.hq hi)
 generalize ofQ ((bd b).U z t) = UU at *
 generalize ofQ ((b.w : Rat) * (z + t * b.a.val)) = K4 at *
 generalize ofQ (z + t * b.a.val) = K2 at *
 generalize ofQ (t * b.a.val) = K1 at *
 generalize ofQ (b.w : Rat) = K3 at *
 clear hU vk1 vk2 vk4 hb
 obtain ⟨w,ba,l⟩ := b
 obtain ⟨az,at'⟩ := a
 simp only at *
 refine Ret.of_pwp layOk mixed Go.Proofs.Tryz.func35 rfl (by decide) rfl rfl ?_
 repeat refine stq rfl ?_
 refine qst rfl rfl (q_cs rfl w0 rfl rfl) ?_
 repeat refine stq rfl ?_
 refine pw_loop (fun i : Nat => i ≤ l.length) (fun i => [(2,.ptr 2 1 0 0),(3,.ptr 3 1 0 0),(4,.ptr 4 1 0 0),(5,.ptr 5 1 0 0),(6,I (i : Nat))])
  (fun i => [(2,1,⟨29,6,[eB ⟨w,ba,l⟩],2⟩),(3,1,⟨40,8,[eA ⟨az,at'⟩],2⟩),(4,1,⟨26,4,[zN],2⟩),(5,1,⟨26,4,[eR (ofQ (sumN (eI2 l z t) i))],2⟩)]) (fun i => l.length - i) 0 (Nat.zero_le _) ⟨rfl,rfl,rfl,rfl,rfl,rfl,rfl,rfl,rfl,trivial⟩ ?_
 intro i s hi
 repeat refine stq rfl ?_
 refine pw_cond rfl (fun h => ?_) (fun h => ?_)
 ·have hlt : i < l.length := by have := of_decide_eq_true h;simp only at this;omega
  clear h
  have hx := get_some (d := dS) hlt
  have hw : IntKind.i64.wrap (((i : Nat) : Int) + 1) = ((i + 1 : Nat) : Int) := by rw [wrap_i64 (by omega) (by omega)];omega
  have e1 := him _ (getD_mem hlt)
  rw [show yQ (l.getD i dS) z t = yI l z t i from rfl] at e1
  have e2 := har i hlt
  have e3 := pl_ret (ofQ (sumN (eI2 l z t) i)) (ofQ (eI2 l z t i)) (hx := vs i hi) (hy := vE i hlt) (by have := hBd i hi;omega) (by omega)
  rw [show sumN (eI2 l z t) i + eI2 l z t i = sumN (eI2 l z t) (i + 1) from rfl] at e3
  generalize hS1 : ofQ (sumN (eI2 l z t) (i + 1)) = S1 at *
  generalize ofQ (sumN (eI2 l z t) i) = S0 at *
  generalize ofQ (eI2 l z t i) = E0 at *
  generalize ofQ (yI l z t i) = Y0 at *
  generalize l.getD i dS = x at *
  obtain ⟨xx,xc,xk⟩ := x
  simp only at *
  repeat refine stq rfl ?_
  refine qst rfl rfl (q_idxm rfl rfl rfl rfl rfl (by omega) hx rfl) ?_
  repeat refine stq rfl ?_
  refine pw_draw 8 [22,23,24,25,26,27,28,29] (by decide +kernel) ?_
  repeat refine stq rfl ?_
  refine qst rfl rfl (q_cs rfl e1 rfl rfl) ?_
  repeat refine stq rfl ?_
  refine qst rfl rfl (q_cs rfl e2 rfl rfl) ?_
  repeat refine stq rfl ?_
  refine qst rfl rfl (q_cs rfl e3 rfl rfl) ?_
  repeat refine stq rfl ?_
  refine ⟨i + 1,hlt,by omega,rfl,rfl,rfl,rfl,congrArg I hw,rfl,rfl,rfl,?_,trivial⟩
  show (_ : Nat × Option Cont) = (1,some (Cont.mk 26 4 [eR (ofQ (sumN (eI2 l z t) (i + 1)))] 2))
  rw [hS1]
  rfl
 ·have hie : i = l.length := by have := of_decide_eq_false h;simp only at this;omega
  clear h
  subst hie
  generalize ofQ (sumN (eI2 l z t) l.length) = S0 at *
  (repeat ((fail_if_success (with_reducible refine pw_at 7 ?_));refine stx rfl ?_))
  refine pw_ghost (gdrop 8) ?_
  refine pw_draw2 8 1 [30,31,32,33,34,35,36,37,8] [] (by decide +kernel) rfl ?_
  repeat refine stq rfl ?_
  refine qst rfl rfl (q_cs rfl k1 rfl rfl) ?_
  repeat refine stq rfl ?_
  refine qst rfl rfl (q_cs rfl k2 rfl rfl) ?_
  repeat refine stq rfl ?_
  refine pw_draw 7 [38,39,40,41,42,43,44] (by decide +kernel) ?_
  repeat refine stq rfl ?_
  refine qst rfl rfl (q_cs rfl k3 rfl rfl) ?_
  repeat refine stq rfl ?_
  refine qst rfl rfl (q_cs rfl k4 rfl rfl) ?_
  repeat refine stq rfl ?_
  refine qst rfl rfl (q_cs rfl k5 rfl rfl) ?_
  repeat refine stq rfl ?_
  exact endm rfl (by repeat' constructor) rfl (by repeat' constructor) rfl
theorem sum_from (e0 : Rat) (f : Nat → Rat) (n : Nat) : e0 + sumN f n + f n = e0 + sumN f (n + 1) := by rw [sumN];grind
set_option maxRecDepth 20000 in
theorem penergy_ret (b : BR) (hb : b.Ok) (a : AR) {z t : Rat} {n m : Nat} [ha : Va a z t n m] (hn : n + m ≤ 45000) : Ret Tryz.prog .shared 34 [.agg (eB b),.agg (eA a)] (.tup [.agg (eR (ofQ ((bd b).U z t))),I 0]) := by
 have hcb := checkBody_ret b hb.lim
 rw [hb.chk] at hcb
 have hl := hb.lim.l
 have hf := hb.few
 have h12 := hf.1
 have hck := hb.chkL
 have hml : (b.l.map eS).length = b.l.length := by simp
 have hwr := (body_chk hb.chk)
 have zw : Zb (-b.w) := zb_i64 (by omega) (by omega)
 have hneg : IntKind.i64.wrap (0 - b.w) = -b.w := by rw [wrap_i64 (by omega) (by omega)];omega
 have k1 := mulR a.t b.a (hx := ha.t) (hy := hb.lim.a.v) (by omega) (by decide)
 have vk1 : Vq (ofQ (t * b.a.val)) (t * b.a.val) (m + 1 + 13) := Vq.ofQ (h := @HQ.mul _ _ _ _ ha.t.hq hb.lim.a.v.hq)
 have k2 := addR a.z (ofQ (t * b.a.val)) (hx := ha.z) (hy := vk1) (by omega) (by omega)
 have vk2 : Vq (ofQ (z + t * b.a.val)) (z + t * b.a.val) (n + 1 + (m + 1 + 13) + 1) := Vq.ofQ (h := @HQ.add _ _ _ _ ha.z.hq (vq_hq2 vk1))
 have k3 := wholeF (-b.w) ⟨by omega,by omega⟩
 have k4 := mulR (ofQ ((-b.w : Int) : Rat)) (ofQ (z + t * b.a.val)) (hy := vk2) (by decide) (by omega)
 have hU : (bd b).U z t = ((-b.w : Int) : Rat) * (z + t * b.a.val) + sumN (eI2 b.l z t) b.l.length := by rw [bd_U];push_cast;grind
 generalize hE0 : ((-b.w : Int) : Rat) * (z + t * b.a.val) = e0 at *
 have hE0q : HQ e0 (4 + (n + 1 + (m + 1 + 13) + 1)) := by rw [← hE0];exact @HQ.mul _ _ 4 _ HQ.int (vq_hq2 vk2)
 have hBd : ∀ i,i ≤ b.l.length → i * (32 * (n + 1 + (m + 1)) + 1300 + 1) + 4 ≤ 18000000 := fun i hi => by have := Nat.mul_le_mul (show i ≤ 12 by omega) (Nat.le_refl (32 * (n + 1 + (m + 1)) + 1300 + 1));omega
 have vs : ∀ i,i ≤ b.l.length → Vq (ofQ (e0 + sumN (eI2 b.l z t) i)) (e0 + sumN (eI2 b.l z t) i) (4 + (n + 1 + (m + 1 + 13) + 1) + (i * (32 * (n + 1 + (m + 1)) + 1300 + 1) + 4) + 1) := fun i hi => Vq.ofQ (h := @HQ.add _ _ _ _ hE0q (sumN_hq i fun k hk => eI2_hq hl hf ha.z.hq ha.t.hq (by omega)))
 have vE : ∀ i,i < b.l.length → Vq (ofQ (eI2 b.l z t i)) (eI2 b.l z t i) (32 * (n + 1 + (m + 1)) + 1300) := fun i hi => Vq.ofQ (h := eI2_hq hl hf ha.z.hq ha.t.hq hi)
 have him := fun x hx => compr_ret x (hl.1 x hx) a (z := z) (t := t) (by omega) (by omega)
 have hin : ∀ i,i < b.l.length → Ret Tryz.prog .shared 107 [.agg (eC (b.l.getD i dS).k),.agg (eR (ofQ (yI b.l z t i)))] (.tup [.agg (eR (ofQ (eI2 b.l z t i))),I 0]) := fun i hi => by
  have v1 : Vq (ofQ (yI b.l z t i)) (yI b.l z t i) (13 + (n + 1 + (m + 1 + 4) + 1) + 1) := Vq.ofQ (h := yQ_hq (hl.1 _ (getD_mem hi)) ha.z.hq ha.t.hq)
  have hcu := checkL_curve hck _ (getD_mem hi)
  have := integral_ret _ (hl.1 _ (getD_mem hi)).k hcu (ofQ (yI b.l z t i)) (hy := v1) (by omega)
  rwa [rampE_piece (curve_ok hcu).2.2.2] at this
 generalize ofQ (z + t * b.a.val) = K2 at *
 generalize ofQ (t * b.a.val) = K1 at *
 rw [hU]
 have hS0 : e0 = e0 + sumN (eI2 b.l z t) 0 := by rw [sumN];grind
 rw [hS0] at k4
 generalize ofQ ((-b.w : Int) : Rat) = K3 at *
 clear hU vk1 vk2 hb hE0 hE0q zw hwr
 obtain ⟨w,ba,l⟩ := b
 obtain ⟨az,at'⟩ := a
 simp only at *
 refine Ret.of_pwp layOk mixed Go.Proofs.Tryz.func34 rfl (by decide) rfl rfl ?_
 repeat refine stq rfl ?_
 refine qst rfl rfl (q_cp rfl hcb rfl rfl rfl) ?_
 repeat refine stq rfl ?_
 refine pw_draw2 13 1 [18,19,20,21,22,23,24,25,26,27,28,29,30,7] [] (by decide +kernel) rfl ?_
 repeat refine stq rfl ?_
 rw [hneg]
 refine qst rfl rfl (q_cs rfl k3 rfl rfl) ?_
 repeat refine stq rfl ?_
 refine qst rfl rfl (q_cs rfl k1 rfl rfl) ?_
 repeat refine stq rfl ?_
 refine qst rfl rfl (q_cs rfl k2 rfl rfl) ?_
 repeat refine stq rfl ?_
 refine qst rfl rfl (q_cs rfl k4 rfl rfl) ?_
 repeat refine stq rfl ?_
 refine pw_loop (fun i : Nat => i ≤ l.length) (fun i => [(3,.ptr 3 1 0 0),(4,.ptr 4 1 0 0),(7,.ptr 7 1 0 0),(32,.sl (l.map eS)),(33,I l.length),(34,I (i : Nat))])
  (fun i => [(3,1,⟨40,8,[eA ⟨az,at'⟩],2⟩),(4,1,⟨26,4,[zN],2⟩),(7,1,⟨26,4,[eR (ofQ (e0 + sumN (eI2 l z t) i))],2⟩)]) (fun i => l.length - i) 0 (Nat.zero_le _) ⟨rfl,rfl,rfl,rfl,by rw [← hml];rfl,rfl,rfl,rfl,rfl,trivial⟩ ?_
 intro i s hi
 repeat refine stq rfl ?_
 refine pw_cond rfl (fun h => ?_) (fun h => ?_)
 ·have hlt : i < l.length := by have := of_decide_eq_true h;omega
  clear h
  have hx := get_some (d := dS) hlt
  have hw : IntKind.i64.wrap (((i : Nat) : Int) + 1) = ((i + 1 : Nat) : Int) := by rw [wrap_i64 (by omega) (by omega)];omega
  have e1 := him _ (getD_mem hlt)
  rw [show yQ (l.getD i dS) z t = yI l z t i from rfl] at e1
  have e2 := hin i hlt
  have e3 := addR (ofQ (e0 + sumN (eI2 l z t) i)) (ofQ (eI2 l z t i)) (hx := vs i hi) (hy := vE i hlt) (by have := hBd i hi;omega) (by omega)
  rw [sum_from] at e3
  generalize hS1 : ofQ (e0 + sumN (eI2 l z t) (i + 1)) = S1 at *
  generalize ofQ (e0 + sumN (eI2 l z t) i) = S0 at *
  generalize ofQ (eI2 l z t i) = E0 at *
  generalize ofQ (yI l z t i) = Y0 at *
  generalize l.getD i dS = x at *
  obtain ⟨xx,xc,xk⟩ := x
  simp only at *
  repeat refine stq rfl ?_
  refine qst rfl rfl (q_idxm rfl rfl rfl rfl rfl (by omega) hx rfl) ?_
  repeat refine stq rfl ?_
  (repeat ((fail_if_success (with_reducible refine pw_at 8 ?_));refine stx rfl ?_))
  refine pw_ghost (gdrop 10) ?_
  refine pw_draw3 [10] [9,10] (by decide +kernel) ?_
  repeat refine stq rfl ?_
  refine qst rfl rfl (q_cs rfl e1 rfl rfl) ?_
  repeat refine stq rfl ?_
  refine qst rfl rfl (q_cs rfl e2 rfl rfl) ?_
  repeat refine stq rfl ?_
  refine qst rfl rfl (q_cs rfl e3 rfl rfl) ?_
  repeat refine stq rfl ?_
  refine ⟨i + 1,hlt,by omega,rfl,rfl,rfl,rfl,rfl,congrArg I hw,rfl,rfl,?_,trivial⟩
  show (_ : Nat × Option Cont) = (1,some (Cont.mk 26 4 [eR (ofQ (e0 + sumN (eI2 l z t) (i + 1)))] 2))
  rw [hS1]
  rfl
 ·have hie : i = l.length := by have := of_decide_eq_false h;omega
  clear h
  subst hie
  generalize ofQ (e0 + sumN (eI2 l z t) l.length) = S0 at *
  repeat refine stq rfl ?_
  exact endm rfl (by repeat' constructor) rfl (by repeat' constructor) rfl
theorem penergy_err (b : BR) (hb : b.Lim) (he : bodyE b ≠ 0) (a : AR) : Ret Tryz.prog .shared 34 [.agg (eB b),.agg (eA a)] (.tup [.agg (eR RR.zero),I (bodyE b)]) := by
 refine Ret.weak (r' := .tup [.agg zN,I (bodyE b)]) ?_ (WeakL.refl _) (WeakL.tup (.cons zN_weak.agg (WeakL.refl _)))
 have h0 := checkBody_ret b hb
 generalize bodyE b = e at *
 obtain ⟨az,at'⟩ := a
 refine Ret.of_pwp layOk mixed Go.Proofs.Tryz.func34 rfl (by decide) rfl rfl ?_
 repeat refine stq rfl ?_
 refine qst rfl rfl (q_cp rfl h0 rfl rfl rfl) ?_
 repeat refine stq rfl ?_
 refine pw_cond rfl (fun h => ?_) (fun h => ?_)
 ·clear h
  repeat refine stq rfl ?_
  exact endm rfl (by repeat' constructor) rfl (by repeat' constructor) rfl
 ·exfalso
  simp at h
  exact he h
end Go.Pv


set_option maxHeartbeats 2000000
namespace Go.Pv
attribute [local irreducible] PWP POps PQuiet PSem XThen XBlock RetPost InlPost
open Go.Proofs
theorem same_zero : Ret Tryz.prog .shared 32 [.agg (eR RR.zero),.agg zN] (.bool true) :=
 (sameR_ret RR.zero ⟨Nat.zero_le _,Nat.zero_le _⟩).weak (.cons (.rfl _) (.cons zN_weak.agg .nil)) (.rfl _)
set_option maxRecDepth 20000 in
theorem energies_law (b : BR) (hb : ArgB b) (a : AR) : Ret Tryz.prog .shared 6 [.agg (eB b),.agg (eA a)] (.bool true) := by
 have aw := awake_ret
 have h1 := many_ret b hb.len
 have h2 := brief_ret a
 by_cases x1 : manyB b = true
 rotate_left
 ·rw [Bool.not_eq_true] at x1
  rw [x1] at h1
  obtain ⟨az,at'⟩ := a
  refine Ret.of_pwp layOk mixed Go.Proofs.Tryz.func6 rfl (by decide) rfl rfl ?_
  repeat refine stq rfl ?_
  refine qst rfl rfl (q_cp rfl aw rfl rfl rfl) ?_
  repeat refine stq rfl ?_
  refine qst rfl rfl (q_cp rfl h1 rfl rfl rfl) ?_
  repeat refine stq rfl ?_
  exact end1b rfl rfl rfl
 rw [x1] at h1
 by_cases x2 : briefB a = true
 rotate_left
 ·rw [Bool.not_eq_true] at x2
  rw [x2] at h2
  obtain ⟨az,at'⟩ := a
  refine Ret.of_pwp layOk mixed Go.Proofs.Tryz.func6 rfl (by decide) rfl rfl ?_
  repeat refine stq rfl ?_
  refine qst rfl rfl (q_cp rfl aw rfl rfl rfl) ?_
  repeat refine stq rfl ?_
  refine qst rfl rfl (q_cp rfl h1 rfl rfl rfl) ?_
  repeat refine stq rfl ?_
  refine qst rfl rfl (q_cp rfl h2 rfl rfl rfl) ?_
  repeat refine stq rfl ?_
  exact end1b rfl rfl rfl
 rw [x2] at h2
 obtain ⟨hlim,hgood⟩ := many_good hb x1
 have va := brief_va x2
 have c0 := rbody_ret b hlim
 by_cases x3 : bodyE b = 0
 rotate_left
 ·have p1 := penergy_err b hlim x3 a
  have sz := same_zero
  clear hgood va
  generalize bodyE b = e at *
  obtain ⟨az,at'⟩ := a
  refine Ret.of_pwp layOk mixed Go.Proofs.Tryz.func6 rfl (by decide) rfl rfl ?_
  repeat refine stq rfl ?_
  refine qst rfl rfl (q_cp rfl aw rfl rfl rfl) ?_
  repeat refine stq rfl ?_
  refine qst rfl rfl (q_cp rfl h1 rfl rfl rfl) ?_
  repeat refine stq rfl ?_
  refine qst rfl rfl (q_cp rfl h2 rfl rfl rfl) ?_
  repeat refine stq rfl ?_
  refine qst rfl rfl (q_cs rfl p1 rfl rfl) ?_
  repeat refine stq rfl ?_
  refine qst rfl rfl (q_cp rfl c0 rfl rfl rfl) ?_
  repeat refine stq rfl ?_
  refine pw_cond rfl (fun h => ?_) (fun h => ?_)
  ·clear h
   repeat refine stq rfl ?_
   (first|refine ps_split rfl rfl ?_ ?_|refine pq_split rfl rfl ?_ ?_|refine p3_split rfl rfl ?_ ?_)<;>intro h
   ·clear h
    repeat refine stq rfl ?_
    refine qst rfl rfl (q_cp rfl sz rfl rfl rfl) ?_
    repeat refine stq rfl ?_
    exact end1b rfl rfl rfl
   ·simp at h
  ·exfalso
   simp at h
   exact x3 h
 obtain ⟨hok,hsz⟩ := hgood x3
 rw [x3] at c0
 have p1 := penergy_ret b hok a (ha := va) (by decide)
 have q1 := renergy_ret b hok a (ha := va) (by decide)
 have hUq : HQ ((bd b).U a.z.val a.t.val) 20000 := by
  rw [bd_U]
  have zw : Zb b.w := zb_i64 hok.lim.w.1 hok.lim.w.2
  exact (@HQ.sub _ _ _ _ (sumN_hq b.l.length fun k hk => eI2_hq hok.lim.l hok.few va.z.hq va.t.hq hk) (@HQ.mul _ _ 4 _ HQ.int (@HQ.add _ _ _ _ va.z.hq (@HQ.mul _ _ _ _ va.t.hq hok.lim.a.v.hq)))).mono (by have := Nat.mul_le_mul hok.few.1 (Nat.le_refl (32 * (4 + 1 + (4 + 1)) + 1300 + 1));omega)
 have s1 := same_ofQ hUq (by decide)
 clear va hok hsz hUq hlim
 generalize ofQ ((bd b).U a.z.val a.t.val) = X at *
 obtain ⟨az,at'⟩ := a
 refine Ret.of_pwp layOk mixed Go.Proofs.Tryz.func6 rfl (by decide) rfl rfl ?_
 repeat refine stq rfl ?_
 refine qst rfl rfl (q_cp rfl aw rfl rfl rfl) ?_
 repeat refine stq rfl ?_
 refine qst rfl rfl (q_cp rfl h1 rfl rfl rfl) ?_
 repeat refine stq rfl ?_
 refine qst rfl rfl (q_cp rfl h2 rfl rfl rfl) ?_
 repeat refine stq rfl ?_
 refine qst rfl rfl (q_cs rfl p1 rfl rfl) ?_
 repeat refine stq rfl ?_
 refine qst rfl rfl (q_cp rfl c0 rfl rfl rfl) ?_
 repeat refine stq rfl ?_
 refine pw_draw 10 [36,37,38,39,40,41,42,43,44,4] (by decide +kernel) ?_
 repeat refine stq rfl ?_
 refine qst rfl rfl (q_cs rfl q1 rfl rfl) ?_
 repeat refine stq rfl ?_
 refine qst rfl rfl (q_cp rfl s1 rfl rfl rfl) ?_
 repeat refine stq rfl ?_
 exact end1b rfl rfl rfl
end Go.Pv

