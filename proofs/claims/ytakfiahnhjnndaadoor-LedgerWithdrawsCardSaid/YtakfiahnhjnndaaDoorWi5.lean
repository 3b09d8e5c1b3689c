/- Texts of one hand, gathered: LaU, LaV, LaW, LaX, Shelf, LaY, LaZ, LbA, LbB, LbC, LbD, LbE, LbF, LbG, LcA, LcB, LcC, LcD, LcG, LcH, LcL, LcJ. -/
import Derived.Test.YtakfiahnhjnndaaDoorWi4
import Derived.Shelf.Strings.Builder1
import Derived.Shelf.Strings.Builder2
import Derived.Shelf.Strings.OnBuilder
import Derived.Shelf.Strconv.Itoa0
import Derived.Shelf.Strconv.Itoa1
import Derived.Shelf.LaysM
import Derived.Shelf.Strconv.Itoa2
import Derived.Shelf.Strconv.Itoa3
import Derived.Test.YtakfiahnhjnndaaDoorProg
import Derived.Lib.AppendIntMem
set_option linter.unusedSectionVars false
set_option linter.unusedSimpArgs false
set_option linter.unusedVariables false
set_option linter.unnecessarySimpa false
/- What a charge goes back to: the reference. -/
set_option maxHeartbeats 2000000
namespace Go.Pv
attribute [local irreducible] PWP POps PQuiet PSem XThen XBlock RetPost InlPost
open Go.Proofs

theorem invF_stay {l : List SPost} {n : Int} {k : Nat} (h : ¬ invF l n k = 0) : ∀ k', k ≤ k' → invF l n k' = invF l n k
  | 0, hk => by have : k = 0 := by omega
                subst this; rfl
  | k' + 1, hk => by
    by_cases he : k = k' + 1
    · rw [he]
    · have ih := invF_stay h k' (by omega)
      rw [invF, if_neg (by rw [ih]; exact h), ih]
theorem invF_early {l : List SPost} {n : Int} : ∀ (k : Nat), (k : Int) ≤ n → invF l n k = 0
  | 0, _ => rfl
  | k + 1, h => by
    rw [invF, if_pos (invF_early k (by omega)), decide_eq_false (by omega)]; simp
set_option maxRecDepth 20000 in
theorem invoice_ref (l : List SPost) (hO : Ok l) (n : Int) (h1 : 1 ≤ n) (h2 : n ≤ l.length) : Ret Tryd.prog .shared 35 [.sl (l.map ePost), I n] (I (invF l n l.length)) := by
  have hl := hO.wf.len
  have hll : ((l.map ePost).length : Int) = l.length := by simp
  have hen := entL_at h1 h2
  have hwn : IntKind.wrap .i64 (n - 1) = n - 1 := wrap_i64 (by omega) (by omega)
  obtain ⟨m, rfl⟩ : ∃ m : Nat, n = m := ⟨n.toNat, by omega⟩
  have hw : IntKind.wrap .i64 ((m : Int) + 1) = (m : Int) + 1 := wrap_i64 (by omega) (by omega)
  refine Ret.of_pwp layOk mixed Go.Proofs.Tryd.func35 rfl (by decide) rfl rfl ?_
  repeat (refine stp rfl ?_ ?_;·repeat' constructor)
  rw [hw]
  refine pw_loop (fun j => m ≤ j ∧ j ≤ l.length ∧ invF l m j = 0) (fun j => [(0, .sl (l.map ePost)), (1, I m), (5, I (j + 1))]) (fun _ => []) (fun j => l.length - j) m ⟨Nat.le_refl _, by omega, invF_early m (Int.le_refl _)⟩ ⟨rfl, rfl, rfl, trivial⟩ ?_
  intro j s hj
  repeat (refine stp rfl ?_ ?_;·repeat' constructor)
  rw [hll]
  refine pw_cond rfl (fun h => ?_) (fun h => ?_)
  · have hlt : j < l.length := by have := of_decide_eq_true h; omega
    clear h
    have he := entL_at (l := l) (n := (j : Int) + 1) (by omega) (by omega)
    have hv := live_ref l hO.wf ((j : Int) + 1).toNat ((j : Int) + 1) (by omega) (by omega) (by omega)
    have hsg := signed_ref l hO m j 0 (by omega)
    have hwj : IntKind.wrap .i64 ((j : Int) + 1 - 1) = (j : Int) + 1 - 1 := wrap_i64 (by omega) (by omega)
    have hwn1 : PV.int .i64 (IntKind.wrap .i64 ((j : Int) + 1 + 1)) = I (((j + 1 : Nat) : Int) + 1) := by rw [wrap_i64 (by omega) (by omega)]; rfl
    have hs : invF l m (j + 1) = if (ivcB l (entL l m).order j && sgdB l m j 0) = true then (j : Int) + 1 else 0 := by
      rw [invF, if_pos hj.2.2, decide_eq_true (show (m : Int) < (j : Int) + 1 by omega), Bool.true_and]
    have hst := fun h => invF_stay (l := l) (n := m) (k := j + 1) h l.length (by omega)
    rw [ivcB] at hs
    generalize entL l ((j : Int) + 1) = x at *
    generalize entL l (m : Int) = y at *
    repeat (refine stp rfl ?_ ?_;·repeat' constructor)
    refine pw_draw 33 [14, 15, 16, 17, 18, 19, 20, 21, 22, 23, 24, 25, 26, 27, 28, 29, 30, 31, 32, 33, 34, 35, 36, 37, 38, 39, 40, 41, 42, 43, 44, 45, 46] (by decide +kernel) ?_
    repeat (refine stp rfl ?_ ?_;·repeat' constructor)
    rw [hwj]
    apply qst;exact rfl;exact rfl;exact q_idxm rfl rfl rfl rfl rfl (by omega) he rfl
    repeat (refine stp rfl ?_ ?_;·repeat' constructor)
    (first | refine ps_split rfl rfl (fun h => ?_) (fun h => ?_) | refine pq_split rfl rfl (fun h => ?_) (fun h => ?_) | refine p3_split rfl rfl (fun h => ?_) (fun h => ?_))
    rotate_left
    · have g1 := of_decide_eq_false h
      rw [decide_eq_false g1, Bool.false_and, Bool.false_and, Bool.false_and, if_neg (by simp)] at hs
      repeat (refine stp rfl ?_ ?_;·repeat' constructor)
      exact ⟨j + 1, ⟨by omega, hlt, hs⟩, by omega, rfl, rfl, hwn1, trivial⟩
    have g1 := of_decide_eq_true h
    clear h
    rw [decide_eq_true g1, Bool.true_and] at hs
    repeat (refine stp rfl ?_ ?_;·repeat' constructor)
    rw [hwj]
    apply qst;exact rfl;exact rfl;exact q_idxm rfl rfl rfl rfl rfl (by omega) he rfl
    repeat (refine stp rfl ?_ ?_;·repeat' constructor)
    rw [hwn]
    apply qst;exact rfl;exact rfl;exact q_idxm rfl rfl rfl rfl rfl (by omega) hen rfl
    repeat (refine stp rfl ?_ ?_;·repeat' constructor)
    (first | refine ps_split rfl rfl (fun h => ?_) (fun h => ?_) | refine pq_split rfl rfl (fun h => ?_) (fun h => ?_) | refine p3_split rfl rfl (fun h => ?_) (fun h => ?_))
    rotate_left
    · have g2 := of_decide_eq_false h
      rw [decide_eq_false g2, Bool.false_and, Bool.false_and, if_neg (by simp)] at hs
      repeat (refine stp rfl ?_ ?_;·repeat' constructor)
      exact ⟨j + 1, ⟨by omega, hlt, hs⟩, by omega, rfl, rfl, hwn1, trivial⟩
    have g2 := of_decide_eq_true h
    clear h
    rw [decide_eq_true g2, Bool.true_and] at hs
    generalize liveB l ((j : Int) + 1) = lv at *
    repeat (refine stp rfl ?_ ?_;·repeat' constructor)
    apply qst;exact rfl;exact rfl;exact q_callP rfl (hv) rfl (by repeat' constructor) rfl rfl
    cases lv with
    | false =>
      rw [Bool.false_and, if_neg (by simp)] at hs
      repeat (refine stp rfl ?_ ?_;·repeat' constructor)
      exact ⟨j + 1, ⟨by omega, hlt, hs⟩, by omega, rfl, rfl, hwn1, trivial⟩
    | true =>
    rw [Bool.true_and] at hs
    generalize sgdB l m j 0 = sg at *
    repeat (refine stp rfl ?_ ?_;·repeat' constructor)
    apply qst;exact rfl;exact rfl;exact q_callP rfl (hsg) rfl (by repeat' constructor) rfl rfl
    cases sg with
    | false =>
      rw [if_neg (by simp)] at hs
      repeat (refine stp rfl ?_ ?_;·repeat' constructor)
      exact ⟨j + 1, ⟨by omega, hlt, hs⟩, by omega, rfl, rfl, hwn1, trivial⟩
    | true =>
      rw [if_pos rfl] at hs
      repeat (refine stp rfl ?_ ?_;·repeat' constructor)
      exact end1i rfl rfl (by rw [hst (by rw [hs]; omega), hs])
  · have hz : j = l.length := by have := of_decide_eq_false h; omega
    subst hz
    repeat (refine stp rfl ?_ ?_;·repeat' constructor)
    exact end1i rfl rfl (by rw [hj.2.2])
set_option maxRecDepth 20000 in
theorem trace_ref (l : List SPost) (hO : Ok l) (n : Int) : Ret Tryd.prog .fresh 10 [.sl (l.map ePost), I n] (trailR l n) := by
  have hl := hO.wf.len
  have hll : ((l.map ePost).length : Int) = l.length := by simp
  rw [trailR]
  by_cases hin : 1 ≤ n ∧ n ≤ l.length
  case neg =>
    have ha : aimE l n [3] = 6 := by
      rw [aimE, if_pos]
      simp [inside]; omega
    rw [if_neg (by rw [ha]; omega), ha]
    refine Ret.of_pwp layOk mixed Go.Proofs.Tryd.func10 rfl (by decide) rfl rfl ?_
    repeat (refine stp rfl ?_ ?_;·repeat' constructor)
    (first | refine ps_split rfl rfl (fun h => ?_) (fun h => ?_) | refine pq_split rfl rfl (fun h => ?_) (fun h => ?_) | refine p3_split rfl rfl (fun h => ?_) (fun h => ?_))
    · repeat (refine stp rfl ?_ ?_;·repeat' constructor)
      exact endc2f rfl rfl rfl rfl rfl (by repeat' constructor) rfl
    · have h1 := of_decide_eq_false h
      repeat (refine stp rfl ?_ ?_;·repeat' constructor)
      rw [hll]
      refine pw_cond rfl (fun h => ?_) (fun h => ?_)
      · repeat (refine stp rfl ?_ ?_;·repeat' constructor)
        exact endc2f rfl rfl rfl rfl rfl (by repeat' constructor) rfl
      · exact absurd (of_decide_eq_false h) (by omega)
  have hen := entL_at hin.1 hin.2
  have hwn : IntKind.wrap .i64 (n - 1) = n - 1 := wrap_i64 (by omega) (by omega)
  have hv := live_ref l hO.wf n.toNat n (by omega) hin.1 hin.2
  have ho := order_ref l (entL l n).order hl
  have hb := base_ref l n hin.1 hin.2 hl
  have hsg := signs_ref l hO n l.length (Nat.le_refl _)
  have hiv := invoice_ref l hO n hin.1 hin.2
  have ha : aimE l n [3] = if (entL l n).op = 3 then (if liveB l n = true then 0 else 27) else 3 := by
    rw [aimE, if_neg (by simp [inside]; omega)]
    by_cases h3 : (entL l n).op = 3
    · rw [if_neg (by simp [h3]), if_pos h3, standE, if_neg (by omega)]
    · rw [if_pos (by simp; omega), if_neg h3]
  have hbs : (entL l n).op = 3 → supNo l (entL l n) = itmNo l (entL l n).order (entL l n).item := fun h => by rw [supNo, if_neg (by omega), if_pos (.inr h)]
  rw [ha, trailV]
  clear ha
  generalize entL l n = p at *
  have pre : ∀ (X : Prop), (¬ n < 1 → ¬ n > (l.length : Int) → X) → X := fun X h => h (by omega) (by omega)
  by_cases h3 : p.op = 3
  case neg =>
    rw [if_neg h3, if_neg (by omega)]
    refine Ret.of_pwp layOk mixed Go.Proofs.Tryd.func10 rfl (by decide) rfl rfl ?_
    repeat (refine stp rfl ?_ ?_;·repeat' constructor)
    (first | refine ps_split rfl rfl (fun h => ?_) (fun h => ?_) | refine pq_split rfl rfl (fun h => ?_) (fun h => ?_) | refine p3_split rfl rfl (fun h => ?_) (fun h => ?_))
    · exact absurd (of_decide_eq_true h) (by omega)
    clear h
    repeat (refine stp rfl ?_ ?_;·repeat' constructor)
    rw [hll]
    refine pw_cond rfl (fun h => ?_) (fun h => ?_)
    · exact absurd (of_decide_eq_true h) (by omega)
    clear h
    repeat (refine stp rfl ?_ ?_;·repeat' constructor)
    rw [hwn]
    apply qst;exact rfl;exact rfl;exact q_idxm rfl rfl rfl rfl rfl (by omega) hen rfl
    repeat (refine stp rfl ?_ ?_;·repeat' constructor)
    refine pw_cond rfl (fun h => ?_) (fun h => ?_)
    · repeat (refine stp rfl ?_ ?_;·repeat' constructor)
      exact endc2f rfl rfl rfl rfl rfl (by repeat' constructor) rfl
    · exact absurd (of_decide_eq_true (by simpa only [Bool.not_eq_false'] using h)) h3
  rw [if_pos h3]
  have hbs := hbs h3
  rw [hbs] at hb
  generalize liveB l n = lv at *
  cases lv with
  | false =>
    rw [show (if (false = true) then (0 : Int) else 27) = 27 from rfl, if_neg (by omega)]
    refine Ret.of_pwp layOk mixed Go.Proofs.Tryd.func10 rfl (by decide) rfl rfl ?_
    repeat (refine stp rfl ?_ ?_;·repeat' constructor)
    (first | refine ps_split rfl rfl (fun h => ?_) (fun h => ?_) | refine pq_split rfl rfl (fun h => ?_) (fun h => ?_) | refine p3_split rfl rfl (fun h => ?_) (fun h => ?_))
    · exact absurd (of_decide_eq_true h) (by omega)
    clear h
    repeat (refine stp rfl ?_ ?_;·repeat' constructor)
    rw [hll]
    refine pw_cond rfl (fun h => ?_) (fun h => ?_)
    · exact absurd (of_decide_eq_true h) (by omega)
    clear h
    repeat (refine stp rfl ?_ ?_;·repeat' constructor)
    rw [hwn]
    apply qst;exact rfl;exact rfl;exact q_idxm rfl rfl rfl rfl rfl (by omega) hen rfl
    repeat (refine stp rfl ?_ ?_;·repeat' constructor)
    refine pw_cond rfl (fun h => ?_) (fun h => ?_)
    · exact absurd h3 (of_decide_eq_false (by simpa only [Bool.not_eq_true'] using h))
    clear h
    repeat (refine stp rfl ?_ ?_;·repeat' constructor)
    apply qst;exact rfl;exact rfl;exact q_callP rfl (hv) rfl (by repeat' constructor) rfl rfl
    repeat (refine stp rfl ?_ ?_;·repeat' constructor)
    exact endc2f rfl rfl rfl rfl rfl (by repeat' constructor) rfl
  | true =>
  rw [if_pos rfl, if_pos rfl]
  obtain ⟨m, rfl⟩ : ∃ m : Nat, n = m := ⟨n.toNat, by omega⟩
  refine Ret.of_pwp layOk mixed Go.Proofs.Tryd.func10 rfl (by decide) rfl rfl ?_
  repeat (refine stp rfl ?_ ?_;·repeat' constructor)
  (first | refine ps_split rfl rfl (fun h => ?_) (fun h => ?_) | refine pq_split rfl rfl (fun h => ?_) (fun h => ?_) | refine p3_split rfl rfl (fun h => ?_) (fun h => ?_))
  · exact absurd (of_decide_eq_true h) (by omega)
  clear h
  repeat (refine stp rfl ?_ ?_;·repeat' constructor)
  rw [hll]
  refine pw_cond rfl (fun h => ?_) (fun h => ?_)
  · exact absurd (of_decide_eq_true h) (by omega)
  clear h
  repeat (refine stp rfl ?_ ?_;·repeat' constructor)
  rw [hwn]
  apply qst;exact rfl;exact rfl;exact q_idxm rfl rfl rfl rfl rfl (by omega) hen rfl
  repeat (refine stp rfl ?_ ?_;·repeat' constructor)
  refine pw_cond rfl (fun h => ?_) (fun h => ?_)
  · exact absurd h3 (of_decide_eq_false (by simpa only [Bool.not_eq_true'] using h))
  clear h
  repeat (refine stp rfl ?_ ?_;·repeat' constructor)
  apply qst;exact rfl;exact rfl;exact q_callP rfl (hv) rfl (by repeat' constructor) rfl rfl
  repeat (refine stp rfl ?_ ?_;·repeat' constructor)
  rw [hwn]
  apply qst;exact rfl;exact rfl;exact q_idxm rfl rfl rfl rfl rfl (by omega) hen rfl
  repeat (refine stp rfl ?_ ?_;·repeat' constructor)
  apply qst;exact rfl;exact rfl;exact q_callP rfl (ho) rfl (by repeat' constructor) rfl rfl
  repeat (refine stp rfl ?_ ?_;·repeat' constructor)
  apply qst;exact rfl;exact rfl;exact q_callP rfl (hb) rfl (by repeat' constructor) rfl rfl
  repeat (refine stp rfl ?_ ?_;·repeat' constructor)
  rw [hll, show IntKind.wrap .i64 ((l.length : Int) + 1) = (l.length : Int) + 1 from wrap_i64 (by omega) (by omega)]
  apply qst;exact rfl;exact rfl;exact q_callF rfl (hsg) rfl (by repeat' constructor) rfl
  repeat (refine stp rfl ?_ ?_;·repeat' constructor)
  apply qst;exact rfl;exact rfl;exact q_callP rfl (hiv) rfl (by repeat' constructor) rfl rfl
  repeat (refine stp rfl ?_ ?_;·repeat' constructor)
  refine pw_ghost (Ghost.nilcell (k := 200) (k0 := 6) (i := 0) (j := 2) (row := [I (ordNo l p.order), I (itmNo l p.order p.item), .nil, .fsl ((sigF l m l.length).map eI), I (invF l m l.length)]) 3 1 0 rfl rfl rfl rfl rfl rfl rfl) ?_
  repeat (refine stp rfl ?_ ?_;·repeat' constructor)
  generalize ordNo l p.order = rO at *
  generalize itmNo l p.order p.item = rI at *
  generalize invF l m l.length = rV at *
  generalize sigF l m l.length = sg at *
  refine pw_loop (fun j => j ≤ l.length) (fun j => [(0, .sl (l.map ePost)), (1, I m), (4, .ptr 4 1 0 0), (6, .ptr 6 1 0 0), (7, I (j + 1))])
    (fun j => [(4, 1, ⟨30, 5, [[I 0, I 0, .nil, .nil, I 0]], 2⟩), (6, 1, ⟨30, 5, [[I rO, I rI, .als 200 (1 + (amF l m j).length) 0 ((amF l m j).map eI).length, .fsl (sg.map eI), I rV]], 2⟩), (200, 1 + (amF l m j).length, ⟨3, 1, (amF l m j).map eI, 0⟩)]) (fun j => l.length - j) 0 (Nat.zero_le _) ⟨rfl, rfl, rfl, rfl, rfl, rfl, rfl, rfl, trivial⟩ ?_
  intro j s hj
  have hj : j ≤ l.length := hj
  clear ho hb hsg hiv hen hv
  repeat (refine stp rfl ?_ ?_;·repeat' constructor)
  rw [hll]
  refine pw_cond rfl (fun h => ?_) (fun h => ?_)
  · have hlt : j < l.length := by have := of_decide_eq_true h; omega
    clear h
    have hwn1 : PV.int .i64 (IntKind.wrap .i64 ((j : Int) + 1 + 1)) = I (((j + 1 : Nat) : Int) + 1) := by rw [wrap_i64 (by omega) (by omega)]; rfl
    have hwj : IntKind.wrap .i64 ((j : Int) + 1 - 1) = (j : Int) + 1 - 1 := wrap_i64 (by omega) (by omega)
    have he := entL_at (l := l) (n := (j : Int) + 1) (by omega) (by omega)
    have hv := live_ref l hO.wf ((j : Int) + 1).toNat ((j : Int) + 1) (by omega) (by omega) (by omega)
    have hs : amF l m (j + 1) = if ofB l 5 m ((j : Int) + 1) = true then amF l m j ++ [(j : Int) + 1] else amF l m j := rfl
    have hal := amF_len l m j
    rw [ofB] at hs
    generalize entL l ((j : Int) + 1) = x at *
    repeat (refine stp rfl ?_ ?_;·repeat' constructor)
    rw [hwj]
    apply qst;exact rfl;exact rfl;exact q_idxm rfl rfl rfl rfl rfl (by omega) he rfl
    repeat (refine stp rfl ?_ ?_;·repeat' constructor)
    (first | refine ps_split rfl rfl (fun h => ?_) (fun h => ?_) | refine pq_split rfl rfl (fun h => ?_) (fun h => ?_) | refine p3_split rfl rfl (fun h => ?_) (fun h => ?_))
    rotate_left
    · have g1 := of_decide_eq_false h
      rw [decide_eq_false g1, Bool.false_and, Bool.false_and, if_neg (by simp)] at hs
      repeat (refine stp rfl ?_ ?_;·repeat' constructor)
      exact ⟨j + 1, hlt, by omega, rfl, rfl, rfl, rfl, hwn1, rfl, by rw [hs]; rfl, by rw [hs]; rfl, trivial⟩
    have g1 := of_decide_eq_true h
    clear h
    rw [decide_eq_true g1, Bool.true_and] at hs
    repeat (refine stp rfl ?_ ?_;·repeat' constructor)
    rw [hwj]
    apply qst;exact rfl;exact rfl;exact q_idxm rfl rfl rfl rfl rfl (by omega) he rfl
    repeat (refine stp rfl ?_ ?_;·repeat' constructor)
    (first | refine ps_split rfl rfl (fun h => ?_) (fun h => ?_) | refine pq_split rfl rfl (fun h => ?_) (fun h => ?_) | refine p3_split rfl rfl (fun h => ?_) (fun h => ?_))
    rotate_left
    · have g2 := of_decide_eq_false h
      rw [decide_eq_false g2, Bool.false_and, if_neg (by simp)] at hs
      repeat (refine stp rfl ?_ ?_;·repeat' constructor)
      exact ⟨j + 1, hlt, by omega, rfl, rfl, rfl, rfl, hwn1, rfl, by rw [hs]; rfl, by rw [hs]; rfl, trivial⟩
    have g2 := of_decide_eq_true h
    clear h
    rw [decide_eq_true g2, Bool.true_and] at hs
    generalize liveB l ((j : Int) + 1) = lv at *
    repeat (refine stp rfl ?_ ?_;·repeat' constructor)
    apply qst;exact rfl;exact rfl;exact q_callP rfl (hv) rfl (by repeat' constructor) rfl rfl
    cases lv with
    | false =>
      rw [if_neg (by simp)] at hs
      repeat (refine stp rfl ?_ ?_;·repeat' constructor)
      exact ⟨j + 1, hlt, by omega, rfl, rfl, rfl, rfl, hwn1, rfl, by rw [hs]; rfl, by rw [hs]; rfl, trivial⟩
    | true =>
      rw [if_pos rfl] at hs
      repeat (refine stp rfl ?_ ?_;·repeat' constructor)
      apply qst;exact rfl;exact rfl;exact q_slit rfl rfl rfl rfl rfl rfl rfl rfl rfl rfl (by repeat' constructor) rfl
      repeat (refine stp rfl ?_ ?_;·repeat' constructor)
      refine ps_run (o_app 0 rfl rfl rfl rfl rfl rfl rfl rfl rfl rfl rfl (by repeat' constructor) (by intro row hr; first | (simp at hr; subst hr; rfl) | simp at hr) rfl rfl (by simp; omega) (by simp; omega) ?_)
      repeat (refine stp rfl ?_ ?_;·repeat' constructor)
      refine ⟨j + 1, hlt, by omega, rfl, rfl, rfl, rfl, hwn1, rfl, ?_, ?_, trivial⟩
      · rw [hs]
        refine Eq.trans (b := (1, some (Cont.mk 30 5 [[I rO, I rI, .als 200 (1 + (amF l m j).length + 1) 0 ((amF l m j).map eI ++ [eI ((j : Int) + 1)]).length, .fsl (sg.map eI), I rV]] 2))) rfl ?_
        rw [als_snoc eI 200 1 (amF l m j) ((j : Int) + 1)]
      · rw [hs]; exact cont_snoc eI 1 3 1 0 _ _
  · have hz : j = l.length := by have := of_decide_eq_false h; omega
    subst hz
    repeat (refine stp rfl ?_ ?_;·repeat' constructor)
    exact endc2f rfl rfl (by repeat' constructor) rfl rfl (by repeat' constructor) rfl
end Go.Pv

/- The laws' helpers: long, many, loaded, lists of numbers. -/
set_option maxHeartbeats 2000000
namespace Go.Pv
attribute [local irreducible] PWP POps PQuiet PSem XThen XBlock RetPost InlPost
open Go.Proofs

def longB (p : SPost) : Bool := decide (40 < (p.order.length : Int)) || decide (40 < (p.item.length : Int)) || decide (40 < (p.ship.length : Int)) || decide (40 < (p.who.length : Int))
theorem long_ret (p : SPost) : Ret Tryd.prog .shared 22 [.agg (ePost p)] (.bool (longB p)) := by
  rw [longB]
  generalize h1 : decide (40 < (p.order.length : Int)) = b1
  generalize h2 : decide (40 < (p.item.length : Int)) = b2
  generalize h3 : decide (40 < (p.ship.length : Int)) = b3
  generalize h4 : decide (40 < (p.who.length : Int)) = b4
  refine Ret.of_pwp layOk mixed Go.Proofs.Tryd.func22 rfl (by decide) rfl rfl ?_
  repeat (refine stp rfl ?_ ?_;·repeat' constructor)
  rw [h1]
  cases b1 with
  | true =>
    repeat (refine stp rfl ?_ ?_;·repeat' constructor)
    exact end1b rfl rfl rfl
  | false =>
  repeat (refine stp rfl ?_ ?_;·repeat' constructor)
  rw [h2]
  cases b2 with
  | true =>
    repeat (refine stp rfl ?_ ?_;·repeat' constructor)
    exact end1b rfl rfl rfl
  | false =>
  repeat (refine stp rfl ?_ ?_;·repeat' constructor)
  rw [h3]
  cases b3 with
  | true =>
    repeat (refine stp rfl ?_ ?_;·repeat' constructor)
    exact end1b rfl rfl rfl
  | false =>
  repeat (refine stp rfl ?_ ?_;·repeat' constructor)
  rw [h4]
  cases b4 with
  | true =>
    repeat (refine stp rfl ?_ ?_;·repeat' constructor)
    exact end1b rfl rfl rfl
  | false =>
    repeat (refine stp rfl ?_ ?_;·repeat' constructor)
    exact end1b rfl rfl rfl
def manyB (l : List SPost) : Bool := decide (40 < l.length) || l.any longB
theorem many_ret (l : List SPost) : Ret Tryd.prog .shared 6 [.sl (l.map ePost)] (.bool (manyB l)) := by
  have hll : ((l.map ePost).length : Int) = l.length := by simp
  rw [manyB]
  refine Ret.of_pwp layOk mixed Go.Proofs.Tryd.func6 rfl (by decide) rfl rfl ?_
  repeat (refine stp rfl ?_ ?_;·repeat' constructor)
  rw [hll]
  refine pw_cond rfl (fun h => ?_) (fun h => ?_)
  · have := of_decide_eq_true h
    repeat (refine stp rfl ?_ ?_;·repeat' constructor)
    exact end1b rfl rfl (by rw [decide_eq_true (by omega)]; rfl)
  have h40 := of_decide_eq_false h
  clear h
  rw [decide_eq_false (show ¬ 40 < l.length by omega), Bool.false_or]
  repeat (refine stp rfl ?_ ?_;·repeat' constructor)
  refine pw_loop (Clear l longB) (fun k => [(0, .sl (l.map ePost)), (3, I k)]) (fun _ => []) (fun k => l.length - k) 0 .zero ⟨rfl, rfl, trivial⟩ ?_
  intro k s hk
  repeat (refine stp rfl ?_ ?_;·repeat' constructor)
  rw [hll]
  refine pw_cond rfl (fun h => ?_) (fun h => ?_)
  · have hlt : k < l.length := by have := of_decide_eq_true h; omega
    clear h
    obtain ⟨x, hx⟩ := get_lt hlt
    have hc := long_ret x
    generalize hb : longB x = b at hc
    repeat (refine stp rfl ?_ ?_;·repeat' constructor)
    apply qst;exact rfl;exact rfl;exact q_idxm rfl rfl rfl rfl rfl (by omega) hx rfl
    repeat (refine stp rfl ?_ ?_;·repeat' constructor)
    apply qst;exact rfl;exact rfl;exact q_callP rfl (hc) rfl (by repeat' constructor) rfl rfl
    cases b with
    | true =>
      repeat (refine stp rfl ?_ ?_;·repeat' constructor)
      exact end1b rfl rfl (by rw [any_of hx hb])
    | false =>
      repeat (refine stp rfl ?_ ?_;·repeat' constructor)
      refine ⟨k + 1, hk.succ hx hb, by omega, rfl, ?_, trivial⟩
      exact i64_next (by omega) (by omega)
  · have hf : ¬ k < l.length := by have := of_decide_eq_false h; omega
    repeat (refine stp rfl ?_ ?_;·repeat' constructor)
    exact end1b rfl rfl (by rw [hk.any hf])
theorem ints_ret (L M : List Int) (hL : L.length ≤ 1000000) : Ret Tryd.prog .shared 11 [.sl (L.map eI), .sl (M.map eI)] (.bool (decide (L = M))) := by
  have hl1 : ((L.map eI).length : Int) = L.length := by simp
  have hl2 : ((M.map eI).length : Int) = M.length := by simp
  refine Ret.of_pwp layOk mixed Go.Proofs.Tryd.func11 rfl (by decide) rfl rfl ?_
  repeat (refine stp rfl ?_ ?_;·repeat' constructor)
  rw [hl1, hl2]
  refine pw_cond rfl (fun h => ?_) (fun h => ?_)
  · have hne : ¬ (L.length : Int) = M.length := by simpa using h
    repeat (refine stp rfl ?_ ?_;·repeat' constructor)
    exact end1b rfl rfl (by rw [decide_eq_false (fun e => hne (by rw [e]))])
  have heq : L.length = M.length := by have : (L.length : Int) = M.length := by simpa using h
                                       omega
  clear h
  repeat (refine stp rfl ?_ ?_;·repeat' constructor)
  refine pw_loop (fun k => k ≤ L.length ∧ ∀ i, i < k → L[i]? = M[i]?) (fun k => [(0, .sl (L.map eI)), (1, .sl (M.map eI)), (5, I k)]) (fun _ => []) (fun k => L.length - k) 0 ⟨Nat.zero_le _, fun i h => by omega⟩ ⟨rfl, rfl, rfl, trivial⟩ ?_
  intro k s hk
  have hkl := hk.1
  repeat (refine stp rfl ?_ ?_;·repeat' constructor)
  rw [hl1]
  refine pw_cond rfl (fun h => ?_) (fun h => ?_)
  · have hlt : k < L.length := by have := of_decide_eq_true h; omega
    clear h
    obtain ⟨x, hx⟩ := get_lt hlt
    obtain ⟨y, hy⟩ := get_lt (show k < M.length by omega)
    repeat (refine stp rfl ?_ ?_;·repeat' constructor)
    refine pw_draw 9 [17, 18, 19, 20, 21, 22, 23, 24, 25] (by decide +kernel) ?_
    repeat (refine stp rfl ?_ ?_;·repeat' constructor)
    apply qst;exact rfl;exact rfl;exact q_idxm rfl rfl rfl rfl rfl (by omega) hx rfl
    repeat (refine stp rfl ?_ ?_;·repeat' constructor)
    apply qst;exact rfl;exact rfl;exact q_idxm rfl rfl rfl rfl rfl (by omega) hy rfl
    repeat (refine stp rfl ?_ ?_;·repeat' constructor)
    refine pw_cond rfl (fun h => ?_) (fun h => ?_)
    · have hne : ¬ x = y := by simpa using h
      repeat (refine stp rfl ?_ ?_;·repeat' constructor)
      exact end1b rfl rfl (by rw [decide_eq_false (fun e => hne (by rw [e, hy] at hx; exact (Option.some.inj hx).symm))])
    · have hxy : x = y := by simpa using h
      repeat (refine stp rfl ?_ ?_;·repeat' constructor)
      refine ⟨k + 1, ⟨hlt, fun i hi => ?_⟩, by omega, rfl, rfl, ?_, trivial⟩
      · by_cases hik : i = k
        · subst hik; rw [hx, hy, hxy]
        · exact hk.2 i (by omega)
      · exact i64_next (by omega) (by omega)
  · have hz : k = L.length := by have := of_decide_eq_false h; omega
    subst hz
    have : L = M := List.ext_getElem? fun i => by
      by_cases hi : i < L.length
      · exact hk.2 i hi
      · rw [List.getElem?_eq_none (by omega), List.getElem?_eq_none (by omega)]
    repeat (refine stp rfl ?_ ?_;·repeat' constructor)
    exact end1b rfl rfl (by rw [decide_eq_true this])
theorem ints_nil : Ret Tryd.prog .shared 11 [.nil, .nil] (.bool true) := by
  refine Ret.of_pwp layOk mixed Go.Proofs.Tryd.func11 rfl (by decide) rfl rfl ?_
  repeat (refine stp rfl ?_ ?_;·repeat' constructor)
  refine pw_loop (fun _ : Nat => True) (fun _ => [(0, .nil), (1, .nil), (5, I 0)]) (fun _ => []) (fun k => k) 0 trivial ⟨rfl, rfl, rfl, trivial⟩ ?_
  intro k s hk
  repeat (refine stp rfl ?_ ?_;·repeat' constructor)
  exact end1b rfl rfl rfl
/-- The entries of a list that are accepted, one after another. -/
def accR : List SPost → List SPost → List SPost
  | m, [] => m
  | m, p :: l => if refusalR m p = 0 then accR (m ++ [cleanP p]) l else accR m l
theorem accR_acc : ∀ {l m : List SPost}, Acc m → Acc (accR m l)
  | [], m, h => h
  | p :: l, m, h => by
    rw [accR]
    split
    · rename_i hr; exact accR_acc (h.snoc hr)
    · exact accR_acc h
theorem accR_len : ∀ (l m : List SPost), (accR m l).length ≤ m.length + l.length
  | [], m => by simp [accR]
  | p :: l, m => by
    rw [accR]
    split
    · have := accR_len l (m ++ [cleanP p]); simp at this ⊢; omega
    · have := accR_len l m; simp at this ⊢; omega
theorem accR_snoc : ∀ (l m : List SPost) (p : SPost), accR m (l ++ [p]) = if refusalR (accR m l) p = 0 then accR m l ++ [cleanP p] else accR m l
  | [], m, p => rfl
  | q :: l, m, p => by
    rw [List.cons_append, accR, accR]
    split <;> exact accR_snoc l _ p
end Go.Pv

/- What was accepted is accepted again; the book that the laws look at. -/
set_option maxHeartbeats 2000000
namespace Go.Pv
attribute [local irreducible] PWP POps PQuiet PSem XThen XBlock RetPost InlPost
open Go.Proofs

theorem clean_again {p : SPost} (h : inside p.op 0 8 = true) : cleanP (cleanP p) = cleanP p ∧ checkE (cleanP p) = checkE p ∧ ∀ l, refE l (cleanP p) = refE l p := by
  obtain ⟨op, day, o, i, s, w, a, r, ro⟩ := p
  rcases op_cases h with rfl | rfl | rfl | rfl | rfl | rfl | rfl | rfl | rfl <;> exact ⟨rfl, rfl, fun l => rfl⟩
theorem refusal_again {l : List SPost} {p : SPost} (h : refusalR l p = 0) : refusalR l (cleanP p) = 0 := by
  have h1 := refusalR_zero h
  obtain ⟨_, e2, e3⟩ := clean_again (checkE_op h1.1).1
  rw [refusalR, e2, (clean_op p).2, e3]
  rw [refusalR] at h
  exact h
theorem Acc.at_ {l : List SPost} (h : Acc l) : ∀ (j : Nat) p, l[j]? = some p → refusalR (l.take j) p = 0 ∧ cleanP p = p := by
  induction h with
  | nil => intro j p h; simp at h
  | snoc hl hr ih =>
    rename_i l q
    intro j p hp
    rcases snoc_get hp with ⟨hj, hp⟩ | ⟨rfl, rfl⟩
    · have := ih j p hp
      rw [List.take_append_of_le_length (by omega)]
      exact this
    · rw [List.take_left']
      · exact ⟨refusal_again hr, (clean_again (checkE_op (refusalR_zero hr).1).1).1⟩
      · rfl
theorem Acc.lod {l : List SPost} (h : Acc l) : lodN l = l.length ∧ lodE l = 0 ∧ lodL l = l := by
  have ht : ∀ j, (l.take j).map cleanP = l.take j := fun j => by
    have : ∀ (m : List SPost), (∀ p, p ∈ m → cleanP p = p) → m.map cleanP = m := fun m hm => by
      induction m with
      | nil => rfl
      | cons a m ih => rw [List.map_cons, hm a (by simp), ih fun p hp => hm p (by simp [hp])]
    refine this _ fun p hp => ?_
    obtain ⟨i, hi, rfl⟩ := List.getElem_of_mem (List.mem_of_mem_take hp)
    exact (h.at_ i _ (List.getElem?_eq_getElem hi)).2
  have hf : ∀ (j : Nat) b, l[j]? = some b → lodF l j b = 0 := fun j b hb => by
    rw [lodF, ht]; exact (h.at_ j b hb).1
  have h1 : lodN l = l.length := fstN_none hf
  refine ⟨h1, fstE_none hf, ?_⟩
  rw [lodL, h1, ht, List.take_length]
set_option maxRecDepth 20000 in
theorem loaded_ret (l : List SPost) (hl : l.length ≤ 400) : Ret Tryd.prog .shared 8 [.sl (l.map ePost)] (.tup [.dref (eBook (accR [] l)) 0, .sl ((accR [] l).map ePost)]) := by
  have hll : ((l.map ePost).length : Int) = l.length := by simp
  refine Ret.of_pwp layOk mixed Go.Proofs.Tryd.func8 rfl (by decide) rfl rfl ?_
  ((repeat (first | refine ps_nil ?_ | refine pq_nil ?_ | refine x_norm ?_ | refine pw_seq ?_)); refine pw_region ?_)
  refine ps_v rfl trivial ?_
  refine ps_v rfl trivial ?_
  ((repeat (first | refine ps_nil ?_ | refine pq_nil ?_ | refine x_norm ?_ | refine pw_seq ?_)); refine pw_region ?_)
  refine ps_v rfl trivial ?_
  refine ps_nil ?_
  refine x_norm ?_
  refine pw_ghost (Ghost.nilreg (k := 4) (t := 4) 42 9 0 rfl rfl) ?_
  repeat (refine stp rfl ?_ ?_;·repeat' constructor)
  refine pw_loop (fun k => k ≤ l.length) (fun k => [(0, .sl (l.map ePost)), (4, .als 4 (1 + (accR [] (l.take k)).length) 0 ((accR [] (l.take k)).map ePost).length), (5, I k)]) (fun k => [(4, 1 + (accR [] (l.take k)).length, ⟨42, 9, (accR [] (l.take k)).map ePost, 0⟩)]) (fun k => l.length - k) 0 (Nat.zero_le _) ⟨rfl, rfl, rfl, rfl, trivial⟩ ?_
  intro k s hk
  have hk : k ≤ l.length := hk
  repeat (refine stp rfl ?_ ?_;·repeat' constructor)
  rw [hll]
  refine pw_cond rfl (fun h => ?_) (fun h => ?_)
  · have hlt : k < l.length := by have := of_decide_eq_true h; omega
    clear h
    obtain ⟨x, hx⟩ := get_lt hlt
    have hs := accR_snoc (l.take k) [] x
    rw [← take_snoc hx] at hs
    have hacc := (accR_acc (l := l.take k) Acc.nil).ok.wf
    have hr := refusal_ref (accR [] (l.take k)) hacc x
    have hal : (accR [] (l.take k)).length ≤ 400 := hacc.len
    generalize accR [] (l.take k) = m at *
    repeat (refine stp rfl ?_ ?_;·repeat' constructor)
    apply qst;exact rfl;exact rfl;exact q_idxm rfl rfl rfl rfl rfl (by omega) hx rfl
    repeat (refine stp rfl ?_ ?_;·repeat' constructor)
    apply qst;exact rfl;exact rfl;exact q_callP rfl (hr) rfl (by repeat' constructor) rfl rfl
    repeat (refine stp rfl ?_ ?_;·repeat' constructor)
    refine pw_cond rfl (fun h => ?_) (fun h => ?_)
    · have h0 := of_decide_eq_true h
      have hc := clean_ref x (checkE_op (refusalR_zero h0).1).1
      rw [if_pos h0] at hs
      repeat (refine stp rfl ?_ ?_;·repeat' constructor)
      apply qst;exact rfl;exact rfl;exact q_idxm rfl rfl rfl rfl rfl (by omega) hx rfl
      repeat (refine stp rfl ?_ ?_;·repeat' constructor)
      apply qst;exact rfl;exact rfl;exact q_call rfl (hc) rfl (by repeat' constructor) rfl
      repeat (refine stp rfl ?_ ?_;·repeat' constructor)
      apply qst;exact rfl;exact rfl;exact q_slit rfl rfl rfl rfl rfl rfl rfl rfl rfl rfl (by repeat' constructor) rfl
      repeat (refine stp rfl ?_ ?_;·repeat' constructor)
      refine ps_run (o_app 0 rfl rfl rfl rfl rfl rfl rfl rfl rfl rfl rfl (by repeat' constructor) (by intro row hr; first | (simp at hr; subst hr; rfl) | simp at hr) rfl rfl (by simp; omega) (by simp; omega) ?_)
      repeat (refine stp rfl ?_ ?_;·repeat' constructor)
      refine ⟨k + 1, hlt, by omega, rfl, ?_, i64_next (by omega) (by omega), ?_, trivial⟩
      · rw [hs]; exact als_snoc ePost 4 1 m (cleanP x)
      · rw [hs]; exact cont_snoc ePost 1 42 9 0 m (cleanP x)
    · have h0 := of_decide_eq_false h
      rw [if_neg h0] at hs
      repeat (refine stp rfl ?_ ?_;·repeat' constructor)
      exact ⟨k + 1, hlt, by omega, rfl, by rw [hs]; rfl, i64_next (by omega) (by omega), by rw [hs]; rfl, trivial⟩
  · have hz : k = l.length := by have := of_decide_eq_false h; omega
    subst hz
    clear h
    rw [List.take_length]
    have hacc := accR_acc (l := l) Acc.nil
    have hml : ((((accR [] l).map ePost).length : Nat) : Int) = (accR [] l).length := by simp
    have hlen := hacc.ok.wf.len
    have hld := load_ret (accR [] l) (by omega)
    obtain ⟨e1, e2, e3⟩ := hacc.lod
    rw [e1, e2, e3] at hld
    generalize accR [] l = m at *
    repeat (refine stp rfl ?_ ?_;·repeat' constructor)
    apply qst;exact rfl;exact rfl;exact q_callF rfl (hld) rfl (by repeat' constructor) rfl
    repeat (refine stp rfl ?_ ?_;·repeat' constructor)
    rw [hml]
    refine pw_cond rfl (fun h => ?_) (fun h => ?_)
    · exact absurd (rfl : (m.length : Int) = m.length) (of_decide_eq_false (by simpa only [Bool.not_eq_true'] using h))
    · repeat (refine stp rfl ?_ ?_;·repeat' constructor)
      exact end2 rfl rfl rfl rfl rfl trivial (by repeat' constructor) rfl
end Go.Pv

/- The law of traces. -/
set_option maxHeartbeats 2000000
namespace Go.Pv
attribute [local irreducible] PWP POps PQuiet PSem XThen XBlock RetPost InlPost
open Go.Proofs

set_option maxRecDepth 20000 in
theorem traces_law (hawake : Ret Tryd.prog .shared 7 [] (.bool true)) (l : List SPost) (n : Int) : Ret Tryd.prog .shared 3 [.sl (l.map ePost), I n] (.bool true) := by
  have h6 := many_ret l
  cases hm : manyB l with
  | true =>
    rw [hm] at h6
    refine Ret.of_pwp layOk mixed Go.Proofs.Tryd.func3 rfl (by decide) rfl rfl ?_
    repeat (refine stp rfl ?_ ?_;·repeat' constructor)
    apply qst;exact rfl;exact rfl;exact q_callP rfl (h6) rfl (by repeat' constructor) rfl rfl
    repeat (refine stp rfl ?_ ?_;·repeat' constructor)
    apply qst;exact rfl;exact rfl;exact q_callP rfl (hawake) rfl (by repeat' constructor) rfl rfl
    repeat (refine stp rfl ?_ ?_;·repeat' constructor)
    exact end1b rfl rfl rfl
  | false =>
  rw [hm] at h6
  have hl : l.length ≤ 40 := by
    simp only [manyB, Bool.or_eq_false_iff, decide_eq_false_iff_not] at hm
    omega
  clear hm
  have h8 := loaded_ret l (by omega)
  have hO := (accR_acc (l := l) Acc.nil).ok
  generalize accR [] l = m at *
  have hlm := hO.wf.len
  have hml : ((m.map ePost).length : Int) = m.length := by simp
  have hwm : IntKind.wrap .i64 ((m.length : Int) + 1) = (m.length : Int) + 1 := wrap_i64 (by omega) (by omega)
  refine Ret.of_pwp layOk mixed Go.Proofs.Tryd.func3 rfl (by decide) rfl rfl ?_
  repeat (refine stp rfl ?_ ?_;·repeat' constructor)
  apply qst;exact rfl;exact rfl;exact q_callP rfl (h6) rfl (by repeat' constructor) rfl rfl
  repeat (refine stp rfl ?_ ?_;·repeat' constructor)
  apply qst;exact rfl;exact rfl;exact q_call rfl (h8) rfl (by repeat' constructor) rfl
  repeat (refine stp rfl ?_ ?_;·repeat' constructor)
  refine pw_loop (fun i => i ≤ m.length + 2) (fun i => [(1, I n), (5, .dref (eBook m) 0), (6, .sl (m.map ePost)), (7, I i)]) (fun _ => []) (fun i => m.length + 2 - i) 0 (Nat.zero_le _) ⟨rfl, rfl, rfl, rfl, trivial⟩ ?_
  intro i s hi
  have hi : i ≤ m.length + 2 := hi
  repeat (refine stp rfl ?_ ?_;·repeat' constructor)
  rw [hml, hwm]
  refine pw_cond rfl (fun h => ?_) (fun h => ?_)
  · have hlt : i ≤ m.length + 1 := by have := of_decide_eq_true h; omega
    clear h
    repeat (refine stp rfl ?_ ?_;·repeat' constructor)
    rw [hml, hwm]
    refine pw_cond rfl (fun h => ?_) (fun h => ?_)
    · clear h
      have hp := trace_ret m hO (n)
      have hq := trace_ref m hO (n)
      rw [trailR] at hp hq
      by_cases hz : aimE m (n) [3] = 0
      · rw [if_pos hz, trailV] at hp hq
        clear hz
        have hA := ints_ret (amF m (n) m.length) (amF m (n) m.length) (by have := amF_len m (n) m.length; omega)
        have hS := ints_ret (sigF m (n) m.length) (sigF m (n) m.length) (by have := sigF_len m (n) m.length; omega)
        rw [decide_eq_true rfl] at hA hS
        generalize amF m (n) m.length = am at *
        generalize sigF m (n) m.length = sg at *
        generalize invF m (n) m.length = iv at *
        generalize ordNo m (entL m (n)).order = oo at *
        generalize itmNo m (entL m (n)).order (entL m (n)).item = ii at *
        repeat (refine stp rfl ?_ ?_;·repeat' constructor)
        apply qst;exact rfl;exact rfl;exact q_callF rfl (hp) rfl (by repeat' constructor) rfl
        repeat (refine stp rfl ?_ ?_;·repeat' constructor)
        apply qst;exact rfl;exact rfl;exact q_callF rfl (hq) rfl (by repeat' constructor) rfl
        repeat (refine stp rfl ?_ ?_;·repeat' constructor)
        (first | refine ps_split rfl rfl (fun h => ?_) (fun h => ?_) | refine pq_split rfl rfl (fun h => ?_) (fun h => ?_) | refine p3_split rfl rfl (fun h => ?_) (fun h => ?_))
        · exact absurd rfl (show ¬ oo = oo by simpa using h)
        clear h
        repeat (refine stp rfl ?_ ?_;·repeat' constructor)
        (first | refine ps_split rfl rfl (fun h => ?_) (fun h => ?_) | refine pq_split rfl rfl (fun h => ?_) (fun h => ?_) | refine p3_split rfl rfl (fun h => ?_) (fun h => ?_))
        · exact absurd rfl (show ¬ ii = ii by simpa using h)
        clear h
        repeat (refine stp rfl ?_ ?_;·repeat' constructor)
        (first | refine ps_split rfl rfl (fun h => ?_) (fun h => ?_) | refine pq_split rfl rfl (fun h => ?_) (fun h => ?_) | refine p3_split rfl rfl (fun h => ?_) (fun h => ?_))
        · exact absurd rfl (show ¬ iv = iv by simpa using h)
        clear h
        repeat (refine stp rfl ?_ ?_;·repeat' constructor)
        apply qst;exact rfl;exact rfl;exact q_callP rfl (hA) rfl (by repeat' constructor) rfl rfl
        repeat (refine stp rfl ?_ ?_;·repeat' constructor)
        apply qst;exact rfl;exact rfl;exact q_callP rfl (hS) rfl (by repeat' constructor) rfl rfl
        repeat (refine stp rfl ?_ ?_;·repeat' constructor)
        exact ⟨i + 1, by omega, by omega, rfl, rfl, rfl, i64_next (by omega) (by omega), trivial⟩
      · rw [if_neg hz] at hp hq
        generalize aimE m (n) [3] = e at *
        repeat (refine stp rfl ?_ ?_;·repeat' constructor)
        apply qst;exact rfl;exact rfl;exact q_callF rfl (hp) rfl (by repeat' constructor) rfl
        repeat (refine stp rfl ?_ ?_;·repeat' constructor)
        apply qst;exact rfl;exact rfl;exact q_callF rfl (hq) rfl (by repeat' constructor) rfl
        repeat (refine stp rfl ?_ ?_;·repeat' constructor)
        apply qst;exact rfl;exact rfl;exact q_callP rfl (ints_nil) rfl (by repeat' constructor) rfl rfl
        repeat (refine stp rfl ?_ ?_;·repeat' constructor)
        apply qst;exact rfl;exact rfl;exact q_callP rfl (ints_nil) rfl (by repeat' constructor) rfl rfl
        repeat (refine stp rfl ?_ ?_;·repeat' constructor)
        refine pw_cond rfl (fun h => ?_) (fun h => ?_)
        · exact absurd rfl (show ¬ e = e by simpa using h)
        clear h
        repeat (refine stp rfl ?_ ?_;·repeat' constructor)
        exact ⟨i + 1, by omega, by omega, rfl, rfl, rfl, i64_next (by omega) (by omega), trivial⟩
    · clear h
      have hp := trace_ret m hO ((i : Int))
      have hq := trace_ref m hO ((i : Int))
      rw [trailR] at hp hq
      by_cases hz : aimE m ((i : Int)) [3] = 0
      · rw [if_pos hz, trailV] at hp hq
        clear hz
        have hA := ints_ret (amF m ((i : Int)) m.length) (amF m ((i : Int)) m.length) (by have := amF_len m ((i : Int)) m.length; omega)
        have hS := ints_ret (sigF m ((i : Int)) m.length) (sigF m ((i : Int)) m.length) (by have := sigF_len m ((i : Int)) m.length; omega)
        rw [decide_eq_true rfl] at hA hS
        generalize amF m ((i : Int)) m.length = am at *
        generalize sigF m ((i : Int)) m.length = sg at *
        generalize invF m ((i : Int)) m.length = iv at *
        generalize ordNo m (entL m ((i : Int))).order = oo at *
        generalize itmNo m (entL m ((i : Int))).order (entL m ((i : Int))).item = ii at *
        repeat (refine stp rfl ?_ ?_;·repeat' constructor)
        apply qst;exact rfl;exact rfl;exact q_callF rfl (hp) rfl (by repeat' constructor) rfl
        repeat (refine stp rfl ?_ ?_;·repeat' constructor)
        apply qst;exact rfl;exact rfl;exact q_callF rfl (hq) rfl (by repeat' constructor) rfl
        repeat (refine stp rfl ?_ ?_;·repeat' constructor)
        (first | refine ps_split rfl rfl (fun h => ?_) (fun h => ?_) | refine pq_split rfl rfl (fun h => ?_) (fun h => ?_) | refine p3_split rfl rfl (fun h => ?_) (fun h => ?_))
        · exact absurd rfl (show ¬ oo = oo by simpa using h)
        clear h
        repeat (refine stp rfl ?_ ?_;·repeat' constructor)
        (first | refine ps_split rfl rfl (fun h => ?_) (fun h => ?_) | refine pq_split rfl rfl (fun h => ?_) (fun h => ?_) | refine p3_split rfl rfl (fun h => ?_) (fun h => ?_))
        · exact absurd rfl (show ¬ ii = ii by simpa using h)
        clear h
        repeat (refine stp rfl ?_ ?_;·repeat' constructor)
        (first | refine ps_split rfl rfl (fun h => ?_) (fun h => ?_) | refine pq_split rfl rfl (fun h => ?_) (fun h => ?_) | refine p3_split rfl rfl (fun h => ?_) (fun h => ?_))
        · exact absurd rfl (show ¬ iv = iv by simpa using h)
        clear h
        repeat (refine stp rfl ?_ ?_;·repeat' constructor)
        apply qst;exact rfl;exact rfl;exact q_callP rfl (hA) rfl (by repeat' constructor) rfl rfl
        repeat (refine stp rfl ?_ ?_;·repeat' constructor)
        apply qst;exact rfl;exact rfl;exact q_callP rfl (hS) rfl (by repeat' constructor) rfl rfl
        repeat (refine stp rfl ?_ ?_;·repeat' constructor)
        exact ⟨i + 1, by omega, by omega, rfl, rfl, rfl, i64_next (by omega) (by omega), trivial⟩
      · rw [if_neg hz] at hp hq
        generalize aimE m ((i : Int)) [3] = e at *
        repeat (refine stp rfl ?_ ?_;·repeat' constructor)
        apply qst;exact rfl;exact rfl;exact q_callF rfl (hp) rfl (by repeat' constructor) rfl
        repeat (refine stp rfl ?_ ?_;·repeat' constructor)
        apply qst;exact rfl;exact rfl;exact q_callF rfl (hq) rfl (by repeat' constructor) rfl
        repeat (refine stp rfl ?_ ?_;·repeat' constructor)
        apply qst;exact rfl;exact rfl;exact q_callP rfl (ints_nil) rfl (by repeat' constructor) rfl rfl
        repeat (refine stp rfl ?_ ?_;·repeat' constructor)
        apply qst;exact rfl;exact rfl;exact q_callP rfl (ints_nil) rfl (by repeat' constructor) rfl rfl
        repeat (refine stp rfl ?_ ?_;·repeat' constructor)
        refine pw_cond rfl (fun h => ?_) (fun h => ?_)
        · exact absurd rfl (show ¬ e = e by simpa using h)
        clear h
        repeat (refine stp rfl ?_ ?_;·repeat' constructor)
        exact ⟨i + 1, by omega, by omega, rfl, rfl, rfl, i64_next (by omega) (by omega), trivial⟩
  · repeat (refine stp rfl ?_ ?_;·repeat' constructor)
    apply qst;exact rfl;exact rfl;exact q_callP rfl (hawake) rfl (by repeat' constructor) rfl rfl
    repeat (refine stp rfl ?_ ?_;·repeat' constructor)
    exact end1b rfl rfl rfl
end Go.Pv

/- The library's contracts at this seat, laid by the kit's tool. -/
namespace Go.Proofs
open Go.Shelf
def Tryd.lays169_ren : Go.Shelf.Ren := ⟨fun | 169 => 74 | n => n, fun | 70 => 112 | 9 => 9 | 0 => 0 | 72 => 114 | 37 => 111 | 127 => 123 | 3 => 3 | 5 => 5 | n => n, fun | n => n⟩
theorem Tryd.lays169 : Go.Proofs.Lays.n169 Tryd.prog Tryd.lays169_ren := {
  mixed := by kernel_rfl
  f169 := Tryd.func74.trans (congrArg some (by kernel_rfl))
  t0 := Tryd.underlying0
  a0 := Tryd.isAgg0
  z0 := Tryd.sizeOf0
  v0 := Tryd.zeroValue0
  t3 := Tryd.underlying3
  a3 := Tryd.isAgg3
  z3 := Tryd.sizeOf3
  v3 := Tryd.zeroValue3
  t9 := Tryd.underlying9
  a9 := Tryd.isAgg9
  z9 := Tryd.sizeOf9
  v9 := Tryd.zeroValue9
  t37 := Tryd.underlying111
  a37 := Tryd.isAgg111
  z37 := Tryd.sizeOf111
  v37 := Tryd.zeroValue111
  t70 := Tryd.underlying112
  a70 := Tryd.isAgg112
  z70 := Tryd.sizeOf112
  v70 := Tryd.zeroValue112
  t72 := Tryd.underlying114
  a72 := Tryd.isAgg114
  z72 := Tryd.sizeOf114
  v72 := Tryd.zeroValue114
  t127 := Tryd.underlying123
  a127 := Tryd.isAgg123
  z127 := Tryd.sizeOf123
  v127 := Tryd.zeroValue123 }
theorem Tryd.Builder_Extra_169 : Builder.Extra Tryd.prog Tryd.lays169_ren := {
  sizeBuilder := by kernel_rfl
  liesBuilder := by kernel_rfl
  t5 := Tryd.underlying5
  a5 := Tryd.isAgg5
  z5 := Tryd.sizeOf5
  v5 := Tryd.zeroValue5
  infoByte := by kernel_rfl
  cellsByte := by kernel_rfl
  sizeByte := by kernel_rfl
  neB5 := by decide }
open Go.RowKit in
theorem Tryd.Builder_String (B b : Nat) (l : List UInt8) (w : World) (h : Lib.IsBuilder 114 5 B b (Lib.byteCells l) w) (h0 : l ≠ []) :
    Calls Tryd.prog 74 #[.pointer (some ⟨b, 0, none⟩)] w fun e w' => e = .returned (.string ⟨l.toArray⟩) ∧ Below B w w' := Any.Builder_String Tryd.lays169 Tryd.Builder_Extra_169 B b l w h h0
open Go.RowKit in
theorem Tryd.Builder_String_empty (B b : Nat) (w : World) (h : Lib.IsBuilder 114 5 B b [] w) (hBw : B ≤ w.heap.size) :
    Calls Tryd.prog 74 #[.pointer (some ⟨b, 0, none⟩)] w fun e w' => e = .returned (.string ⟨#[]⟩) ∧ Below B w w' := Any.Builder_String_empty Tryd.lays169 Tryd.Builder_Extra_169 B b w h hBw
open Go.RowKit in
theorem Tryd.Builder_String_any (B b : Nat) (l : List UInt8) (w : World) (h : Lib.IsBuilder 114 5 B b (Lib.byteCells l) w) (hBw : B ≤ w.heap.size) :
    Calls Tryd.prog 74 #[.pointer (some ⟨b, 0, none⟩)] w fun e w' => e = .returned (.string ⟨l.toArray⟩) ∧ Below B w w' := Any.Builder_String_any Tryd.lays169 Tryd.Builder_Extra_169 B b l w h hBw
def Tryd.lays241_ren : Go.Shelf.Ren := ⟨fun | 241 => 78 | 277 => 84 | n => n, fun | 70 => 112 | 3 => 3 | 0 => 0 | 72 => 114 | 37 => 111 | 5 => 5 | n => n, fun | n => n⟩
theorem Tryd.lays241 : Go.Proofs.Lays.n241 Tryd.prog Tryd.lays241_ren := {
  mixed := by kernel_rfl
  f241 := Tryd.func78.trans (congrArg some (by kernel_rfl))
  f277 := Tryd.func84.trans (congrArg some (by kernel_rfl))
  t0 := Tryd.underlying0
  a0 := Tryd.isAgg0
  z0 := Tryd.sizeOf0
  v0 := Tryd.zeroValue0
  t3 := Tryd.underlying3
  a3 := Tryd.isAgg3
  z3 := Tryd.sizeOf3
  v3 := Tryd.zeroValue3
  t37 := Tryd.underlying111
  a37 := Tryd.isAgg111
  z37 := Tryd.sizeOf111
  v37 := Tryd.zeroValue111
  t70 := Tryd.underlying112
  a70 := Tryd.isAgg112
  z70 := Tryd.sizeOf112
  v70 := Tryd.zeroValue112
  t72 := Tryd.underlying114
  a72 := Tryd.isAgg114
  z72 := Tryd.sizeOf114
  v72 := Tryd.zeroValue114 }
theorem Tryd.Builder_Extra_241 : Builder.Extra Tryd.prog Tryd.lays241_ren := {
  sizeBuilder := by kernel_rfl
  liesBuilder := by kernel_rfl
  t5 := Tryd.underlying5
  a5 := Tryd.isAgg5
  z5 := Tryd.sizeOf5
  v5 := Tryd.zeroValue5
  infoByte := by kernel_rfl
  cellsByte := by kernel_rfl
  sizeByte := by kernel_rfl
  neB5 := by decide }
open Go.RowKit in
theorem Tryd.Builder_grow_fresh (B b n : Nat) (w : World) (hB : B ≤ b) (hbk : w.heap[b]? = some (.cells #[.pointer (some ⟨b, 0, none⟩), .slice none 0 0] 114 (0, 0))) (hBw : B ≤ w.heap.size) (hn : n ≤ 281474976710656) :
    Calls Tryd.prog 78 #[.pointer (some ⟨b, 0, none⟩), .int .i64 n] w fun e w' => e = .returned (.tuple #[]) ∧ (Lib.BuilderAt 114 5 B b (.pointer (some ⟨b, 0, none⟩)) [] w' ∧ Below B w w') := Any.Builder_grow_fresh Tryd.lays241 Tryd.Builder_Extra_241 B b n w hB hbk hBw hn
def Tryd.lays165_ren : Go.Shelf.Ren := ⟨fun | 165 => 72 | 240 => 77 | 241 => 78 | 276 => 83 | 277 => 84 | n => n, fun | 70 => 112 | 3 => 3 | 0 => 0 | 4 => 4 | 9 => 9 | 20 => 20 | 72 => 114 | 37 => 111 | 164 => 130 | 5 => 5 | n => n, fun | n => n⟩
theorem Tryd.lays165 : Go.Proofs.Lays.n165 Tryd.prog Tryd.lays165_ren := {
  mixed := by kernel_rfl
  f165 := Tryd.func72.trans (congrArg some (by kernel_rfl))
  f240 := Tryd.func77.trans (congrArg some (by kernel_rfl))
  f241 := Tryd.func78.trans (congrArg some (by kernel_rfl))
  f276 := Tryd.func83.trans (congrArg some (by kernel_rfl))
  f277 := Tryd.func84.trans (congrArg some (by kernel_rfl))
  t0 := Tryd.underlying0
  a0 := Tryd.isAgg0
  z0 := Tryd.sizeOf0
  v0 := Tryd.zeroValue0
  t3 := Tryd.underlying3
  a3 := Tryd.isAgg3
  z3 := Tryd.sizeOf3
  v3 := Tryd.zeroValue3
  t4 := Tryd.underlying4
  a4 := Tryd.isAgg4
  z4 := Tryd.sizeOf4
  v4 := Tryd.zeroValue4
  t9 := Tryd.underlying9
  a9 := Tryd.isAgg9
  z9 := Tryd.sizeOf9
  v9 := Tryd.zeroValue9
  t20 := Tryd.underlying20
  a20 := Tryd.isAgg20
  z20 := Tryd.sizeOf20
  v20 := Tryd.zeroValue20
  t37 := Tryd.underlying111
  a37 := Tryd.isAgg111
  z37 := Tryd.sizeOf111
  v37 := Tryd.zeroValue111
  t70 := Tryd.underlying112
  a70 := Tryd.isAgg112
  z70 := Tryd.sizeOf112
  v70 := Tryd.zeroValue112
  t72 := Tryd.underlying114
  a72 := Tryd.isAgg114
  z72 := Tryd.sizeOf114
  v72 := Tryd.zeroValue114
  t164 := Tryd.underlying130
  a164 := Tryd.isAgg130
  z164 := Tryd.sizeOf130
  v164 := Tryd.zeroValue130 }
theorem Tryd.Builder_Extra_165 : Builder.Extra Tryd.prog Tryd.lays165_ren := {
  sizeBuilder := by kernel_rfl
  liesBuilder := by kernel_rfl
  t5 := Tryd.underlying5
  a5 := Tryd.isAgg5
  z5 := Tryd.sizeOf5
  v5 := Tryd.zeroValue5
  infoByte := by kernel_rfl
  cellsByte := by kernel_rfl
  sizeByte := by kernel_rfl
  neB5 := by decide }
open Go.RowKit in
theorem Tryd.Builder_Grow_fresh (B b n : Nat) (w : World) (hB : B ≤ b) (hbk : w.heap[b]? = some (.cells #[.pointer none, .slice none 0 0] 114 (0, 0))) (hBw : B ≤ w.heap.size) (hn : n ≤ 281474976710656) :
    Calls Tryd.prog 72 #[.pointer (some ⟨b, 0, none⟩), .int .i64 n] w fun e w' => e = .returned (.tuple #[]) ∧ (Lib.BuilderAt 114 5 B b (.pointer (some ⟨b, 0, none⟩)) [] w' ∧ Below B w w') := Any.Builder_Grow_fresh Tryd.lays165 Tryd.Builder_Extra_165 B b n w hB hbk hBw hn
def Tryd.lays156_ren : Go.Shelf.Ren := ⟨fun | 156 => 65 | 165 => 72 | 166 => 73 | 169 => 74 | 240 => 77 | 241 => 78 | 276 => 83 | 277 => 84 | n => n, fun | 31 => 104 | 9 => 9 | 3 => 3 | 4 => 4 | 0 => 0 | 20 => 20 | 72 => 114 | 76 => 118 | 70 => 112 | 37 => 111 | 75 => 117 | 127 => 123 | 164 => 130 | 5 => 5 | 80 => 120 | n => n, fun | n => n⟩
theorem Tryd.lays156 : Go.Proofs.Lays.n156 Tryd.prog Tryd.lays156_ren := {
  mixed := by kernel_rfl
  f156 := Tryd.func65.trans (congrArg some (by kernel_rfl))
  f165 := Tryd.func72.trans (congrArg some (by kernel_rfl))
  f166 := Tryd.func73.trans (congrArg some (by kernel_rfl))
  f169 := Tryd.func74.trans (congrArg some (by kernel_rfl))
  f240 := Tryd.func77.trans (congrArg some (by kernel_rfl))
  f241 := Tryd.func78.trans (congrArg some (by kernel_rfl))
  f276 := Tryd.func83.trans (congrArg some (by kernel_rfl))
  f277 := Tryd.func84.trans (congrArg some (by kernel_rfl))
  t0 := Tryd.underlying0
  a0 := Tryd.isAgg0
  z0 := Tryd.sizeOf0
  v0 := Tryd.zeroValue0
  t3 := Tryd.underlying3
  a3 := Tryd.isAgg3
  z3 := Tryd.sizeOf3
  v3 := Tryd.zeroValue3
  t4 := Tryd.underlying4
  a4 := Tryd.isAgg4
  z4 := Tryd.sizeOf4
  v4 := Tryd.zeroValue4
  t9 := Tryd.underlying9
  a9 := Tryd.isAgg9
  z9 := Tryd.sizeOf9
  v9 := Tryd.zeroValue9
  t20 := Tryd.underlying20
  a20 := Tryd.isAgg20
  z20 := Tryd.sizeOf20
  v20 := Tryd.zeroValue20
  t31 := Tryd.underlying104
  a31 := Tryd.isAgg104
  z31 := Tryd.sizeOf104
  v31 := Tryd.zeroValue104
  t37 := Tryd.underlying111
  a37 := Tryd.isAgg111
  z37 := Tryd.sizeOf111
  v37 := Tryd.zeroValue111
  t70 := Tryd.underlying112
  a70 := Tryd.isAgg112
  z70 := Tryd.sizeOf112
  v70 := Tryd.zeroValue112
  t72 := Tryd.underlying114
  a72 := Tryd.isAgg114
  z72 := Tryd.sizeOf114
  v72 := Tryd.zeroValue114
  t75 := Tryd.underlying117
  a75 := Tryd.isAgg117
  z75 := Tryd.sizeOf117
  v75 := Tryd.zeroValue117
  t76 := Tryd.underlying118
  a76 := Tryd.isAgg118
  z76 := Tryd.sizeOf118
  v76 := Tryd.zeroValue118
  t127 := Tryd.underlying123
  a127 := Tryd.isAgg123
  z127 := Tryd.sizeOf123
  v127 := Tryd.zeroValue123
  t164 := Tryd.underlying130
  a164 := Tryd.isAgg130
  z164 := Tryd.sizeOf130
  v164 := Tryd.zeroValue130 }
theorem Tryd.Builder_Extra_156 : Builder.Extra Tryd.prog Tryd.lays156_ren := {
  sizeBuilder := by kernel_rfl
  liesBuilder := by kernel_rfl
  t5 := Tryd.underlying5
  a5 := Tryd.isAgg5
  z5 := Tryd.sizeOf5
  v5 := Tryd.zeroValue5
  infoByte := by kernel_rfl
  cellsByte := by kernel_rfl
  sizeByte := by kernel_rfl
  neB5 := by decide }
open Go.RowKit in
theorem Tryd.strings_Join_none (a : Option Addr) (c : Nat) (sep : ByteArray) (w : World) :
    Calls Tryd.prog 65 #[.slice a 0 c, .string sep] w fun e w' => e = .returned (.string ⟨#[]⟩) ∧ w' = w := Any.strings_Join_none Tryd.lays156 Tryd.Builder_Extra_156 a c sep w
open Go.RowKit in
theorem Tryd.strings_Join (bk o c : Nat) (xs : List ByteArray) (sep : ByteArray) (w : World) (hcells : ∀ (j : Nat) x, xs[j]? = some x → w.cell? ⟨bk, o + j, none⟩ = some (.string x)) (hbk : bk < w.heap.size) (hN : xs.length ≤ 140737488355328) (hcap : xs.length ≤ c) (hlen : (Lib.join (xs.map (·.data.toList)) sep.data.toList).length ≤ 140737488355328) :
    Calls Tryd.prog 65 #[.slice (some ⟨bk, o, none⟩) xs.length c, .string sep] w fun e w' => e = .returned (.string ⟨(Lib.join (xs.map (·.data.toList)) sep.data.toList).toArray⟩) ∧ Below w.heap.size w w' := Any.strings_Join Tryd.lays156 Tryd.Builder_Extra_156 bk o c xs sep w hcells hbk hN hcap hlen
def Tryd.lays129_ren : Go.Shelf.Ren := ⟨fun | 129 => 86 | n => n, fun | 53 => 125 | 3 => 3 | 4 => 4 | 46 => 138 | 5 => 5 | 9 => 9 | n => n, fun | n => n⟩
theorem Tryd.lays129 : Go.Proofs.Lays.n129 Tryd.prog Tryd.lays129_ren := {
  mixed := by kernel_rfl
  f129 := Tryd.func86.trans (congrArg some (by kernel_rfl))
  t3 := Tryd.underlying3
  a3 := Tryd.isAgg3
  z3 := Tryd.sizeOf3
  v3 := Tryd.zeroValue3
  t4 := Tryd.underlying4
  a4 := Tryd.isAgg4
  z4 := Tryd.sizeOf4
  v4 := Tryd.zeroValue4
  t5 := Tryd.underlying5
  a5 := Tryd.isAgg5
  z5 := Tryd.sizeOf5
  v5 := Tryd.zeroValue5
  t9 := Tryd.underlying9
  a9 := Tryd.isAgg9
  z9 := Tryd.sizeOf9
  v9 := Tryd.zeroValue9
  t46 := Tryd.underlying138
  a46 := Tryd.isAgg138
  z46 := Tryd.sizeOf138
  v46 := Tryd.zeroValue138
  t53 := Tryd.underlying125
  a53 := Tryd.isAgg125
  z53 := Tryd.sizeOf125
  v53 := Tryd.zeroValue125 }
theorem Tryd.bits_Len64 (x : Int) (w : World) (h0 : 0 ≤ x) (h1 : x ≤ 18446744073709551615) :
    Calls Tryd.prog 86 #[.int .u64 x] w fun e w' => e = .returned (.int .i64 (Lib.bitLen x.toNat)) ∧ w' = w := Any.bits_Len64 Tryd.lays129 x w h0 h1
def Tryd.lays317_ren : Go.Shelf.Ren := ⟨fun | 317 => 85 | n => n, fun | 3 => 3 | 46 => 138 | n => n, fun | n => n⟩
theorem Tryd.lays317 : Go.Proofs.Lays.n317 Tryd.prog Tryd.lays317_ren := {
  mixed := by kernel_rfl
  f317 := Tryd.func85.trans (congrArg some (by kernel_rfl))
  t3 := Tryd.underlying3
  a3 := Tryd.isAgg3
  z3 := Tryd.sizeOf3
  v3 := Tryd.zeroValue3
  t46 := Tryd.underlying138
  a46 := Tryd.isAgg138
  z46 := Tryd.sizeOf138
  v46 := Tryd.zeroValue138 }
open Go.Lib in
theorem Tryd.internal_strconv_log10Pow2 (x : Nat) (h : x ≤ 64) (w : World) :
    Calls Tryd.prog 85 #[.int .i64 x] w fun e w' => e = .returned (.int .i64 (Lib.l10 x)) ∧ w' = w := Any.internal_strconv_log10Pow2 Tryd.lays317 x h w
def Tryd.lays318_ren : Go.Shelf.Ren := ⟨fun | 318 => 87 | n => n, fun | 3 => 3 | 4 => 4 | n => n, fun | n => n⟩
theorem Tryd.lays318 : Go.Proofs.Lays.n318 Tryd.prog Tryd.lays318_ren := {
  mixed := by kernel_rfl
  f318 := Tryd.func87.trans (congrArg some (by kernel_rfl))
  t3 := Tryd.underlying3
  a3 := Tryd.isAgg3
  z3 := Tryd.sizeOf3
  v3 := Tryd.zeroValue3
  t4 := Tryd.underlying4
  a4 := Tryd.isAgg4
  z4 := Tryd.sizeOf4
  v4 := Tryd.zeroValue4 }
open Go.Lib in
theorem Tryd.internal_strconv_bool2_int (b : Bool) (w : World) :
    Calls Tryd.prog 87 #[.bool b] w fun e w' => e = .returned (.int .i64 (if b then 1 else 0)) ∧ w' = w := Any.internal_strconv_bool2_int Tryd.lays318 b w
def Tryd.lays283_ren : Go.Shelf.Ren := ⟨fun | 283 => 79 | n => n, fun | 3 => 3 | 9 => 9 | 4 => 4 | n => n, fun | n => n⟩
theorem Tryd.lays283 : Go.Proofs.Lays.n283 Tryd.prog Tryd.lays283_ren := {
  mixed := by kernel_rfl
  f283 := Tryd.func79.trans (congrArg some (by kernel_rfl))
  t3 := Tryd.underlying3
  a3 := Tryd.isAgg3
  z3 := Tryd.sizeOf3
  v3 := Tryd.zeroValue3
  t4 := Tryd.underlying4
  a4 := Tryd.isAgg4
  z4 := Tryd.sizeOf4
  v4 := Tryd.zeroValue4
  t9 := Tryd.underlying9
  a9 := Tryd.isAgg9
  z9 := Tryd.sizeOf9
  v9 := Tryd.zeroValue9 }
open Go.Lib in
theorem Tryd.internal_strconv_small (i : Nat) (h : i < 100) (w : World) :
    Calls Tryd.prog 79 #[.int .i64 i] w fun e w' => e = .returned (.string ⟨(Lib.decDigits i).toArray⟩) ∧ w' = w := Any.internal_strconv_small Tryd.lays283 i h w
def Tryd.laysM284_ren : Go.Shelf.Ren := ⟨fun | 284 => 80 | 129 => 86 | 317 => 85 | 318 => 87 | n => n, fun | 53 => 125 | 3 => 3 | 212 => 135 | 0 => 0 | 4 => 4 | 46 => 138 | 5 => 5 | 9 => 9 | n => n, fun | 17 => 0 | n => n⟩
theorem Tryd.laysM284 : Go.Proofs.LaysM.n284 Tryd.prog Tryd.laysM284_ren := {
  mixed := by kernel_rfl
  f129 := Tryd.func86.trans (congrArg some (by kernel_rfl))
  f284 := Tryd.func80.trans (congrArg some (by kernel_rfl))
  f317 := Tryd.func85.trans (congrArg some (by kernel_rfl))
  f318 := Tryd.func87.trans (congrArg some (by kernel_rfl))
  t0 := Tryd.underlying0
  a0 := Tryd.isAgg0
  z0 := Tryd.sizeOf0
  v0 := Tryd.zeroValue0
  t3 := Tryd.underlying3
  a3 := Tryd.isAgg3
  z3 := Tryd.sizeOf3
  v3 := Tryd.zeroValue3
  t4 := Tryd.underlying4
  a4 := Tryd.isAgg4
  z4 := Tryd.sizeOf4
  v4 := Tryd.zeroValue4
  t5 := Tryd.underlying5
  a5 := Tryd.isAgg5
  z5 := Tryd.sizeOf5
  v5 := Tryd.zeroValue5
  t9 := Tryd.underlying9
  a9 := Tryd.isAgg9
  z9 := Tryd.sizeOf9
  v9 := Tryd.zeroValue9
  t46 := Tryd.underlying138
  a46 := Tryd.isAgg138
  z46 := Tryd.sizeOf138
  v46 := Tryd.zeroValue138
  t53 := Tryd.underlying125
  a53 := Tryd.isAgg125
  z53 := Tryd.sizeOf125
  v53 := Tryd.zeroValue125
  t212 := Tryd.underlying135
  a212 := Tryd.isAgg135
  z212 := Tryd.sizeOf135
  v212 := Tryd.zeroValue135
  g17 := by kernel_rfl
  i0 := by kernel_rfl
  i3 := by kernel_rfl
  i4 := by kernel_rfl
  i5 := by kernel_rfl
  i9 := by kernel_rfl
  i46 := by kernel_rfl
  i53 := by kernel_rfl
  i212 := by kernel_rfl
  m17 := by kernel_rfl }
open Go.Lib in
theorem Tryd.internal_strconv_numDigits (u : Nat) (h1 : 1 ≤ u) (h2 : u < 18446744073709551616) (w : World) (htab : Lib.TabIs Tryd.prog w "internal/strconv.uint64pow10" .u64 Lib.pow10Tab) :
    Calls Tryd.prog 80 #[.int .u64 u] w fun e w' => e = .returned (.int .i64 (Lib.nDigits u)) ∧ w' = w := Any.internal_strconv_numDigits Tryd.laysM284 u h1 h2 w htab
def Tryd.lays285_ren : Go.Shelf.Ren := ⟨fun | 285 => 81 | n => n, fun | 37 => 111 | 53 => 125 | 3 => 3 | 4 => 4 | 51 => 136 | 9 => 9 | 5 => 5 | 0 => 0 | n => n, fun | n => n⟩
theorem Tryd.lays285 : Go.Proofs.Lays.n285 Tryd.prog Tryd.lays285_ren := {
  mixed := by kernel_rfl
  f285 := Tryd.func81.trans (congrArg some (by kernel_rfl))
  t0 := Tryd.underlying0
  a0 := Tryd.isAgg0
  z0 := Tryd.sizeOf0
  v0 := Tryd.zeroValue0
  t3 := Tryd.underlying3
  a3 := Tryd.isAgg3
  z3 := Tryd.sizeOf3
  v3 := Tryd.zeroValue3
  t4 := Tryd.underlying4
  a4 := Tryd.isAgg4
  z4 := Tryd.sizeOf4
  v4 := Tryd.zeroValue4
  t5 := Tryd.underlying5
  a5 := Tryd.isAgg5
  z5 := Tryd.sizeOf5
  v5 := Tryd.zeroValue5
  t9 := Tryd.underlying9
  a9 := Tryd.isAgg9
  z9 := Tryd.sizeOf9
  v9 := Tryd.zeroValue9
  t37 := Tryd.underlying111
  a37 := Tryd.isAgg111
  z37 := Tryd.sizeOf111
  v37 := Tryd.zeroValue111
  t51 := Tryd.underlying136
  a51 := Tryd.isAgg136
  z51 := Tryd.sizeOf136
  v51 := Tryd.zeroValue136
  t53 := Tryd.underlying125
  a53 := Tryd.isAgg125
  z53 := Tryd.sizeOf125
  v53 := Tryd.zeroValue125 }
open Go.RowKit Go.Sort Go.Lib in
theorem Tryd.internal_strconv_formatBase10 (blk off cap : Nat) (u : Nat) (d : Array UInt8) (w : World) (hH : Holds (fun (b : UInt8) => Value.int .u8 (b.toNat : Int)) w blk off d) (hu : u < 10 ^ d.size) (hu64 : u < 18446744073709551616) (hsz : d.size < 4611686018427387904) :
    Calls Tryd.prog 81 #[.slice (some ⟨blk, off, none⟩) d.size cap, .int .u64 u] w fun e w' =>
      e = .returned (.tuple #[]) ∧ ∃ (n v' : Nat) (dk : Array UInt8), w' = (putRow (fun (b : UInt8) => Value.int .u8 (b.toNat : Int)) w blk off dk).drewN n ∧ FmtInv d.size u 0 v' dk := Any.internal_strconv_formatBase10 Tryd.lays285 blk off cap u d w hH hu hu64 hsz
def Tryd.laysM246_ren : Go.Shelf.Ren := ⟨fun | 246 => 76 | 283 => 79 | 284 => 80 | 285 => 81 | 286 => 82 | 129 => 86 | 317 => 85 | 318 => 87 | 319 => 88 | 320 => 89 | 337 => 90 | 338 => 91 | n => n, fun | 2 => 2 | 3 => 3 | 9 => 9 | 4 => 4 | 171 => 124 | 0 => 0 | 53 => 125 | 37 => 111 | 5 => 5 | 173 => 128 | 212 => 135 | 51 => 136 | 20 => 20 | 213 => 137 | 46 => 138 | 232 => 141 | 233 => 142 | n => n, fun | 17 => 0 | 18 => 2 | 19 => 3 | n => n⟩
theorem Tryd.laysM246 : Go.Proofs.LaysM.n246 Tryd.prog Tryd.laysM246_ren := {
  mixed := by kernel_rfl
  f129 := Tryd.func86.trans (congrArg some (by kernel_rfl))
  f246 := Tryd.func76.trans (congrArg some (by kernel_rfl))
  f283 := Tryd.func79.trans (congrArg some (by kernel_rfl))
  f284 := Tryd.func80.trans (congrArg some (by kernel_rfl))
  f285 := Tryd.func81.trans (congrArg some (by kernel_rfl))
  f286 := Tryd.func82.trans (congrArg some (by kernel_rfl))
  f317 := Tryd.func85.trans (congrArg some (by kernel_rfl))
  f318 := Tryd.func87.trans (congrArg some (by kernel_rfl))
  f319 := Tryd.func88.trans (congrArg some (by kernel_rfl))
  f320 := Tryd.func89.trans (congrArg some (by kernel_rfl))
  f337 := Tryd.func90.trans (congrArg some (by kernel_rfl))
  f338 := Tryd.func91.trans (congrArg some (by kernel_rfl))
  t0 := Tryd.underlying0
  a0 := Tryd.isAgg0
  z0 := Tryd.sizeOf0
  v0 := Tryd.zeroValue0
  t2 := Tryd.underlying2
  a2 := Tryd.isAgg2
  z2 := Tryd.sizeOf2
  v2 := Tryd.zeroValue2
  t3 := Tryd.underlying3
  a3 := Tryd.isAgg3
  z3 := Tryd.sizeOf3
  v3 := Tryd.zeroValue3
  t4 := Tryd.underlying4
  a4 := Tryd.isAgg4
  z4 := Tryd.sizeOf4
  v4 := Tryd.zeroValue4
  t5 := Tryd.underlying5
  a5 := Tryd.isAgg5
  z5 := Tryd.sizeOf5
  v5 := Tryd.zeroValue5
  t9 := Tryd.underlying9
  a9 := Tryd.isAgg9
  z9 := Tryd.sizeOf9
  v9 := Tryd.zeroValue9
  t20 := Tryd.underlying20
  a20 := Tryd.isAgg20
  z20 := Tryd.sizeOf20
  v20 := Tryd.zeroValue20
  t37 := Tryd.underlying111
  a37 := Tryd.isAgg111
  z37 := Tryd.sizeOf111
  v37 := Tryd.zeroValue111
  t46 := Tryd.underlying138
  a46 := Tryd.isAgg138
  z46 := Tryd.sizeOf138
  v46 := Tryd.zeroValue138
  t51 := Tryd.underlying136
  a51 := Tryd.isAgg136
  z51 := Tryd.sizeOf136
  v51 := Tryd.zeroValue136
  t53 := Tryd.underlying125
  a53 := Tryd.isAgg125
  z53 := Tryd.sizeOf125
  v53 := Tryd.zeroValue125
  t171 := Tryd.underlying124
  a171 := Tryd.isAgg124
  z171 := Tryd.sizeOf124
  v171 := Tryd.zeroValue124
  t173 := Tryd.underlying128
  a173 := Tryd.isAgg128
  z173 := Tryd.sizeOf128
  v173 := Tryd.zeroValue128
  t212 := Tryd.underlying135
  a212 := Tryd.isAgg135
  z212 := Tryd.sizeOf135
  v212 := Tryd.zeroValue135
  t213 := Tryd.underlying137
  a213 := Tryd.isAgg137
  z213 := Tryd.sizeOf137
  t232 := Tryd.underlying141
  a232 := Tryd.isAgg141
  z232 := Tryd.sizeOf141
  v232 := Tryd.zeroValue141
  t233 := Tryd.underlying142
  a233 := Tryd.isAgg142
  z233 := Tryd.sizeOf142
  v233 := Tryd.zeroValue142
  g17 := by kernel_rfl
  g18 := by kernel_rfl
  g19 := by kernel_rfl
  i0 := by kernel_rfl
  i2 := by kernel_rfl
  i3 := by kernel_rfl
  i4 := by kernel_rfl
  i5 := by kernel_rfl
  i9 := by kernel_rfl
  i20 := by kernel_rfl
  i37 := by kernel_rfl
  i46 := by kernel_rfl
  i51 := by kernel_rfl
  i53 := by kernel_rfl
  i171 := by kernel_rfl
  i173 := by kernel_rfl
  i212 := by kernel_rfl
  i232 := by kernel_rfl
  i233 := by kernel_rfl
  m17 := by kernel_rfl
  m18 := by kernel_rfl
  m19 := by kernel_rfl }
open Go.RowKit Go.Sort Go.Lib in
theorem Tryd.internal_strconv_FormatInt_10 (n : Int) (h0 : -9223372036854775808 ≤ n) (h1 : n ≤ 9223372036854775807) (w : World) (htab : Lib.TabIs Tryd.prog w "internal/strconv.uint64pow10" .u64 Lib.pow10Tab) :
    Calls Tryd.prog 76 #[.int .i64 n, .int .i64 10] w fun e w' => e = .returned (.string ⟨(Lib.itoa n).toArray⟩) ∧ ∃ k os, w' = grow (w.drewN k) os := Any.internal_strconv_FormatInt_10 Tryd.laysM246 n h0 h1 w htab
def Tryd.lays246_ren : Go.Shelf.Ren := ⟨fun | 246 => 76 | 283 => 79 | 284 => 80 | 285 => 81 | 286 => 82 | 129 => 86 | 317 => 85 | 318 => 87 | 319 => 88 | 320 => 89 | 337 => 90 | 338 => 91 | n => n, fun | 2 => 2 | 3 => 3 | 9 => 9 | 4 => 4 | 171 => 124 | 0 => 0 | 53 => 125 | 37 => 111 | 5 => 5 | 173 => 128 | 212 => 135 | 51 => 136 | 20 => 20 | 213 => 137 | 46 => 138 | 232 => 141 | 233 => 142 | n => n, fun | 17 => 0 | 18 => 2 | 19 => 3 | n => n⟩
theorem Tryd.lays246 : Go.Proofs.Lays.n246 Tryd.prog Tryd.lays246_ren := {
  mixed := by kernel_rfl
  f129 := Tryd.func86.trans (congrArg some (by kernel_rfl))
  f246 := Tryd.func76.trans (congrArg some (by kernel_rfl))
  f283 := Tryd.func79.trans (congrArg some (by kernel_rfl))
  f284 := Tryd.func80.trans (congrArg some (by kernel_rfl))
  f285 := Tryd.func81.trans (congrArg some (by kernel_rfl))
  f286 := Tryd.func82.trans (congrArg some (by kernel_rfl))
  f317 := Tryd.func85.trans (congrArg some (by kernel_rfl))
  f318 := Tryd.func87.trans (congrArg some (by kernel_rfl))
  f319 := Tryd.func88.trans (congrArg some (by kernel_rfl))
  f320 := Tryd.func89.trans (congrArg some (by kernel_rfl))
  f337 := Tryd.func90.trans (congrArg some (by kernel_rfl))
  f338 := Tryd.func91.trans (congrArg some (by kernel_rfl))
  t0 := Tryd.underlying0
  a0 := Tryd.isAgg0
  z0 := Tryd.sizeOf0
  v0 := Tryd.zeroValue0
  t2 := Tryd.underlying2
  a2 := Tryd.isAgg2
  z2 := Tryd.sizeOf2
  v2 := Tryd.zeroValue2
  t3 := Tryd.underlying3
  a3 := Tryd.isAgg3
  z3 := Tryd.sizeOf3
  v3 := Tryd.zeroValue3
  t4 := Tryd.underlying4
  a4 := Tryd.isAgg4
  z4 := Tryd.sizeOf4
  v4 := Tryd.zeroValue4
  t5 := Tryd.underlying5
  a5 := Tryd.isAgg5
  z5 := Tryd.sizeOf5
  v5 := Tryd.zeroValue5
  t9 := Tryd.underlying9
  a9 := Tryd.isAgg9
  z9 := Tryd.sizeOf9
  v9 := Tryd.zeroValue9
  t20 := Tryd.underlying20
  a20 := Tryd.isAgg20
  z20 := Tryd.sizeOf20
  v20 := Tryd.zeroValue20
  t37 := Tryd.underlying111
  a37 := Tryd.isAgg111
  z37 := Tryd.sizeOf111
  v37 := Tryd.zeroValue111
  t46 := Tryd.underlying138
  a46 := Tryd.isAgg138
  z46 := Tryd.sizeOf138
  v46 := Tryd.zeroValue138
  t51 := Tryd.underlying136
  a51 := Tryd.isAgg136
  z51 := Tryd.sizeOf136
  v51 := Tryd.zeroValue136
  t53 := Tryd.underlying125
  a53 := Tryd.isAgg125
  z53 := Tryd.sizeOf125
  v53 := Tryd.zeroValue125
  t171 := Tryd.underlying124
  a171 := Tryd.isAgg124
  z171 := Tryd.sizeOf124
  v171 := Tryd.zeroValue124
  t173 := Tryd.underlying128
  a173 := Tryd.isAgg128
  z173 := Tryd.sizeOf128
  v173 := Tryd.zeroValue128
  t212 := Tryd.underlying135
  a212 := Tryd.isAgg135
  z212 := Tryd.sizeOf135
  v212 := Tryd.zeroValue135
  t213 := Tryd.underlying137
  a213 := Tryd.isAgg137
  z213 := Tryd.sizeOf137
  t232 := Tryd.underlying141
  a232 := Tryd.isAgg141
  z232 := Tryd.sizeOf141
  v232 := Tryd.zeroValue141
  t233 := Tryd.underlying142
  a233 := Tryd.isAgg142
  z233 := Tryd.sizeOf142
  v233 := Tryd.zeroValue142
  g17 := by kernel_rfl
  g18 := by kernel_rfl
  g19 := by kernel_rfl }
open Go.RowKit Go.Sort Go.Lib in
theorem Tryd.internal_strconv_FormatInt_10_small (i : Nat) (hi : i < 100) (w : World) :
    Calls Tryd.prog 76 #[.int .i64 i, .int .i64 10] w fun e w' => e = .returned (.string ⟨(Lib.decDigits i).toArray⟩) ∧ w' = w := Any.internal_strconv_FormatInt_10_small Tryd.lays246 i hi w
def Tryd.laysM243_ren : Go.Shelf.Ren := ⟨fun | 243 => 71 | 246 => 76 | 283 => 79 | 284 => 80 | 285 => 81 | 286 => 82 | 129 => 86 | 317 => 85 | 318 => 87 | 319 => 88 | 320 => 89 | 337 => 90 | 338 => 91 | n => n, fun | 3 => 3 | 9 => 9 | 2 => 2 | 4 => 4 | 171 => 124 | 0 => 0 | 53 => 125 | 37 => 111 | 5 => 5 | 173 => 128 | 212 => 135 | 51 => 136 | 20 => 20 | 213 => 137 | 46 => 138 | 232 => 141 | 233 => 142 | n => n, fun | 17 => 0 | 18 => 2 | 19 => 3 | n => n⟩
theorem Tryd.laysM243 : Go.Proofs.LaysM.n243 Tryd.prog Tryd.laysM243_ren := {
  mixed := by kernel_rfl
  f129 := Tryd.func86.trans (congrArg some (by kernel_rfl))
  f243 := Tryd.func71.trans (congrArg some (by kernel_rfl))
  f246 := Tryd.func76.trans (congrArg some (by kernel_rfl))
  f283 := Tryd.func79.trans (congrArg some (by kernel_rfl))
  f284 := Tryd.func80.trans (congrArg some (by kernel_rfl))
  f285 := Tryd.func81.trans (congrArg some (by kernel_rfl))
  f286 := Tryd.func82.trans (congrArg some (by kernel_rfl))
  f317 := Tryd.func85.trans (congrArg some (by kernel_rfl))
  f318 := Tryd.func87.trans (congrArg some (by kernel_rfl))
  f319 := Tryd.func88.trans (congrArg some (by kernel_rfl))
  f320 := Tryd.func89.trans (congrArg some (by kernel_rfl))
  f337 := Tryd.func90.trans (congrArg some (by kernel_rfl))
  f338 := Tryd.func91.trans (congrArg some (by kernel_rfl))
  t0 := Tryd.underlying0
  a0 := Tryd.isAgg0
  z0 := Tryd.sizeOf0
  v0 := Tryd.zeroValue0
  t2 := Tryd.underlying2
  a2 := Tryd.isAgg2
  z2 := Tryd.sizeOf2
  v2 := Tryd.zeroValue2
  t3 := Tryd.underlying3
  a3 := Tryd.isAgg3
  z3 := Tryd.sizeOf3
  v3 := Tryd.zeroValue3
  t4 := Tryd.underlying4
  a4 := Tryd.isAgg4
  z4 := Tryd.sizeOf4
  v4 := Tryd.zeroValue4
  t5 := Tryd.underlying5
  a5 := Tryd.isAgg5
  z5 := Tryd.sizeOf5
  v5 := Tryd.zeroValue5
  t9 := Tryd.underlying9
  a9 := Tryd.isAgg9
  z9 := Tryd.sizeOf9
  v9 := Tryd.zeroValue9
  t20 := Tryd.underlying20
  a20 := Tryd.isAgg20
  z20 := Tryd.sizeOf20
  v20 := Tryd.zeroValue20
  t37 := Tryd.underlying111
  a37 := Tryd.isAgg111
  z37 := Tryd.sizeOf111
  v37 := Tryd.zeroValue111
  t46 := Tryd.underlying138
  a46 := Tryd.isAgg138
  z46 := Tryd.sizeOf138
  v46 := Tryd.zeroValue138
  t51 := Tryd.underlying136
  a51 := Tryd.isAgg136
  z51 := Tryd.sizeOf136
  v51 := Tryd.zeroValue136
  t53 := Tryd.underlying125
  a53 := Tryd.isAgg125
  z53 := Tryd.sizeOf125
  v53 := Tryd.zeroValue125
  t171 := Tryd.underlying124
  a171 := Tryd.isAgg124
  z171 := Tryd.sizeOf124
  v171 := Tryd.zeroValue124
  t173 := Tryd.underlying128
  a173 := Tryd.isAgg128
  z173 := Tryd.sizeOf128
  v173 := Tryd.zeroValue128
  t212 := Tryd.underlying135
  a212 := Tryd.isAgg135
  z212 := Tryd.sizeOf135
  v212 := Tryd.zeroValue135
  t213 := Tryd.underlying137
  a213 := Tryd.isAgg137
  z213 := Tryd.sizeOf137
  t232 := Tryd.underlying141
  a232 := Tryd.isAgg141
  z232 := Tryd.sizeOf141
  v232 := Tryd.zeroValue141
  t233 := Tryd.underlying142
  a233 := Tryd.isAgg142
  z233 := Tryd.sizeOf142
  v233 := Tryd.zeroValue142
  g17 := by kernel_rfl
  g18 := by kernel_rfl
  g19 := by kernel_rfl
  i0 := by kernel_rfl
  i2 := by kernel_rfl
  i3 := by kernel_rfl
  i4 := by kernel_rfl
  i5 := by kernel_rfl
  i9 := by kernel_rfl
  i20 := by kernel_rfl
  i37 := by kernel_rfl
  i46 := by kernel_rfl
  i51 := by kernel_rfl
  i53 := by kernel_rfl
  i171 := by kernel_rfl
  i173 := by kernel_rfl
  i212 := by kernel_rfl
  i232 := by kernel_rfl
  i233 := by kernel_rfl
  m17 := by kernel_rfl
  m18 := by kernel_rfl
  m19 := by kernel_rfl }
open Go.RowKit Go.Sort Go.Lib in
theorem Tryd.internal_strconv_Itoa (n : Int) (h0 : -9223372036854775808 ≤ n) (h1 : n ≤ 9223372036854775807) (w : World) (htab : Lib.TabIs Tryd.prog w "internal/strconv.uint64pow10" .u64 Lib.pow10Tab) :
    Calls Tryd.prog 71 #[.int .i64 n] w fun e w' => e = .returned (.string ⟨(Lib.itoa n).toArray⟩) ∧ ∃ k os, w' = grow (w.drewN k) os := Any.internal_strconv_Itoa Tryd.laysM243 n h0 h1 w htab
def Tryd.lays243_ren : Go.Shelf.Ren := ⟨fun | 243 => 71 | 246 => 76 | 283 => 79 | 284 => 80 | 285 => 81 | 286 => 82 | 129 => 86 | 317 => 85 | 318 => 87 | 319 => 88 | 320 => 89 | 337 => 90 | 338 => 91 | n => n, fun | 3 => 3 | 9 => 9 | 2 => 2 | 4 => 4 | 171 => 124 | 0 => 0 | 53 => 125 | 37 => 111 | 5 => 5 | 173 => 128 | 212 => 135 | 51 => 136 | 20 => 20 | 213 => 137 | 46 => 138 | 232 => 141 | 233 => 142 | n => n, fun | 17 => 0 | 18 => 2 | 19 => 3 | n => n⟩
theorem Tryd.lays243 : Go.Proofs.Lays.n243 Tryd.prog Tryd.lays243_ren := {
  mixed := by kernel_rfl
  f129 := Tryd.func86.trans (congrArg some (by kernel_rfl))
  f243 := Tryd.func71.trans (congrArg some (by kernel_rfl))
  f246 := Tryd.func76.trans (congrArg some (by kernel_rfl))
  f283 := Tryd.func79.trans (congrArg some (by kernel_rfl))
  f284 := Tryd.func80.trans (congrArg some (by kernel_rfl))
  f285 := Tryd.func81.trans (congrArg some (by kernel_rfl))
  f286 := Tryd.func82.trans (congrArg some (by kernel_rfl))
  f317 := Tryd.func85.trans (congrArg some (by kernel_rfl))
  f318 := Tryd.func87.trans (congrArg some (by kernel_rfl))
  f319 := Tryd.func88.trans (congrArg some (by kernel_rfl))
  f320 := Tryd.func89.trans (congrArg some (by kernel_rfl))
  f337 := Tryd.func90.trans (congrArg some (by kernel_rfl))
  f338 := Tryd.func91.trans (congrArg some (by kernel_rfl))
  t0 := Tryd.underlying0
  a0 := Tryd.isAgg0
  z0 := Tryd.sizeOf0
  v0 := Tryd.zeroValue0
  t2 := Tryd.underlying2
  a2 := Tryd.isAgg2
  z2 := Tryd.sizeOf2
  v2 := Tryd.zeroValue2
  t3 := Tryd.underlying3
  a3 := Tryd.isAgg3
  z3 := Tryd.sizeOf3
  v3 := Tryd.zeroValue3
  t4 := Tryd.underlying4
  a4 := Tryd.isAgg4
  z4 := Tryd.sizeOf4
  v4 := Tryd.zeroValue4
  t5 := Tryd.underlying5
  a5 := Tryd.isAgg5
  z5 := Tryd.sizeOf5
  v5 := Tryd.zeroValue5
  t9 := Tryd.underlying9
  a9 := Tryd.isAgg9
  z9 := Tryd.sizeOf9
  v9 := Tryd.zeroValue9
  t20 := Tryd.underlying20
  a20 := Tryd.isAgg20
  z20 := Tryd.sizeOf20
  v20 := Tryd.zeroValue20
  t37 := Tryd.underlying111
  a37 := Tryd.isAgg111
  z37 := Tryd.sizeOf111
  v37 := Tryd.zeroValue111
  t46 := Tryd.underlying138
  a46 := Tryd.isAgg138
  z46 := Tryd.sizeOf138
  v46 := Tryd.zeroValue138
  t51 := Tryd.underlying136
  a51 := Tryd.isAgg136
  z51 := Tryd.sizeOf136
  v51 := Tryd.zeroValue136
  t53 := Tryd.underlying125
  a53 := Tryd.isAgg125
  z53 := Tryd.sizeOf125
  v53 := Tryd.zeroValue125
  t171 := Tryd.underlying124
  a171 := Tryd.isAgg124
  z171 := Tryd.sizeOf124
  v171 := Tryd.zeroValue124
  t173 := Tryd.underlying128
  a173 := Tryd.isAgg128
  z173 := Tryd.sizeOf128
  v173 := Tryd.zeroValue128
  t212 := Tryd.underlying135
  a212 := Tryd.isAgg135
  z212 := Tryd.sizeOf135
  v212 := Tryd.zeroValue135
  t213 := Tryd.underlying137
  a213 := Tryd.isAgg137
  z213 := Tryd.sizeOf137
  t232 := Tryd.underlying141
  a232 := Tryd.isAgg141
  z232 := Tryd.sizeOf141
  v232 := Tryd.zeroValue141
  t233 := Tryd.underlying142
  a233 := Tryd.isAgg142
  z233 := Tryd.sizeOf142
  v233 := Tryd.zeroValue142
  g17 := by kernel_rfl
  g18 := by kernel_rfl
  g19 := by kernel_rfl }
open Go.RowKit Go.Sort Go.Lib in
theorem Tryd.internal_strconv_Itoa_small (i : Nat) (hi : i < 100) (w : World) :
    Calls Tryd.prog 71 #[.int .i64 i] w fun e w' => e = .returned (.string ⟨(Lib.decDigits i).toArray⟩) ∧ w' = w := Any.internal_strconv_Itoa_small Tryd.lays243 i hi w
def Tryd.laysM171_ren : Go.Shelf.Ren := ⟨fun | 171 => 63 | 243 => 71 | 246 => 76 | 283 => 79 | 284 => 80 | 285 => 81 | 286 => 82 | 129 => 86 | 317 => 85 | 318 => 87 | 319 => 88 | 320 => 89 | 337 => 90 | 338 => 91 | n => n, fun | 3 => 3 | 9 => 9 | 2 => 2 | 4 => 4 | 171 => 124 | 0 => 0 | 53 => 125 | 37 => 111 | 5 => 5 | 173 => 128 | 212 => 135 | 51 => 136 | 20 => 20 | 213 => 137 | 46 => 138 | 232 => 141 | 233 => 142 | n => n, fun | 17 => 0 | 18 => 2 | 19 => 3 | n => n⟩
theorem Tryd.laysM171 : Go.Proofs.LaysM.n171 Tryd.prog Tryd.laysM171_ren := {
  mixed := by kernel_rfl
  f129 := Tryd.func86.trans (congrArg some (by kernel_rfl))
  f171 := Tryd.func63.trans (congrArg some (by kernel_rfl))
  f243 := Tryd.func71.trans (congrArg some (by kernel_rfl))
  f246 := Tryd.func76.trans (congrArg some (by kernel_rfl))
  f283 := Tryd.func79.trans (congrArg some (by kernel_rfl))
  f284 := Tryd.func80.trans (congrArg some (by kernel_rfl))
  f285 := Tryd.func81.trans (congrArg some (by kernel_rfl))
  f286 := Tryd.func82.trans (congrArg some (by kernel_rfl))
  f317 := Tryd.func85.trans (congrArg some (by kernel_rfl))
  f318 := Tryd.func87.trans (congrArg some (by kernel_rfl))
  f319 := Tryd.func88.trans (congrArg some (by kernel_rfl))
  f320 := Tryd.func89.trans (congrArg some (by kernel_rfl))
  f337 := Tryd.func90.trans (congrArg some (by kernel_rfl))
  f338 := Tryd.func91.trans (congrArg some (by kernel_rfl))
  t0 := Tryd.underlying0
  a0 := Tryd.isAgg0
  z0 := Tryd.sizeOf0
  v0 := Tryd.zeroValue0
  t2 := Tryd.underlying2
  a2 := Tryd.isAgg2
  z2 := Tryd.sizeOf2
  v2 := Tryd.zeroValue2
  t3 := Tryd.underlying3
  a3 := Tryd.isAgg3
  z3 := Tryd.sizeOf3
  v3 := Tryd.zeroValue3
  t4 := Tryd.underlying4
  a4 := Tryd.isAgg4
  z4 := Tryd.sizeOf4
  v4 := Tryd.zeroValue4
  t5 := Tryd.underlying5
  a5 := Tryd.isAgg5
  z5 := Tryd.sizeOf5
  v5 := Tryd.zeroValue5
  t9 := Tryd.underlying9
  a9 := Tryd.isAgg9
  z9 := Tryd.sizeOf9
  v9 := Tryd.zeroValue9
  t20 := Tryd.underlying20
  a20 := Tryd.isAgg20
  z20 := Tryd.sizeOf20
  v20 := Tryd.zeroValue20
  t37 := Tryd.underlying111
  a37 := Tryd.isAgg111
  z37 := Tryd.sizeOf111
  v37 := Tryd.zeroValue111
  t46 := Tryd.underlying138
  a46 := Tryd.isAgg138
  z46 := Tryd.sizeOf138
  v46 := Tryd.zeroValue138
  t51 := Tryd.underlying136
  a51 := Tryd.isAgg136
  z51 := Tryd.sizeOf136
  v51 := Tryd.zeroValue136
  t53 := Tryd.underlying125
  a53 := Tryd.isAgg125
  z53 := Tryd.sizeOf125
  v53 := Tryd.zeroValue125
  t171 := Tryd.underlying124
  a171 := Tryd.isAgg124
  z171 := Tryd.sizeOf124
  v171 := Tryd.zeroValue124
  t173 := Tryd.underlying128
  a173 := Tryd.isAgg128
  z173 := Tryd.sizeOf128
  v173 := Tryd.zeroValue128
  t212 := Tryd.underlying135
  a212 := Tryd.isAgg135
  z212 := Tryd.sizeOf135
  v212 := Tryd.zeroValue135
  t213 := Tryd.underlying137
  a213 := Tryd.isAgg137
  z213 := Tryd.sizeOf137
  t232 := Tryd.underlying141
  a232 := Tryd.isAgg141
  z232 := Tryd.sizeOf141
  v232 := Tryd.zeroValue141
  t233 := Tryd.underlying142
  a233 := Tryd.isAgg142
  z233 := Tryd.sizeOf142
  v233 := Tryd.zeroValue142
  g17 := by kernel_rfl
  g18 := by kernel_rfl
  g19 := by kernel_rfl
  i0 := by kernel_rfl
  i2 := by kernel_rfl
  i3 := by kernel_rfl
  i4 := by kernel_rfl
  i5 := by kernel_rfl
  i9 := by kernel_rfl
  i20 := by kernel_rfl
  i37 := by kernel_rfl
  i46 := by kernel_rfl
  i51 := by kernel_rfl
  i53 := by kernel_rfl
  i171 := by kernel_rfl
  i173 := by kernel_rfl
  i212 := by kernel_rfl
  i232 := by kernel_rfl
  i233 := by kernel_rfl
  m17 := by kernel_rfl
  m18 := by kernel_rfl
  m19 := by kernel_rfl }
open Go.RowKit Go.Sort Go.Lib in
theorem Tryd.strconv_Itoa (n : Int) (h0 : -9223372036854775808 ≤ n) (h1 : n ≤ 9223372036854775807) (w : World) (htab : Lib.TabIs Tryd.prog w "internal/strconv.uint64pow10" .u64 Lib.pow10Tab) :
    Calls Tryd.prog 63 #[.int .i64 n] w fun e w' => e = .returned (.string ⟨(Lib.itoa n).toArray⟩) ∧ ∃ k os, w' = grow (w.drewN k) os := Any.strconv_Itoa Tryd.laysM171 n h0 h1 w htab
def Tryd.lays171_ren : Go.Shelf.Ren := ⟨fun | 171 => 63 | 243 => 71 | 246 => 76 | 283 => 79 | 284 => 80 | 285 => 81 | 286 => 82 | 129 => 86 | 317 => 85 | 318 => 87 | 319 => 88 | 320 => 89 | 337 => 90 | 338 => 91 | n => n, fun | 3 => 3 | 9 => 9 | 2 => 2 | 4 => 4 | 171 => 124 | 0 => 0 | 53 => 125 | 37 => 111 | 5 => 5 | 173 => 128 | 212 => 135 | 51 => 136 | 20 => 20 | 213 => 137 | 46 => 138 | 232 => 141 | 233 => 142 | n => n, fun | 17 => 0 | 18 => 2 | 19 => 3 | n => n⟩
theorem Tryd.lays171 : Go.Proofs.Lays.n171 Tryd.prog Tryd.lays171_ren := {
  mixed := by kernel_rfl
  f129 := Tryd.func86.trans (congrArg some (by kernel_rfl))
  f171 := Tryd.func63.trans (congrArg some (by kernel_rfl))
  f243 := Tryd.func71.trans (congrArg some (by kernel_rfl))
  f246 := Tryd.func76.trans (congrArg some (by kernel_rfl))
  f283 := Tryd.func79.trans (congrArg some (by kernel_rfl))
  f284 := Tryd.func80.trans (congrArg some (by kernel_rfl))
  f285 := Tryd.func81.trans (congrArg some (by kernel_rfl))
  f286 := Tryd.func82.trans (congrArg some (by kernel_rfl))
  f317 := Tryd.func85.trans (congrArg some (by kernel_rfl))
  f318 := Tryd.func87.trans (congrArg some (by kernel_rfl))
  f319 := Tryd.func88.trans (congrArg some (by kernel_rfl))
  f320 := Tryd.func89.trans (congrArg some (by kernel_rfl))
  f337 := Tryd.func90.trans (congrArg some (by kernel_rfl))
  f338 := Tryd.func91.trans (congrArg some (by kernel_rfl))
  t0 := Tryd.underlying0
  a0 := Tryd.isAgg0
  z0 := Tryd.sizeOf0
  v0 := Tryd.zeroValue0
  t2 := Tryd.underlying2
  a2 := Tryd.isAgg2
  z2 := Tryd.sizeOf2
  v2 := Tryd.zeroValue2
  t3 := Tryd.underlying3
  a3 := Tryd.isAgg3
  z3 := Tryd.sizeOf3
  v3 := Tryd.zeroValue3
  t4 := Tryd.underlying4
  a4 := Tryd.isAgg4
  z4 := Tryd.sizeOf4
  v4 := Tryd.zeroValue4
  t5 := Tryd.underlying5
  a5 := Tryd.isAgg5
  z5 := Tryd.sizeOf5
  v5 := Tryd.zeroValue5
  t9 := Tryd.underlying9
  a9 := Tryd.isAgg9
  z9 := Tryd.sizeOf9
  v9 := Tryd.zeroValue9
  t20 := Tryd.underlying20
  a20 := Tryd.isAgg20
  z20 := Tryd.sizeOf20
  v20 := Tryd.zeroValue20
  t37 := Tryd.underlying111
  a37 := Tryd.isAgg111
  z37 := Tryd.sizeOf111
  v37 := Tryd.zeroValue111
  t46 := Tryd.underlying138
  a46 := Tryd.isAgg138
  z46 := Tryd.sizeOf138
  v46 := Tryd.zeroValue138
  t51 := Tryd.underlying136
  a51 := Tryd.isAgg136
  z51 := Tryd.sizeOf136
  v51 := Tryd.zeroValue136
  t53 := Tryd.underlying125
  a53 := Tryd.isAgg125
  z53 := Tryd.sizeOf125
  v53 := Tryd.zeroValue125
  t171 := Tryd.underlying124
  a171 := Tryd.isAgg124
  z171 := Tryd.sizeOf124
  v171 := Tryd.zeroValue124
  t173 := Tryd.underlying128
  a173 := Tryd.isAgg128
  z173 := Tryd.sizeOf128
  v173 := Tryd.zeroValue128
  t212 := Tryd.underlying135
  a212 := Tryd.isAgg135
  z212 := Tryd.sizeOf135
  v212 := Tryd.zeroValue135
  t213 := Tryd.underlying137
  a213 := Tryd.isAgg137
  z213 := Tryd.sizeOf137
  t232 := Tryd.underlying141
  a232 := Tryd.isAgg141
  z232 := Tryd.sizeOf141
  v232 := Tryd.zeroValue141
  t233 := Tryd.underlying142
  a233 := Tryd.isAgg142
  z233 := Tryd.sizeOf142
  v233 := Tryd.zeroValue142
  g17 := by kernel_rfl
  g18 := by kernel_rfl
  g19 := by kernel_rfl }
open Go.RowKit Go.Sort Go.Lib in
theorem Tryd.strconv_Itoa_small (i : Nat) (hi : i < 100) (w : World) :
    Calls Tryd.prog 63 #[.int .i64 i] w fun e w' => e = .returned (.string ⟨(Lib.decDigits i).toArray⟩) ∧ w' = w := Any.strconv_Itoa_small Tryd.lays171 i hi w
end Go.Proofs

/- Decimal numbers and joined texts: the library's contracts, as contracts of ours. -/
set_option maxHeartbeats 2000000
namespace Go.Pv
attribute [local irreducible] PWP POps PQuiet PSem XThen XBlock RetPost InlPost
open Go.Proofs Go.RowKit

theorem itoa_ret (n : Int) (h0 : -9223372036854775808 ≤ n) (h1 : n ≤ 9223372036854775807) : Ret Tryd.prog .shared 63 [I n] (.str (Lib.itoa n)) := by
  refine ⟨⟨_, Go.Proofs.Tryd.func63, by decide, rfl⟩, fun w X args hg hX hl hargs => ?_⟩
  match args, hl with
  | [v], _ =>
    have hv := hargs 0 _ v rfl rfl
    cases hv
    have hg : Lib.TabIs Tryd.prog w "internal/strconv.uint64pow10" .u64 Lib.pow10Tab := hg
    refine (Go.Proofs.Tryd.strconv_Itoa n h0 h1 w hg).mono ?_
    rintro e w' ⟨rfl, k, os, rfl⟩
    exact ⟨_, rfl, Lib.below_grow w.heap.size w (Nat.le_refl _) k os, .str _⟩
theorem join_ret (xs : List Str) (sep : Str) (hN : xs.length ≤ 140737488355328) (hlen : (Lib.join xs sep).length ≤ 140737488355328) : Ret Tryd.prog .shared 65 [.sl (xs.map eS), .str sep] (.str (Lib.join xs sep)) := by
  refine ⟨⟨_, Go.Proofs.Tryd.func65, by decide, rfl⟩, fun w X args hg hX hl hargs => ?_⟩
  match args, hl with
  | [v, u], _ =>
    have hv := hargs 0 _ v rfl rfl
    have hu := hargs 1 _ u rfl rfl
    cases hu
    generalize hr : xs.map eS = rows at hv
    cases hv with
    | sl0 a cap =>
      have : xs = [] := by simpa using hr
      subst this
      refine (Go.Proofs.Tryd.strings_Join_none a cap ⟨sep.toArray⟩ w).mono ?_
      rintro e w' ⟨rfl, rfl⟩
      exact ⟨_, rfl, Below.refl _ _, .str _⟩
    | sl rows b off cap sz vals hb hs hcap hrow hcell hrep =>
      subst hr
      rw [List.length_map] at hcap ⊢
      have hsz : xs ≠ [] → sz = 1 := fun hne => by
        cases xs with
        | nil => exact absurd rfl hne
        | cons x xs => exact (hrow (eS x) (by simp)).symm
      have hmap : (xs.map fun s => (⟨s.toArray⟩ : ByteArray)).map (·.data.toList) = xs := by
        rw [List.map_map]
        exact (List.map_congr_left fun s _ => by simp).trans (List.map_id xs)
      have h := Go.Proofs.Tryd.strings_Join b off cap (xs.map fun s => ⟨s.toArray⟩) ⟨sep.toArray⟩ w (fun j x hx => by
        rw [List.getElem?_map, Option.map_eq_some_iff] at hx
        obtain ⟨s, hs, rfl⟩ := hx
        have hne : xs ≠ [] := fun e => by rw [e] at hs; simp at hs
        have h1 := hcell j 0 (eS s) (.str s) (by rw [List.getElem?_map, hs]; rfl) rfl
        have h2 := hrep j 0 (eS s) (.str s) (by rw [List.getElem?_map, hs]; rfl) rfl
        have h3 : vals j 0 = .string ⟨s.toArray⟩ := (Rep.d (E := ⟨w, _, fun _ => False, fun _ => 0, fun _ => none⟩) h2).str_inv
        rw [h3, hsz hne, Nat.mul_one, Nat.add_zero] at h1
        exact h1.1) hb.1 (by simpa using hN) (by simpa using hcap) (by rw [hmap]; simpa using hlen)
      rw [hmap, List.length_map] at h
      refine h.mono ?_
      rintro e w' ⟨rfl, hbel⟩
      exact ⟨_, rfl, hbel, .str _⟩
end Go.Pv

/- A post written. -/
set_option maxHeartbeats 2000000
namespace Go.Pv
attribute [local irreducible] PWP POps PQuiet PSem XThen XBlock RetPost InlPost
open Go.Proofs

def wordOf (op : Int) : Str := ([[111, 114, 100, 101, 114], [105, 116, 101, 109], [103, 114, 111, 119, 116, 104], [99, 104, 97, 114, 103, 101], [115, 105, 103, 110], [97, 109, 101, 110, 100], [105, 110, 118, 111, 105, 99, 101], [112, 97, 121], [119, 105, 116, 104, 100, 114, 97, 119]] : List Str).getD op.toNat []
def wordL : List Str := [[111, 114, 100, 101, 114], [105, 116, 101, 109], [103, 114, 111, 119, 116, 104], [99, 104, 97, 114, 103, 101], [115, 105, 103, 110], [97, 109, 101, 110, 100], [105, 110, 118, 111, 105, 99, 101], [112, 97, 121], [119, 105, 116, 104, 100, 114, 97, 119]]
theorem words_ret : Ret Tryd.prog .fresh 64 [] (.sl (wordL.map eS)) := by
  refine Ret.of_pwp layOk mixed Go.Proofs.Tryd.func64 rfl (by decide) rfl rfl ?_
  repeat (refine stp rfl ?_ ?_;·repeat' constructor)
  apply qst;exact rfl;exact rfl;exact q_slit rfl rfl rfl rfl rfl rfl rfl rfl rfl rfl (by repeat' constructor) rfl
  repeat (refine stp rfl ?_ ?_;·repeat' constructor)
  exact end1f rfl rfl rfl trivial rfl
/-- What a field is written as. -/
def Fd.out (p : SPost) (f : Fd) : Str := match f with
  | .o | .i | .s | .w => f.txt p
  | .a _ _ | .r _ _ | .l _ _ => Lib.itoa (f.num p)
def outL (p : SPost) (k : Nat) : List Str := [Lib.itoa p.day, wordOf p.op] ++ ((fdsOf p.op).take k).map (Fd.out p)
def textP (p : SPost) : Str := Lib.join (outL p (fdsOf p.op).length) [32]
theorem nDigits_le : ∀ (u : Nat), Lib.nDigits u ≤ u + 1 := fun u => by
  induction u using Nat.strongRecOn with
  | _ u ih =>
    by_cases h : u < 10
    · rw [Lib.nDigits_small h]; omega
    · rw [Lib.nDigits_big h]
      have := ih (u / 10) (by omega)
      omega
theorem itoa_len {n : Int} (h0 : -1000000000 ≤ n) (h1 : n ≤ 1000000000) : (Lib.itoa n).length ≤ 1000000010 := by
  rw [Lib.itoa]
  split
  · rw [List.length_cons, Lib.decDigits_length]
    have := nDigits_le n.natAbs
    omega
  · rw [Lib.decDigits_length]
    have := nDigits_le n.toNat
    omega
theorem lens_le {xs : List Str} {c : Nat} (h : ∀ x, x ∈ xs → x.length ≤ c) : Lib.lens xs ≤ xs.length * c := by
  unfold Lib.lens
  induction xs with
  | nil => simp
  | cons x xs ih =>
    have h1 := h x (by simp)
    have := ih fun y hy => h y (by simp [hy])
    simp only [List.map_cons, List.sum_cons, List.length_cons, Nat.add_mul, Nat.one_mul]
    omega
theorem fdsOf_lim {op : Int} {f : Fd} (h : f ∈ fdsOf op) (hi : inside op 0 8 = true) : match f with
    | .a lo hi | .r lo hi | .l lo hi => -1000000000 ≤ lo ∧ hi ≤ 1000000000
    | _ => True := by
  rcases op_cases hi with rfl | rfl | rfl | rfl | rfl | rfl | rfl | rfl | rfl <;> clear hi <;> simp [fdsOf] at h <;> rcases h with rfl | rfl | rfl | rfl <;> simp
def Fd.fine (p : SPost) (f : Fd) : Prop := match f with
    | .a _ _ | .r _ _ | .l _ _ => -1000000000 ≤ f.num p ∧ f.num p ≤ 1000000000
    | _ => (f.txt p).length ≤ 12
theorem num_lim {p : SPost} (hc : checkE p = 0) {k : Nat} {f : Fd} (hf : (fdsOf p.op)[k]? = some f) : f.fine p := by
  have h1 := checkE_op hc
  have he := fstE_zero h1.2.2 k f hf
  have hl := fdsOf_lim (List.mem_of_getElem? hf) h1.1
  have nm : ∀ s : Str, (if isName s = true then (0 : Int) else 4) = 0 → s.length ≤ 12 := fun s h => by
    by_cases hn : isName s = true
    · simp only [isName, Bool.and_eq_true, decide_eq_true_eq] at hn; omega
    · rw [if_neg hn] at h; omega
  have nb : ∀ n lo hi : Int, (if inside n lo hi = true then (0 : Int) else 2) = 0 → lo ≤ n ∧ n ≤ hi := fun n lo hi h => by
    by_cases hn : inside n lo hi = true
    · simpa [inside] using hn
    · rw [if_neg hn] at h; omega
  cases f with
  | o => exact nm _ he
  | i => exact nm _ he
  | s => exact nm _ he
  | w => exact nm _ he
  | a lo hi => have := nb _ _ _ he; have hl : _ ∧ _ := hl; exact ⟨by omega, by omega⟩
  | r lo hi => have := nb _ _ _ he; have hl : _ ∧ _ := hl; exact ⟨by omega, by omega⟩
  | l lo hi => have := nb _ _ _ he; have hl : _ ∧ _ := hl; exact ⟨by omega, by omega⟩
theorem textP_len {p : SPost} (hc : checkE p = 0) : (textP p).length ≤ 140737488355328 := by
  have h1 := checkE_op hc
  have hfl := fdsOf_len p.op
  have hd : (Lib.itoa p.day).length ≤ 1000000010 := by
    have := h1.2.1
    simp only [inside, Bool.and_eq_true, decide_eq_true_eq] at this
    exact itoa_len (by omega) (by omega)
  have hw : (wordOf p.op).length ≤ 1000000010 := by
    rcases op_cases h1.1 with h | h | h | h | h | h | h | h | h <;> rw [h] <;> decide
  have hall : ∀ x, x ∈ outL p (fdsOf p.op).length → x.length ≤ 1000000010 := by
    intro x hx
    rw [outL, List.take_length] at hx
    simp only [List.cons_append, List.nil_append, List.mem_cons, List.mem_map] at hx
    rcases hx with rfl | rfl | ⟨f, hf, rfl⟩
    · exact hd
    · exact hw
    · obtain ⟨k, hk, hfe⟩ := List.getElem_of_mem hf
      have := num_lim hc (k := k) (f := f) (by rw [← hfe]; exact List.getElem?_eq_getElem hk)
      cases f
      case a => exact itoa_len this.1 this.2
      case r => exact itoa_len this.1 this.2
      case l => exact itoa_len this.1 this.2
      all_goals (have h' : (_ : Nat) ≤ 12 := this; exact Nat.le_trans h' (by omega))
  have hll : (outL p (fdsOf p.op).length).length = 2 + (fdsOf p.op).length := by simp [outL]; omega
  have hs := lens_le hall
  rw [textP]
  generalize hL : outL p (fdsOf p.op).length = L at *
  cases L with
  | nil => simp [Lib.join_nil]
  | cons x r =>
    rw [Lib.join_length]
    simp only [List.length_cons, List.length_nil] at *
    omega
end Go.Pv

/- A post written, and the function that does it. -/
set_option maxHeartbeats 2000000
namespace Go.Pv
attribute [local irreducible] PWP POps PQuiet PSem XThen XBlock RetPost InlPost
open Go.Proofs

theorem outL_succ (p : SPost) {k : Nat} {f : Fd} (h : (fdsOf p.op)[k]? = some f) : outL p (k + 1) = outL p k ++ [f.out p] := by
  rw [outL, outL, take_snoc h, List.map_append]; simp
set_option maxRecDepth 20000 in
theorem written_ret (p : SPost) (hc : checkE p = 0) : Ret Tryd.prog .shared 46 [.agg (ePost p)] (.str (textP p)) := by
  have h1 := checkE_op hc
  have hfl := fdsOf_len p.op
  have htl : ((fdsOf p.op).map Fd.tm).length = (fdsOf p.op).length := List.length_map _
  have hday := h1.2.1
  simp only [inside, Bool.and_eq_true, decide_eq_true_eq] at hday
  have hit := itoa_ret p.day (by omega) (by omega)
  have hop := op_cases h1.1
  have hop0 : 0 ≤ p.op := by omega
  have hw : wordL[p.op.toNat]? = some (wordOf p.op) := by
    rcases hop with h | h | h | h | h | h | h | h | h <;> rw [h] <;> rfl
  have hj := join_ret (outL p (fdsOf p.op).length) [32] (by simp [outL]; omega) (textP_len hc)
  have hlims := fun (k : Nat) (f : Fd) (h : (fdsOf p.op)[k]? = some f) => num_lim hc h
  have houts := fun (k : Nat) (f : Fd) (h : (fdsOf p.op)[k]? = some f) => outL_succ p h
  rw [textP]
  have ho0 : outL p 0 = [Lib.itoa p.day, wordOf p.op] := rfl
  clear hop h1 hday hc
  generalize Lib.itoa p.day = dy at *
  generalize wordOf p.op = wd at *
  refine Ret.of_pwp layOk mixed Go.Proofs.Tryd.func46 rfl (by decide) rfl rfl ?_
  ((repeat (first | refine ps_nil ?_ | refine pq_nil ?_ | refine x_norm ?_ | refine pw_seq ?_)); refine pw_region ?_)
  refine ps_run (o_box rfl rfl rfl (by repeat' constructor) rfl ?_)
  repeat (refine stp rfl ?_ ?_;·repeat' constructor)
  refine pw_draw 8 [6, 7, 8, 9, 10, 11, 12, 13] (by decide +kernel) ?_
  repeat (refine stp rfl ?_ ?_;·repeat' constructor)
  apply qst;exact rfl;exact rfl;exact q_callP rfl (hit) rfl (by repeat' constructor) rfl rfl
  repeat (refine stp rfl ?_ ?_;·repeat' constructor)
  apply qst;exact rfl;exact rfl;exact q_callF rfl (words_ret) rfl (by repeat' constructor) rfl
  repeat (refine stp rfl ?_ ?_;·repeat' constructor)
  apply qst;exact rfl;exact rfl;exact q_idxmF rfl rfl rfl rfl rfl (by omega) hw rfl
  repeat (refine stp rfl ?_ ?_;·repeat' constructor)
  refine ps_run (o_slit 0 rfl rfl rfl rfl rfl rfl rfl rfl rfl rfl rfl (by repeat' constructor) rfl ?_)
  refine ps_v rfl trivial ?_
  refine ps_nil ?_
  ((repeat (first | refine x_norm ?_ | refine pw_seq ?_)); refine pw_regionS 0 ?_)
  refine ps_nil ?_
  refine psem_sm rfl (sm_callP ((fdsOf p.op).map Fd.tm) (fun b off => fields_tm b off p.op) rfl rfl rfl rfl rfl rfl (fdsOf_tm_ok p.op) rfl ?_)
  refine psem_ops ?_
  rw [htl]
  repeat (refine stp rfl ?_ ?_;·repeat' constructor)
  have hrow : ∀ (k : Nat) (f : Fd), (fdsOf p.op)[k]? = some f → (((fdsOf p.op).map Fd.tm).map fun r => r.map (TC.inst fun o => PV.ptr 1 1 0 o))[0 + (k : Int).toNat]? = some (f.tm.map (TC.inst fun o => PV.ptr 1 1 0 o)) := fun k f h => by
    rw [List.getElem?_map, List.getElem?_map, Int.toNat_natCast, Nat.zero_add, h]; rfl
  generalize (((fdsOf p.op).map Fd.tm).map fun r => r.map (TC.inst fun o => PV.ptr 1 1 0 o)) = rows at hrow
  generalize fdsOf p.op = fs at *
  refine pw_loop (fun k => k ≤ fs.length) (fun k => [(1, .ptr 1 1 0 0), (3, .als 14 (1 + k) 0 ((outL p k).map eS).length), (15, .als 15 1 0 fs.length), (16, I fs.length), (17, I k)]) (fun k => [(1, 1, ⟨42, 9, [ePost p], 2⟩), (14, 1 + k, ⟨9, 1, (outL p k).map eS, 0⟩), (15, 1, ⟨99, 4, rows, 2⟩)]) (fun k => fs.length - k) 0 (Nat.zero_le _) ⟨rfl, by rw [ho0]; rfl, rfl, rfl, rfl, rfl, by rw [ho0]; rfl, rfl, trivial⟩ ?_
  intro k s hk
  have hk : k ≤ fs.length := hk
  repeat (refine stp rfl ?_ ?_;·repeat' constructor)
  refine pw_cond rfl (fun h => ?_) (fun h => ?_)
  · have hlt : k < fs.length := by have := of_decide_eq_true h; omega
    clear h
    obtain ⟨f, hf⟩ := get_lt hlt
    have hr := hrow k f hf
    have hlim := hlims k f hf
    have hs := houts k f hf
    have hol : (outL p k).length ≤ 10 := by rw [outL]; simp; omega
    clear hrow hlims houts hj
    cases f
    case o =>
      repeat (refine stp rfl ?_ ?_;·repeat' constructor)
      apply qst;exact rfl;exact rfl;exact q_idxA rfl rfl rfl rfl rfl rfl rfl (by omega) (by omega)
      apply qst;exact rfl;exact rfl;exact q_ldp rfl rfl rfl hr rfl
      repeat (refine stp rfl ?_ ?_;·repeat' constructor)
      apply qst;exact rfl;exact rfl;exact q_slit rfl rfl rfl rfl rfl rfl rfl rfl rfl rfl (by repeat' constructor) rfl
      repeat (refine stp rfl ?_ ?_;·repeat' constructor)
      refine ps_run (o_app 0 rfl rfl rfl rfl rfl rfl rfl rfl rfl rfl rfl (by repeat' constructor) (by intro row hr; first | (simp at hr; subst hr; rfl) | simp at hr) rfl rfl (by simp; omega) (by simp; omega) ?_)
      repeat (refine stp rfl ?_ ?_;·repeat' constructor)
      refine ⟨k + 1, hlt, by omega, rfl, ?_, rfl, rfl, i64_next (by omega) (by omega), rfl, ?_, rfl, trivial⟩
      · rw [hs, List.map_append]; rfl
      · rw [hs, List.map_append]; rfl
    case i =>
      repeat (refine stp rfl ?_ ?_;·repeat' constructor)
      apply qst;exact rfl;exact rfl;exact q_idxA rfl rfl rfl rfl rfl rfl rfl (by omega) (by omega)
      apply qst;exact rfl;exact rfl;exact q_ldp rfl rfl rfl hr rfl
      repeat (refine stp rfl ?_ ?_;·repeat' constructor)
      apply qst;exact rfl;exact rfl;exact q_slit rfl rfl rfl rfl rfl rfl rfl rfl rfl rfl (by repeat' constructor) rfl
      repeat (refine stp rfl ?_ ?_;·repeat' constructor)
      refine ps_run (o_app 0 rfl rfl rfl rfl rfl rfl rfl rfl rfl rfl rfl (by repeat' constructor) (by intro row hr; first | (simp at hr; subst hr; rfl) | simp at hr) rfl rfl (by simp; omega) (by simp; omega) ?_)
      repeat (refine stp rfl ?_ ?_;·repeat' constructor)
      refine ⟨k + 1, hlt, by omega, rfl, ?_, rfl, rfl, i64_next (by omega) (by omega), rfl, ?_, rfl, trivial⟩
      · rw [hs, List.map_append]; rfl
      · rw [hs, List.map_append]; rfl
    case s =>
      repeat (refine stp rfl ?_ ?_;·repeat' constructor)
      apply qst;exact rfl;exact rfl;exact q_idxA rfl rfl rfl rfl rfl rfl rfl (by omega) (by omega)
      apply qst;exact rfl;exact rfl;exact q_ldp rfl rfl rfl hr rfl
      repeat (refine stp rfl ?_ ?_;·repeat' constructor)
      apply qst;exact rfl;exact rfl;exact q_slit rfl rfl rfl rfl rfl rfl rfl rfl rfl rfl (by repeat' constructor) rfl
      repeat (refine stp rfl ?_ ?_;·repeat' constructor)
      refine ps_run (o_app 0 rfl rfl rfl rfl rfl rfl rfl rfl rfl rfl rfl (by repeat' constructor) (by intro row hr; first | (simp at hr; subst hr; rfl) | simp at hr) rfl rfl (by simp; omega) (by simp; omega) ?_)
      repeat (refine stp rfl ?_ ?_;·repeat' constructor)
      refine ⟨k + 1, hlt, by omega, rfl, ?_, rfl, rfl, i64_next (by omega) (by omega), rfl, ?_, rfl, trivial⟩
      · rw [hs, List.map_append]; rfl
      · rw [hs, List.map_append]; rfl
    case w =>
      repeat (refine stp rfl ?_ ?_;·repeat' constructor)
      apply qst;exact rfl;exact rfl;exact q_idxA rfl rfl rfl rfl rfl rfl rfl (by omega) (by omega)
      apply qst;exact rfl;exact rfl;exact q_ldp rfl rfl rfl hr rfl
      repeat (refine stp rfl ?_ ?_;·repeat' constructor)
      apply qst;exact rfl;exact rfl;exact q_slit rfl rfl rfl rfl rfl rfl rfl rfl rfl rfl (by repeat' constructor) rfl
      repeat (refine stp rfl ?_ ?_;·repeat' constructor)
      refine ps_run (o_app 0 rfl rfl rfl rfl rfl rfl rfl rfl rfl rfl rfl (by repeat' constructor) (by intro row hr; first | (simp at hr; subst hr; rfl) | simp at hr) rfl rfl (by simp; omega) (by simp; omega) ?_)
      repeat (refine stp rfl ?_ ?_;·repeat' constructor)
      refine ⟨k + 1, hlt, by omega, rfl, ?_, rfl, rfl, i64_next (by omega) (by omega), rfl, ?_, rfl, trivial⟩
      · rw [hs, List.map_append]; rfl
      · rw [hs, List.map_append]; rfl
    case a lo hi =>
      have hi := itoa_ret _ (Int.le_trans (by decide) hlim.1) (Int.le_trans hlim.2 (by decide))
      repeat (refine stp rfl ?_ ?_;·repeat' constructor)
      apply qst;exact rfl;exact rfl;exact q_idxA rfl rfl rfl rfl rfl rfl rfl (by omega) (by omega)
      apply qst;exact rfl;exact rfl;exact q_ldp rfl rfl rfl hr rfl
      repeat (refine stp rfl ?_ ?_;·repeat' constructor)
      apply qst;exact rfl;exact rfl;exact q_callP rfl (hi) rfl (by repeat' constructor) rfl rfl
      repeat (refine stp rfl ?_ ?_;·repeat' constructor)
      apply qst;exact rfl;exact rfl;exact q_slit rfl rfl rfl rfl rfl rfl rfl rfl rfl rfl (by repeat' constructor) rfl
      repeat (refine stp rfl ?_ ?_;·repeat' constructor)
      refine ps_run (o_app 0 rfl rfl rfl rfl rfl rfl rfl rfl rfl rfl rfl (by repeat' constructor) (by intro row hr; first | (simp at hr; subst hr; rfl) | simp at hr) rfl rfl (by simp; omega) (by simp; omega) ?_)
      repeat (refine stp rfl ?_ ?_;·repeat' constructor)
      refine ⟨k + 1, hlt, by omega, rfl, ?_, rfl, rfl, i64_next (by omega) (by omega), rfl, ?_, rfl, trivial⟩
      · rw [hs, List.map_append]; rfl
      · rw [hs, List.map_append]; rfl
    case r lo hi =>
      have hi := itoa_ret _ (Int.le_trans (by decide) hlim.1) (Int.le_trans hlim.2 (by decide))
      repeat (refine stp rfl ?_ ?_;·repeat' constructor)
      apply qst;exact rfl;exact rfl;exact q_idxA rfl rfl rfl rfl rfl rfl rfl (by omega) (by omega)
      apply qst;exact rfl;exact rfl;exact q_ldp rfl rfl rfl hr rfl
      repeat (refine stp rfl ?_ ?_;·repeat' constructor)
      apply qst;exact rfl;exact rfl;exact q_callP rfl (hi) rfl (by repeat' constructor) rfl rfl
      repeat (refine stp rfl ?_ ?_;·repeat' constructor)
      apply qst;exact rfl;exact rfl;exact q_slit rfl rfl rfl rfl rfl rfl rfl rfl rfl rfl (by repeat' constructor) rfl
      repeat (refine stp rfl ?_ ?_;·repeat' constructor)
      refine ps_run (o_app 0 rfl rfl rfl rfl rfl rfl rfl rfl rfl rfl rfl (by repeat' constructor) (by intro row hr; first | (simp at hr; subst hr; rfl) | simp at hr) rfl rfl (by simp; omega) (by simp; omega) ?_)
      repeat (refine stp rfl ?_ ?_;·repeat' constructor)
      refine ⟨k + 1, hlt, by omega, rfl, ?_, rfl, rfl, i64_next (by omega) (by omega), rfl, ?_, rfl, trivial⟩
      · rw [hs, List.map_append]; rfl
      · rw [hs, List.map_append]; rfl
    case l lo hi =>
      have hi := itoa_ret _ (Int.le_trans (by decide) hlim.1) (Int.le_trans hlim.2 (by decide))
      repeat (refine stp rfl ?_ ?_;·repeat' constructor)
      apply qst;exact rfl;exact rfl;exact q_idxA rfl rfl rfl rfl rfl rfl rfl (by omega) (by omega)
      apply qst;exact rfl;exact rfl;exact q_ldp rfl rfl rfl hr rfl
      repeat (refine stp rfl ?_ ?_;·repeat' constructor)
      apply qst;exact rfl;exact rfl;exact q_callP rfl (hi) rfl (by repeat' constructor) rfl rfl
      repeat (refine stp rfl ?_ ?_;·repeat' constructor)
      apply qst;exact rfl;exact rfl;exact q_slit rfl rfl rfl rfl rfl rfl rfl rfl rfl rfl (by repeat' constructor) rfl
      repeat (refine stp rfl ?_ ?_;·repeat' constructor)
      refine ps_run (o_app 0 rfl rfl rfl rfl rfl rfl rfl rfl rfl rfl rfl (by repeat' constructor) (by intro row hr; first | (simp at hr; subst hr; rfl) | simp at hr) rfl rfl (by simp; omega) (by simp; omega) ?_)
      repeat (refine stp rfl ?_ ?_;·repeat' constructor)
      refine ⟨k + 1, hlt, by omega, rfl, ?_, rfl, rfl, i64_next (by omega) (by omega), rfl, ?_, rfl, trivial⟩
      · rw [hs, List.map_append]; rfl
      · rw [hs, List.map_append]; rfl
  · have hz : k = fs.length := by have := of_decide_eq_false h; omega
    subst hz
    repeat (refine stp rfl ?_ ?_;·repeat' constructor)
    apply qst;exact rfl;exact rfl;exact q_callP rfl (hj) rfl (by repeat' constructor) rfl rfl
    repeat (refine stp rfl ?_ ?_;·repeat' constructor)
    exact end1 rfl rfl rfl trivial rfl
theorem format_ret (p : SPost) (hc : checkE p = 0) : Ret Tryd.prog .shared 24 [.agg (ePost p)] (.tup [.str (textP p), I 0]) := by
  have h1 := checkPost_ret p
  have h2 := written_ret p hc
  rw [hc] at h1
  refine Ret.of_pwp layOk mixed Go.Proofs.Tryd.func24 rfl (by decide) rfl rfl ?_
  repeat (refine stp rfl ?_ ?_;·repeat' constructor)
  apply qst;exact rfl;exact rfl;exact q_callP rfl (h1) rfl (by repeat' constructor) rfl rfl
  repeat (refine stp rfl ?_ ?_;·repeat' constructor)
  apply qst;exact rfl;exact rfl;exact q_callP rfl (h2) rfl (by repeat' constructor) rfl rfl
  repeat (refine stp rfl ?_ ?_;·repeat' constructor)
  exact end2 rfl rfl rfl rfl rfl trivial trivial rfl
end Go.Pv

/- The value of an entry; the chapter's example. -/
set_option maxHeartbeats 2000000
namespace Go.Pv
attribute [local irreducible] PWP POps PQuiet PSem XThen XBlock RetPost InlPost
open Go.Proofs

def valF (l : List SPost) (n : Int) (b : Nat) : Int := if 0 < latF l n b then (entL l (latF l n b)).amount else (entL l n).amount
theorem value_ret (l : List SPost) (hO : Ok l) (n : Int) (b : Nat) (hn : 1 ≤ n) (hnb : n ≤ b) (hb : b ≤ l.length) : Ret Tryd.prog .shared 62 [.dref (eBook l) 0, I n, I (b + 1)] (I (valF l n b)) := by
  have hl := hO.wf.len
  have hlt := latest_ret l hO n b hn hnb hb
  have hlb := latF_bounds l n b
  have he := entry_ret l n hn (by omega) hl
  have he2 := fun h => entry_ret l (latF l n b) h (by omega) hl
  rw [valF]
  generalize latF l n b = m at *
  refine Ret.of_pwp layOk mixed Go.Proofs.Tryd.func62 rfl (by decide) rfl rfl ?_
  repeat (refine stp rfl ?_ ?_;·repeat' constructor)
  apply qst;exact rfl;exact rfl;exact q_callP rfl (hlt) rfl (by repeat' constructor) rfl rfl
  repeat (refine stp rfl ?_ ?_;·repeat' constructor)
  refine pw_cond rfl (fun h => ?_) (fun h => ?_)
  · have h0 := of_decide_eq_true h
    have he2 := he2 (by omega)
    rw [if_pos h0]
    repeat (refine stp rfl ?_ ?_;·repeat' constructor)
    apply qst;exact rfl;exact rfl;exact q_call rfl (he2) rfl (by repeat' constructor) rfl
    repeat (refine stp rfl ?_ ?_;·repeat' constructor)
    exact end1i rfl rfl rfl
  · have h0 := of_decide_eq_false h
    rw [if_neg h0]
    repeat (refine stp rfl ?_ ?_;·repeat' constructor)
    apply qst;exact rfl;exact rfl;exact q_call rfl (he) rfl (by repeat' constructor) rfl
    repeat (refine stp rfl ?_ ?_;·repeat' constructor)
    exact end1i rfl rfl rfl
/-- O1, Ida, shaft, ann, bob. -/
def exO : Str := [79, 49]
def exI : Str := [115, 104, 97, 102, 116]
def exL : List SPost := [⟨0, 0, exO, [], [73, 100, 97], [], 0, 0, 0⟩, ⟨1, 0, exO, exI, [], [], 5000, 0, 0⟩, ⟨3, 1, exO, exI, [], [97, 110, 110], 3000, 0, 0⟩, ⟨4, 1, [], [], [], [98, 111, 98], 0, 3, 0⟩, ⟨6, 3, exO, [], [], [], 0, 0, 0⟩]
theorem example_ret : Ret Tryd.prog .fresh 23 [] (.sl (exL.map ePost)) := by
  refine Ret.of_pwp layOk mixed Go.Proofs.Tryd.func23 rfl (by decide) rfl rfl ?_
  repeat (refine stp rfl ?_ ?_;·repeat' constructor)
  apply qst;exact rfl;exact rfl;exact q_slit rfl rfl rfl rfl rfl rfl rfl rfl rfl rfl (by repeat' constructor) rfl
  repeat (refine stp rfl ?_ ?_;·repeat' constructor)
  exact end1f rfl rfl rfl trivial rfl
theorem exL_acc : Acc exL := by
  have h : ∀ (l : List SPost) (p : SPost), Acc l → cleanP p = p → refusalR l p = 0 → Acc (l ++ [p]) := fun l p h1 h2 h3 => by have := h1.snoc h3; rwa [h2] at this
  have a0 : Acc ([] ++ [(⟨0, 0, exO, [], [73, 100, 97], [], 0, 0, 0⟩ : SPost)]) := h _ _ Acc.nil (by decide) (by decide)
  have a1 := h _ ⟨1, 0, exO, exI, [], [], 5000, 0, 0⟩ a0 (by decide) (by decide)
  have a2 := h _ ⟨3, 1, exO, exI, [], [97, 110, 110], 3000, 0, 0⟩ a1 (by decide) (by decide)
  have a3 := h _ ⟨4, 1, [], [], [], [98, 111, 98], 0, 3, 0⟩ a2 (by decide) (by decide)
  exact h _ ⟨6, 3, exO, [], [], [], 0, 0, 0⟩ a3 (by decide) (by decide)
theorem exText : textP ⟨3, 1, exO, exI, [], [97, 110, 110], 3000, 0, 0⟩ = [49, 32, 99, 104, 97, 114, 103, 101, 32, 79, 49, 32, 115, 104, 97, 102, 116, 32, 97, 110, 110, 32, 51, 48, 48, 48] := by decide +kernel
end Go.Pv

/- Accounts: what they are. -/
set_option maxHeartbeats 2000000
namespace Go.Pv
attribute [local irreducible] PWP POps PQuiet PSem XThen XBlock RetPost InlPost
open Go.Proofs

structure SAcct where
  item : Str
  est : Int
  gro : Int
  chg : Int
  sig : Int
  bil : Int
  ovr : Int
  deriving DecidableEq, Inhabited
def eAcct (a : SAcct) : List PV := [.str a.item, I a.est, I a.gro, I a.chg, I a.sig, I a.bil, I a.ovr]
def sget : List (Str × Int) → Str → Int
  | [], _ => 0
  | (d, c) :: m, k => if d = k then c else sget m k
def sput (k : Str) (v : Int) : List (Str × Int) → List (Str × Int)
  | [] => [(k, v)]
  | (d, c) :: m => if d = k then (d, v) :: m else (d, c) :: sput k v m
def eSV (e : Str × Int) : List PV := [.str e.1, I e.2]
theorem mput_cons' (key v : PV) (row : List PV) (rows : List (List PV)) : mput key v (row :: rows) = bif mhd key row then row.set 1 v :: rows else row :: mput key v rows := mput_cons key v row rows
theorem mval_sv (d : Str) : ∀ m : List (Str × Int), mval (I 0) (.str d) (m.map eSV) = I (sget m d)
  | [] => rfl
  | (e, c) :: m => by
    rw [List.map_cons, mval_cons, mval_sv d m]
    have : mhd (.str d) (eSV (e, c)) = decide (e = d) := rfl
    rw [this, sget]
    by_cases h : e = d
    · rw [if_pos h, decide_eq_true h]; rfl
    · rw [if_neg h, decide_eq_false h]; rfl
theorem mput_sv (d : Str) (v : Int) : ∀ m : List (Str × Int), mput (.str d) (I v) (m.map eSV) = (sput d v m).map eSV
  | [] => rfl
  | (e, c) :: m => by
    rw [List.map_cons, mput_cons, mput_sv d v m]
    have : mhd (.str d) (eSV (e, c)) = decide (e = d) := rfl
    rw [this, sput]
    by_cases h : e = d
    · rw [if_pos h, decide_eq_true h]; rfl
    · rw [if_neg h, decide_eq_false h]; rfl
theorem keyed_sv (m : List (Str × Int)) : keyed .str (m.map eSV) = true := by
  induction m with
  | nil => rfl
  | cons e m ih => rw [List.map_cons]; exact ih
theorem keyedG_sv (m : List (Str × Int)) : keyedG .str none (m.map eSV) = true := by
  induction m with
  | nil => rfl
  | cons e m ih => rw [List.map_cons]; exact ih
theorem sget_sput (k : Str) (v : Int) (d : Str) : ∀ m : List (Str × Int), sget (sput k v m) d = if k = d then v else sget m d
  | [] => rfl
  | (e, c) :: m => by
    have ih := sget_sput k v d m
    simp only [sput, sget]
    by_cases h : e = k
    · subst h
      rw [if_pos rfl, sget]
      by_cases h2 : e = d
      · rw [if_pos h2, if_pos h2]
      · rw [if_neg h2, if_neg h2, if_neg h2]
    · rw [if_neg h, sget, ih]
      by_cases h2 : e = d
      · subst h2; rw [if_pos rfl, if_neg (fun e => h e.symm), if_pos rfl]
      · rw [if_neg h2, if_neg h2]
/-- Amounts are bounded. -/
def Lim (n : Int) : Prop := -1000000000 ≤ n ∧ n ≤ 1000000000
theorem clean_amount {p : SPost} (hc : checkE p = 0) : Lim (cleanP p).amount := by
  have key : ∀ (fs : List Fd) (o : SPost), Lim o.amount → (∀ f, f ∈ fs → f.fine p) → Lim (fs.foldl (fun o f => f.set p o) o).amount := by
    intro fs
    induction fs with
    | nil => intro o ho _; exact ho
    | cons f fs ih =>
      intro o ho hf
      rw [List.foldl_cons]
      refine ih _ ?_ fun g hg => hf g (by simp [hg])
      have := hf f (by simp)
      cases f <;> first | exact ho | exact this
  refine key _ _ (show Lim 0 from ⟨by decide, by decide⟩) fun f hf => ?_
  obtain ⟨k, hk, hfe⟩ := List.getElem_of_mem hf
  exact num_lim hc (k := k) (f := f) (by rw [← hfe]; exact List.getElem?_eq_getElem hk)
theorem Acc.amt {l : List SPost} (h : Acc l) : ∀ (j : Nat) p, l[j]? = some p → Lim p.amount := by
  induction h with
  | nil => intro j p h; simp at h
  | snoc _ hr ih =>
    intro j p hp
    rcases snoc_get hp with ⟨_, hp⟩ | ⟨_, rfl⟩
    · exact ih j p hp
    · exact clean_amount (refusalR_zero hr).1
theorem valF_lim {l : List SPost} (h : Acc l) (n : Int) (b : Nat) (hn : 1 ≤ n) (hnb : n ≤ b) (hb : b ≤ l.length) : Lim (valF l n b) := by
  have hlb := latF_bounds l n b
  rw [valF]
  split
  · exact h.amt _ _ (entL_at (by omega) (by omega))
  · exact h.amt _ _ (entL_at hn (by omega))
/-- What an entry does to the accounts of an order. -/
def accI (o : Str) (l : List SPost) (n : Int) : Bool := decide ((entL l n).order = o) && liveB l n
def billF (l : List SPost) (n : Int) : Int := if 0 < invF l n l.length then valF l n (invF l n l.length - 1).toNat else 0
def accS (l : List SPost) (o : Str) (n : Int) (M : List SAcct × List (Str × Int)) : List SAcct × List (Str × Int) :=
  if accI o l n = false then M
  else if (entL l n).op = 1 then (M.1 ++ [⟨(entL l n).item, valF l n l.length, 0, 0, 0, 0, 0⟩], sput (entL l n).item M.1.length M.2)
  else if (entL l n).op = 2 then
    (if sgdB l n l.length 1 = true then (M.1.modify (sget M.2 (entL l n).item).toNat (fun a => { a with gro := a.gro + valF l n l.length }), M.2) else M)
  else if (entL l n).op = 3 then
    (M.1.modify (sget M.2 (entL l n).item).toNat (fun a => { a with chg := a.chg + valF l n l.length, sig := a.sig + (if sgdB l n l.length 0 = true then valF l n l.length else 0), bil := a.bil + billF l n }), M.2)
  else M
def accK (l : List SPost) (o : Str) : Nat → List SAcct × List (Str × Int)
  | 0 => ([], [])
  | k + 1 => accS l o ((k : Int) + 1) (accK l o k)
def ovrA (a : SAcct) : SAcct := { a with ovr := max 0 (a.chg - a.est - a.gro) }
def accP (l : List SPost) (o : Str) : List SAcct := (accK l o l.length).1.map ovrA
end Go.Pv

/- Accounts: their bounds, and where an item stands. -/
set_option maxHeartbeats 2000000
namespace Go.Pv
attribute [local irreducible] PWP POps PQuiet PSem XThen XBlock RetPost InlPost
open Go.Proofs

def LimA (B : Int) (a : SAcct) : Prop := (-B ≤ a.est ∧ a.est ≤ B) ∧ (-B ≤ a.gro ∧ a.gro ≤ B) ∧ (-B ≤ a.chg ∧ a.chg ≤ B) ∧ (-B ≤ a.sig ∧ a.sig ≤ B) ∧ (-B ≤ a.bil ∧ a.bil ≤ B) ∧ a.ovr = 0
structure AccInv (l : List SPost) (o : Str) (k : Nat) (M : List SAcct × List (Str × Int)) : Prop where
  idx : ∀ j : Int, 1 ≤ j → j ≤ k → (entL l j).op = 1 → accI o l j = true → 0 ≤ sget M.2 (entL l j).item ∧ sget M.2 (entL l j).item < M.1.length
  lim : ∀ a, a ∈ M.1 → LimA (1000000000 * k) a
  len : M.1.length ≤ k
theorem LimA.mono {B B' : Int} {a : SAcct} (h : LimA B a) (hb : B ≤ B') : LimA B' a := by
  obtain ⟨h1, h2, h3, h4, h5, h6⟩ := h
  exact ⟨by omega, by omega, by omega, by omega, by omega, h6⟩
theorem mem_modify {α : Type} {l : List α} {i : Nat} {f : α → α} {x : α} (h : x ∈ l.modify i f) : x ∈ l ∨ ∃ y, y ∈ l ∧ x = f y := by
  obtain ⟨j, hj, rfl⟩ := List.getElem_of_mem h
  have hj' : j < l.length := by simpa using hj
  rw [List.getElem_modify]
  split
  · exact .inr ⟨l[j], by simp, rfl⟩
  · exact .inl (by simp)
theorem billF_lim {l : List SPost} (h : Acc l) {n : Int} (hn : 1 ≤ n) (hnl : n ≤ l.length) : Lim (billF l n) := by
  rw [billF]
  split
  · rename_i h0
    -- the invoice stands behind the charge
    have key : ∀ k : Nat, 0 < invF l n k → n < invF l n k ∧ invF l n k ≤ k := by
      intro k
      induction k with
      | zero => intro h; simp [invF] at h
      | succ k ih =>
        intro h
        rw [invF] at h ⊢
        split
        · rename_i hz
          rw [if_pos hz] at h
          split
          · rename_i hc
            simp only [Bool.and_eq_true, decide_eq_true_eq] at hc
            omega
          · rename_i hc
            rw [if_neg hc] at h; omega
        · rename_i hz
          rw [if_neg hz] at h
          have := ih h
          omega
    have := key _ h0
    exact valF_lim h n _ hn (by omega) (by omega)
  · exact ⟨by decide, by decide⟩
theorem accK_inv {l : List SPost} (h : Acc l) (o : Str) : ∀ k : Nat, k ≤ l.length → AccInv l o k (accK l o k)
  | 0, _ => ⟨fun j h1 h2 => by omega, fun a ha => by simp [accK] at ha, by simp [accK]⟩
  | k + 1, hk => by
    have ih := accK_inv h o k (by omega)
    have hv := valF_lim h ((k : Int) + 1) l.length (by omega) (by omega) (Nat.le_refl _)
    have hb := billF_lim h (n := (k : Int) + 1) (by omega) (by omega)
    rw [accK]
    generalize accK l o k = M at *
    obtain ⟨A, T⟩ := M
    have hsame : (entL l ((k : Int) + 1)).op ≠ 1 ∨ accI o l ((k : Int) + 1) = false → ∀ A' : List SAcct, A'.length = A.length → (∀ a, a ∈ A' → LimA (1000000000 * ((k + 1 : Nat) : Int)) a) → AccInv l o (k + 1) (A', T) := fun hc A' hl hlim => by
      refine ⟨fun j h1 h2 h3 h4 => ?_, hlim, by rw [hl]; have := ih.len; simp only at this ⊢; omega⟩
      have hj : j ≤ k := by
        rcases Int.lt_or_le k j with hlt | hge
        · have : j = k + 1 := by omega
          subst this
          rcases hc with hc | hc
          · exact absurd h3 hc
          · rw [hc] at h4; cases h4
        · exact hge
      have := ih.idx j h1 hj h3 h4
      simp only at this ⊢
      rw [hl]; exact this
    have hlim0 : ∀ a, a ∈ A → LimA (1000000000 * ((k + 1 : Nat) : Int)) a := fun a ha => (ih.lim a ha).mono (by omega)
    rw [accS]
    by_cases hi : accI o l ((k : Int) + 1) = false
    · rw [if_pos hi]; exact hsame (.inr hi) A rfl hlim0
    rw [if_neg hi]
    by_cases h1 : (entL l ((k : Int) + 1)).op = 1
    · rw [if_pos h1]
      refine ⟨fun j g1 g2 g3 g4 => ?_, fun a ha => ?_, by have := ih.len; simp at this ⊢; omega⟩
      · simp only [sget_sput, List.length_append, List.length_cons, List.length_nil]
        split
        · omega
        · rename_i hne
          have hj : j ≤ k := by
            rcases Int.lt_or_le k j with hlt | hge
            · have : j = k + 1 := by omega
              subst this
              exact absurd rfl hne
            · exact hge
          have := ih.idx j g1 hj g3 g4
          simp only at this
          omega
      · rcases List.mem_append.1 ha with ha | ha
        · exact hlim0 a ha
        · simp only [List.mem_cons, List.not_mem_nil, or_false] at ha
          subst ha
          have hk0 : 1000000000 * ((k + 1 : Nat) : Int) ≥ 1000000000 := by omega
          exact ⟨⟨by have := hv.1; simp only; omega, by have := hv.2; simp only; omega⟩, ⟨by simp only; omega, by simp only; omega⟩, ⟨by simp only; omega, by simp only; omega⟩, ⟨by simp only; omega, by simp only; omega⟩, ⟨by simp only; omega, by simp only; omega⟩, rfl⟩
    rw [if_neg h1]
    have hmod : ∀ (i : Nat) (f : SAcct → SAcct), (∀ a, LimA (1000000000 * (k : Int)) a → LimA (1000000000 * ((k + 1 : Nat) : Int)) (f a)) → AccInv l o (k + 1) (A.modify i f, T) := fun i f hf =>
      hsame (.inl h1) _ (by simp) fun a ha => by
        rcases mem_modify ha with ha | ⟨y, hy, rfl⟩
        · exact hlim0 a ha
        · exact hf y (ih.lim y hy)
    by_cases h2 : (entL l ((k : Int) + 1)).op = 2
    · rw [if_pos h2]
      split
      · refine hmod _ _ fun a ⟨e1, e2, e3, e4, e5, e6⟩ => ⟨by simp only; omega, ?_, by simp only; omega, by simp only; omega, by simp only; omega, e6⟩
        have := hv.1; have := hv.2; simp only; omega
      · exact hsame (.inl h1) A rfl hlim0
    rw [if_neg h2]
    by_cases h3 : (entL l ((k : Int) + 1)).op = 3
    · rw [if_pos h3]
      refine hmod _ _ fun a ⟨e1, e2, e3, e4, e5, e6⟩ => ⟨by simp only; omega, by simp only; omega, ?_, ?_, ?_, e6⟩
      · have := hv.1; have := hv.2; simp only; omega
      · have := hv.1; have := hv.2; simp only; split <;> omega
      · have := hb.1; have := hb.2; simp only; omega
    · rw [if_neg h3]; exact hsame (.inl h1) A rfl hlim0
/-- The account of the item that a live entry is of. -/
theorem acc_item {l : List SPost} (h : Acc l) {o : Str} {k : Nat} (hk : k < l.length) (hi : accI o l ((k : Int) + 1) = true) (ho : (entL l ((k : Int) + 1)).op = 2 ∨ (entL l ((k : Int) + 1)).op = 3) :
    0 ≤ sget (accK l o k).2 (entL l ((k : Int) + 1)).item ∧ sget (accK l o k).2 (entL l ((k : Int) + 1)).item < (accK l o k).1.length := by
  have hinv := accK_inv h o k (by omega)
  have hO := h.ok
  have he := entL_at (l := l) (n := (k : Int) + 1) (by omega) (by omega)
  rw [show ((k : Int) + 1 - 1).toNat = k by omega] at he
  simp only [accI, Bool.and_eq_true, decide_eq_true_eq] at hi
  have hpos := (hO.pos _ _ he).2.1 ho
  have hlt := hO.wf.sup _ _ he
  have hsu : supNo l (entL l ((k : Int) + 1)) = itmNo l (entL l ((k : Int) + 1)).order (entL l ((k : Int) + 1)).item := by rw [supNo, if_neg (by omega), if_pos ho]
  have hlv := liveB_pos hO.wf (n := (k : Int) + 1) (by omega)
  rw [hi.2, hsu] at hlv
  have hlv := (Bool.and_eq_true_iff.1 hlv.symm).2
  rw [hsu] at hlt
  generalize hj : itmNo l (entL l ((k : Int) + 1)).order (entL l ((k : Int) + 1)).item = j at *
  rw [itmNo] at hj
  obtain ⟨x, hx, hxp⟩ := idx_lt (l := l) (p := fun p => decide (p.op = 1) && decide (p.order = (entL l ((k : Int) + 1)).order) && decide (p.item = (entL l ((k : Int) + 1)).item)) (by omega)
  have hxe : entL l j = x := by
    have := entL_at (l := l) (n := j) (by omega) (by omega)
    rw [show (j - 1).toNat = (idx l fun p => decide (p.op = 1) && decide (p.order = (entL l ((k : Int) + 1)).order) && decide (p.item = (entL l ((k : Int) + 1)).item)).toNat by omega, hx] at this
    exact (Option.some.inj this).symm
  simp only [Bool.and_eq_true, decide_eq_true_eq] at hxp
  have := hinv.idx j (by omega) (by omega) (by rw [hxe]; exact hxp.1.1) (by rw [accI, hxe, hxp.1.2, hi.1, hlv]; simp)
  rw [hxe, hxp.2] at this
  exact this
end Go.Pv

/- Accounts: the program. -/
set_option maxHeartbeats 2000000
namespace Go.Pv
attribute [local irreducible] PWP POps PQuiet PSem XThen XBlock RetPost InlPost
open Go.Proofs

section
variable {P : Program} {L : Lay} {s : St} {T d : Nat} {r : LRow} {x y : Operand} {ty : TypeId} {pos : String} {af : Array Edge} {g : Option (Nat × Bool)} {K : St → Prop}
/-- A store into one row of a list's image. -/
theorem o_storeM {α : Type} {enc : α → List PV} {l : List α} {a : α} (a' : α) {v : PV} {k gn i jj kd kd' : Nat} {tc : TypeId} {sz : Nat} {Pr : Prop} (hr : L T = some r) (hx : s.ev x = .ptr k gn i jj) (hown : s.own k = (gn, some ⟨tc, sz, l.map enc, kd⟩)) (hget : l[i]? = some a) (hv : (s.ev y).fz = some v) (h1 : oneL s v.cells = some Pr) (h2 : Pr)
    (hsz : v.cells.length = r.size) (hle : Nat.ble (jj + r.size) (enc a).length = true) (hk : Nat.ble kd kd' = true) (hkd : v.cells.all (kOk kd') = true) (hnew : splc (enc a) jj (v.cells.map (nrm kd')) = enc a') (h : K (s.setOwn k gn (some ⟨tc, sz, (l.set i a').map enc, kd'⟩))) : POp P L s ⟨none, .store T x y, ty, pos, af, g⟩ K := by
  refine o_store hr hx hown (by rw [List.getElem?_map, hget]; rfl) hv h1 h2 hsz hle hk hkd ?_
  rw [hnew, ← List.map_set]
  exact h
end
theorem modify_set {α : Type} {l : List α} {i : Nat} {a : α} (h : l[i]? = some a) (f : α → α) : l.modify i f = l.set i (f a) := by
  have hi := (List.getElem?_eq_some_iff.1 h).1
  apply List.ext_getElem?
  intro j
  by_cases hj : i = j
  · subst hj
    rw [List.getElem?_modify, h, List.getElem?_set_self hi]; simp
  · rw [List.getElem?_modify, List.getElem?_set_ne hj]; simp [hj]
theorem set_at {α : Type} {l : List α} {i : Nat} {a : α} (h : l[i]? = some a) (b : α) : (l.set i b)[i]? = some b := List.getElem?_set_self (List.getElem?_eq_some_iff.1 h).1
def ovrK (A : List SAcct) (j : Nat) : List SAcct := (A.take j).map ovrA ++ A.drop j
theorem ovrK_at {A : List SAcct} {j : Nat} {a : SAcct} (h : A[j]? = some a) : (ovrK A j)[j]? = some a ∧ (ovrK A j).set j (ovrA a) = ovrK A (j + 1) := by
  obtain ⟨hj, he⟩ := List.getElem?_eq_some_iff.1 h
  have hl : ((A.take j).map ovrA).length = j := by simp; omega
  constructor
  · rw [ovrK, List.getElem?_append_right (by omega), hl, Nat.sub_self, List.getElem?_drop]; exact h
  · rw [ovrK, ovrK, take_snoc h, List.map_append, List.set_append_right _ _ (by omega), hl, Nat.sub_self, List.drop_eq_getElem_cons hj, he]
    simp
theorem ovrK_len (A : List SAcct) (j : Nat) : (ovrK A j).length = A.length := by simp [ovrK]; omega
theorem inv_bounds {l : List SPost} {n : Int} : ∀ {k : Nat}, 0 < invF l n k → n < invF l n k ∧ invF l n k ≤ k
  | 0, h => by simp [invF] at h
  | k + 1, h => by
    rw [invF] at h ⊢
    by_cases hz : invF l n k = 0
    · rw [if_pos hz] at h ⊢
      split
      · rename_i hc
        simp only [Bool.and_eq_true, decide_eq_true_eq] at hc
        omega
      · rename_i hc
        rw [if_neg hc] at h; omega
    · rw [if_neg hz] at h ⊢
      have := inv_bounds h
      omega
set_option maxRecDepth 20000 in
theorem accounts_ret (l : List SPost) (hA : Acc l) (o : Str) : Ret Tryd.prog .fresh 45 [.dref (eBook l) 0, .str o] (.sl ((accP l o).map eAcct)) := by
  have hO := hA.ok
  have hl := hO.wf.len
  have hll : ((l.map ePost).length : Int) = l.length := by simp
  have h30 := covered_ret l hO o
  have h29 := end_ret l hl
  refine Ret.of_pwp layOk mixed Go.Proofs.Tryd.func45 rfl (by decide) rfl rfl ?_
  ((repeat (first | refine ps_nil ?_ | refine pq_nil ?_ | refine x_norm ?_ | refine pw_seq ?_)); refine pw_region ?_)
  refine ps_v rfl trivial ?_
  ((repeat (first | refine ps_nil ?_ | refine pq_nil ?_ | refine x_norm ?_ | refine pw_seq ?_)); refine pw_region ?_)
  refine ps_v rfl trivial ?_
  refine ps_nil ?_
  refine x_norm ?_
  refine pw_ghost (Ghost.nilreg (k := 5) (t := 5) 59 7 0 rfl rfl) ?_
  repeat (refine stp rfl ?_ ?_;·repeat' constructor)
  refine ps_run (o_mkmap rfl ?_)
  repeat (refine stp rfl ?_ ?_;·repeat' constructor)
  apply qst;exact rfl;exact rfl;exact q_callF rfl (h30) rfl (by repeat' constructor) rfl
  repeat (refine stp rfl ?_ ?_;·repeat' constructor)
  apply qst;exact rfl;exact rfl;exact q_callP rfl (h29) rfl (by repeat' constructor) rfl rfl
  repeat (refine stp rfl ?_ ?_;·repeat' constructor)
  rw [hll]
  refine pw_loop (fun (k : Nat × Nat) => k.1 ≤ l.length) (fun k => [(0, .dref (eBook l) 0), (1, .str o), (5, .als 5 k.2 0 (((accK l o k.1).1.map eAcct).length)), (6, .mp 17 1), (7, .mapd ((covOut l o l.length).map eKV)), (8, I (l.length + 1)), (26, .sl (l.map ePost)), (27, I l.length), (28, I k.1)])
    (fun k => [(5, k.2, ⟨59, 7, (accK l o k.1).1.map eAcct, 0⟩), (17, 1, ⟨66, 0, (accK l o k.1).2.map eSV, 0⟩)]) (fun k => l.length - k.1) (0, 1) (Nat.zero_le _) ⟨rfl, rfl, rfl, rfl, rfl, rfl, rfl, rfl, rfl, rfl, rfl, trivial⟩ ?_
  rintro ⟨k, g⟩ s hk
  have hk : k ≤ l.length := hk
  clear h30 h29
  repeat (refine stp rfl ?_ ?_;·repeat' constructor)
  refine pw_cond rfl (fun h => ?_) (fun h => ?_)
  · have hlt : k < l.length := by have := of_decide_eq_true h; omega
    clear h
    have hx : l[k]? = some (entL l ((k : Int) + 1)) := by
      have := entL_at (l := l) (n := (k : Int) + 1) (by omega) (by omega)
      rwa [show ((k : Int) + 1 - 1).toNat = k by omega] at this
    have hv := live_ret l hO.wf ((k : Int) + 1) (by omega)
    have hval := value_ret l hO ((k : Int) + 1) l.length (by omega) (by omega) (Nat.le_refl _)
    have hvl := valF_lim hA ((k : Int) + 1) l.length (by omega) (by omega) (Nat.le_refl _)
    have hs1 := signed_ret l hO ((k : Int) + 1) l.length 1 (by omega) (by omega) (Nat.le_refl _)
    have hs0 := signed_ret l hO ((k : Int) + 1) l.length 0 (by omega) (by omega) (Nat.le_refl _)
    have hcov := fun h1 h2 h3 => covOut_at (l := l) (o := o) (n := (k : Int) + 1) h1 h2 h3 (by omega) l.length
    have hidx := acc_item hA (o := o) hlt
    have hinv := accK_inv hA o k hk
    have hst : accK l o (k + 1) = accS l o ((k : Int) + 1) (accK l o k) := rfl
    have hw : IntKind.wrap .i64 ((k : Int) + 1) = (k : Int) + 1 := wrap_i64 (by omega) (by omega)
    have hnx : ∀ s' : St, s'.reg 28 = I ((k : Int) + 1) → True := fun _ _ => trivial
    rw [accS, accI] at hst
    rw [accI] at hidx
    generalize accK l o k = M at *
    obtain ⟨A, T⟩ := M
    simp only at hidx hst
    have hAl : ((A.map eAcct).length : Int) = A.length := by simp
    have hAn : A.length ≤ 400 := by have := hinv.len; simp only at this; omega
    generalize entL l ((k : Int) + 1) = x at *
    repeat (refine stp rfl ?_ ?_;·repeat' constructor)
    apply qst;exact rfl;exact rfl;exact q_idxm rfl rfl rfl rfl rfl (by omega) hx rfl
    repeat (refine stp rfl ?_ ?_;·repeat' constructor)
    rw [hw]
    (first | refine ps_split rfl rfl (fun h => ?_) (fun h => ?_) | refine pq_split rfl rfl (fun h => ?_) (fun h => ?_) | refine p3_split rfl rfl (fun h => ?_) (fun h => ?_))
    · have g1 : ¬ x.order = o := by simpa using h
      rw [decide_eq_false g1, Bool.false_and, if_pos rfl] at hst
      repeat (refine stp rfl ?_ ?_;·repeat' constructor)
      exact ⟨(k + 1, g), hlt, by show l.length - (k + 1) < l.length - k; omega, rfl, rfl, by rw [hst]; rfl, rfl, rfl, rfl, rfl, rfl, i64_next (by omega) (by omega), by rw [hst]; rfl, by rw [hst]; rfl, trivial⟩
    have g1 : x.order = o := by simpa using h
    clear h
    rw [decide_eq_true g1, Bool.true_and] at hst hidx
    generalize hlv : liveB l ((k : Int) + 1) = lv at *
    repeat (refine stp rfl ?_ ?_;·repeat' constructor)
    apply qst;exact rfl;exact rfl;exact q_callP rfl (hv) rfl (by repeat' constructor) rfl rfl
    cases lv with
    | false =>
      rw [if_pos rfl] at hst
      repeat (refine stp rfl ?_ ?_;·repeat' constructor)
      exact ⟨(k + 1, g), hlt, by show l.length - (k + 1) < l.length - k; omega, rfl, rfl, by rw [hst]; rfl, rfl, rfl, rfl, rfl, rfl, i64_next (by omega) (by omega), by rw [hst]; rfl, by rw [hst]; rfl, trivial⟩
    | true =>
    rw [if_neg (by simp)] at hst
    replace hidx := hidx rfl
    generalize hvv : valF l ((k : Int) + 1) l.length = v at *
    repeat (refine stp rfl ?_ ?_;·repeat' constructor)
    apply qst;exact rfl;exact rfl;exact q_callP rfl (hval) rfl (by repeat' constructor) rfl rfl
    repeat (refine stp rfl ?_ ?_;·repeat' constructor)
    by_cases h1 : x.op = 1
    · rw [if_pos h1] at hst
      repeat (first|(refine stp rfl ?_ ?_;·repeat' constructor)|(refine pw_cond rfl (fun hA => absurd hA (by intro hA; simp only [decide_eq_true_eq, decide_eq_false_iff_not, Bool.not_eq_true', Bool.not_eq_false'] at hA; omega)) (fun _ => ?_))|(refine pw_cond rfl (fun _ => ?_) (fun hA => absurd hA (by intro hA; simp only [decide_eq_true_eq, decide_eq_false_iff_not, Bool.not_eq_true', Bool.not_eq_false'] at hA; omega))))
      refine ps_run0 (o_mset 0 rfl rfl rfl rfl rfl rfl rfl rfl rfl (keyed_sv T) rfl rfl ?_)
      rw [show nrm 0 (PV.int .i64 ((A.map eAcct).length : Int)) = I ((A.map eAcct).length : Int) from rfl, mput_sv, hAl]
      repeat (refine stp rfl ?_ ?_;·repeat' constructor)
      apply qst;exact rfl;exact rfl;exact q_slit rfl rfl rfl rfl rfl rfl rfl rfl rfl rfl (by repeat' constructor) rfl
      repeat (refine stp rfl ?_ ?_;·repeat' constructor)
      refine ps_run (o_app 0 rfl rfl rfl rfl rfl rfl rfl rfl rfl rfl rfl (by repeat' constructor) (by intro row hr; first | (simp at hr; subst hr; rfl) | simp at hr) rfl rfl (by simp; omega) (by simp; omega) ?_)
      repeat (refine stp rfl ?_ ?_;·repeat' constructor)
      refine ⟨(k + 1, g + 1), hlt, by show l.length - (k + 1) < l.length - k; omega, rfl, rfl, ?_, rfl, rfl, rfl, rfl, rfl, i64_next (by omega) (by omega), ?_, ?_, trivial⟩
      · rw [hst, List.map_append]; rfl
      · rw [hst, List.map_append]; rfl
      · rw [hst]; rfl
    rw [if_neg h1] at hst
    by_cases h2 : x.op = 2
    · rw [if_pos h2] at hst
      have hid := hidx (.inl h2)
      obtain ⟨a, ha⟩ := get_lt (show (sget T x.item).toNat < A.length by omega)
      have hla := hinv.lim a (List.mem_of_getElem? ha)
      obtain ⟨e1, e2, e3, e4, e5, e6⟩ := hla
      rw [modify_set ha, ← Nat.zero_add (sget T x.item).toNat] at hst
      have hg0 : A[0 + (sget T x.item).toNat]? = some a := by rw [Nat.zero_add]; exact ha
      have hrow : (A.map eAcct)[0 + (sget T x.item).toNat]? = some (eAcct a) := by rw [List.getElem?_map, hg0]; rfl
      have hwa : IntKind.wrap .i64 (a.gro + v) = a.gro + v := by have := hvl.1; have := hvl.2; exact wrap_i64 (by omega) (by omega)
      have hmb : sget T x.item < (A.map eAcct).length := by rw [List.length_map]; exact hid.2
      generalize sgdB l ((k : Int) + 1) l.length 1 = sg at *
      clear h1
      repeat (first|(refine stp rfl ?_ ?_;·repeat' constructor)|(refine pw_cond rfl (fun hA => absurd hA (by intro hA; simp only [decide_eq_true_eq, decide_eq_false_iff_not, Bool.not_eq_true', Bool.not_eq_false'] at hA; omega)) (fun _ => ?_))|(refine pw_cond rfl (fun _ => ?_) (fun hA => absurd hA (by intro hA; simp only [decide_eq_true_eq, decide_eq_false_iff_not, Bool.not_eq_true', Bool.not_eq_false'] at hA; omega))))
      apply qst;exact rfl;exact rfl;exact q_callP rfl (hs1) rfl (by repeat' constructor) rfl rfl
      cases sg with
      | false =>
        rw [if_neg (by simp)] at hst
        repeat (refine stp rfl ?_ ?_;·repeat' constructor)
        exact ⟨(k + 1, g), hlt, by show l.length - (k + 1) < l.length - k; omega, rfl, rfl, by rw [hst]; rfl, rfl, rfl, rfl, rfl, rfl, i64_next (by omega) (by omega), by rw [hst]; rfl, by rw [hst]; rfl, trivial⟩
      | true =>
        rw [if_pos rfl] at hst
        repeat (refine stp rfl ?_ ?_;·repeat' constructor)
        apply qst;exact rfl;exact rfl;exact q_lookG none rfl rfl rfl rfl rfl zone3 rfl rfl rfl rfl rfl rfl (keyedG_sv T)
        rw [mval_sv]
        apply qst;exact rfl;exact rfl;exact q_idxA rfl rfl rfl rfl rfl rfl rfl hid.1 hmb
        repeat (refine stp rfl ?_ ?_;·repeat' constructor)
        apply qst;exact rfl;exact rfl;exact q_ldp rfl rfl rfl hrow rfl
        repeat (refine stp rfl ?_ ?_;·repeat' constructor)
        rw [hwa]
        apply qst;exact rfl;exact rfl;exact q_idxA rfl rfl rfl rfl rfl rfl rfl hid.1 hmb
        repeat (refine stp rfl ?_ ?_;·repeat' constructor)
        refine ps_run0 (o_storeM (enc := eAcct) { a with gro := a.gro + v } (kd' := 0) rfl rfl rfl hg0 rfl rfl ⟨trivial, trivial⟩ rfl rfl rfl rfl rfl ?_)
        repeat (refine stp rfl ?_ ?_;·repeat' constructor)
        exact ⟨(k + 1, g), hlt, by show l.length - (k + 1) < l.length - k; omega, rfl, rfl, by rw [hst]; show PV.als 5 g 0 (A.map eAcct).length = PV.als 5 g 0 ((A.set _ _).map eAcct).length; rw [List.length_map, List.length_map, List.length_set], rfl, rfl, rfl, rfl, rfl, i64_next (by omega) (by omega), by rw [hst]; rfl, by rw [hst]; rfl, trivial⟩
    rw [if_neg h2] at hst
    by_cases h3 : x.op = 3
    · rw [if_pos h3] at hst
      have hid := hidx (.inr h3)
      obtain ⟨a, ha⟩ := get_lt (show (sget T x.item).toNat < A.length by omega)
      have hla := hinv.lim a (List.mem_of_getElem? ha)
      obtain ⟨e1, e2, e3, e4, e5, e6⟩ := hla
      rw [modify_set ha, ← Nat.zero_add (sget T x.item).toNat] at hst
      have hg0 : A[0 + (sget T x.item).toNat]? = some a := by rw [Nat.zero_add]; exact ha
      have hrow : (A.map eAcct)[0 + (sget T x.item).toNat]? = some (eAcct a) := by rw [List.getElem?_map, hg0]; rfl
      have hwc : IntKind.wrap .i64 (a.chg + v) = a.chg + v := by have := hvl.1; have := hvl.2; exact wrap_i64 (by omega) (by omega)
      have hws : IntKind.wrap .i64 (a.sig + v) = a.sig + v := by have := hvl.1; have := hvl.2; exact wrap_i64 (by omega) (by omega)
      have hmb : sget T x.item < (A.map eAcct).length := by rw [List.length_map]; exact hid.2
      have hcv := hcov h3 g1 rfl
      generalize sgdB l ((k : Int) + 1) l.length 0 = sg at *
      clear h1 h2
      repeat (first|(refine stp rfl ?_ ?_;·repeat' constructor)|(refine pw_cond rfl (fun hA => absurd hA (by intro hA; simp only [decide_eq_true_eq, decide_eq_false_iff_not, Bool.not_eq_true', Bool.not_eq_false'] at hA; omega)) (fun _ => ?_))|(refine pw_cond rfl (fun _ => ?_) (fun hA => absurd hA (by intro hA; simp only [decide_eq_true_eq, decide_eq_false_iff_not, Bool.not_eq_true', Bool.not_eq_false'] at hA; omega))))
      apply qst;exact rfl;exact rfl;exact q_lookG none rfl rfl rfl rfl rfl zone3 rfl rfl rfl rfl rfl rfl (keyedG_sv T)
      rw [mval_sv]
      apply qst;exact rfl;exact rfl;exact q_idxA rfl rfl rfl rfl rfl rfl rfl hid.1 hmb
      repeat (refine stp rfl ?_ ?_;·repeat' constructor)
      apply qst;exact rfl;exact rfl;exact q_ldp rfl rfl rfl hrow rfl
      repeat (refine stp rfl ?_ ?_;·repeat' constructor)
      rw [hwc]
      repeat (refine stp rfl ?_ ?_;·repeat' constructor)
      refine ps_run0 (o_storeM (enc := eAcct) { a with chg := a.chg + v } (kd' := 0) rfl rfl rfl hg0 rfl rfl ⟨trivial, trivial⟩ rfl rfl rfl rfl rfl ?_)
      have hrow1 : ∀ b : SAcct, ((A.set (0 + (sget T x.item).toNat) b).map eAcct)[0 + (sget T x.item).toNat]? = some (eAcct b) := fun b => by rw [List.getElem?_map, set_at hg0 b]; rfl
      have hbb := billF_lim hA (n := (k : Int) + 1) (by omega) (by omega)
      have hbl : billF l ((k : Int) + 1) = if 0 < invF l ((k : Int) + 1) l.length then valF l ((k : Int) + 1) (invF l ((k : Int) + 1) l.length - 1).toNat else 0 := rfl
      have hval2 : 0 < invF l ((k : Int) + 1) l.length → Ret Tryd.prog .shared 62 [.dref (eBook l) 0, I ((k : Int) + 1), I (invF l ((k : Int) + 1) l.length)] (I (valF l ((k : Int) + 1) (invF l ((k : Int) + 1) l.length - 1).toNat)) := fun hp => by
        have hb := inv_bounds hp
        have := value_ret l hO ((k : Int) + 1) (invF l ((k : Int) + 1) l.length - 1).toNat (by omega) (by omega) (by omega)
        rwa [show (((invF l ((k : Int) + 1) l.length - 1).toNat : Nat) : Int) + 1 = invF l ((k : Int) + 1) l.length by omega] at this
      generalize valF l ((k : Int) + 1) (invF l ((k : Int) + 1) l.length - 1).toNat = vb at *
      generalize invF l ((k : Int) + 1) l.length = iv at *
      have hwb : iv > 0 → IntKind.wrap .i64 (a.bil + vb) = a.bil + vb := fun hp => by rw [hbl, if_pos hp] at hbb; have := hbb.1; have := hbb.2; exact wrap_i64 (by omega) (by omega)
      repeat (refine stp rfl ?_ ?_;·repeat' constructor)
      apply qst;exact rfl;exact rfl;exact q_callP rfl (hs0) rfl (by repeat' constructor) rfl rfl
      cases sg with
      | false =>
        rw [show a.sig + (if false = true then v else 0) = a.sig from Int.add_zero _] at hst
        repeat (refine stp rfl ?_ ?_;·repeat' constructor)
        apply qst;exact rfl;exact rfl;exact q_lookV none (mval_kv ((k : Int) + 1) (covOut l o l.length)) (keyedG_kv _) zone3 rfl rfl rfl rfl rfl rfl rfl rfl rfl
        rw [hcv]
        repeat (refine stp rfl ?_ ?_;·repeat' constructor)
        refine pw_cond rfl (fun h => ?_) (fun h => ?_)
        · have hp := of_decide_eq_true h
          clear h
          have hval2 := hval2 hp
          rw [if_pos hp] at hbl
          rw [hbl] at hst
          repeat (refine stp rfl ?_ ?_;·repeat' constructor)
          refine pw_draw 11 [116, 117, 118, 119, 120, 121, 122, 123, 124, 125, 126] (by decide +kernel) ?_
          repeat (refine stp rfl ?_ ?_;·repeat' constructor)
          apply qst;exact rfl;exact rfl;exact q_ldp rfl rfl rfl (hrow1 { a with chg := a.chg + v }) rfl
          repeat (refine stp rfl ?_ ?_;·repeat' constructor)
          apply qst;exact rfl;exact rfl;exact q_callP rfl (hval2) rfl (by repeat' constructor) rfl rfl
          repeat (refine stp rfl ?_ ?_;·repeat' constructor)
          rw [hwb hp]
          repeat (refine stp rfl ?_ ?_;·repeat' constructor)
          refine ps_run0 (o_storeM (enc := eAcct) { { a with chg := a.chg + v } with bil := a.bil + vb } (kd' := 0) rfl rfl rfl (set_at hg0 { a with chg := a.chg + v }) rfl rfl ⟨trivial, trivial⟩ rfl rfl rfl rfl rfl ?_)
          rw [List.set_set]
          repeat (refine stp rfl ?_ ?_;·repeat' constructor)
          exact ⟨(k + 1, g), hlt, by show l.length - (k + 1) < l.length - k; omega, rfl, rfl, by rw [hst]; show PV.als 5 g 0 (A.map eAcct).length = PV.als 5 g 0 ((A.set _ _).map eAcct).length; rw [List.length_map, List.length_map, List.length_set], rfl, rfl, rfl, rfl, rfl, i64_next (by omega) (by omega), by rw [hst]; rfl, by rw [hst]; rfl, trivial⟩
        · have hp := of_decide_eq_false h
          clear h
          rw [if_neg hp] at hbl
          rw [hbl, Int.add_zero] at hst
          repeat (refine stp rfl ?_ ?_;·repeat' constructor)
          exact ⟨(k + 1, g), hlt, by show l.length - (k + 1) < l.length - k; omega, rfl, rfl, by rw [hst]; show PV.als 5 g 0 (A.map eAcct).length = PV.als 5 g 0 ((A.set _ _).map eAcct).length; rw [List.length_map, List.length_map, List.length_set], rfl, rfl, rfl, rfl, rfl, i64_next (by omega) (by omega), by rw [hst]; rfl, by rw [hst]; rfl, trivial⟩
      | true =>
        rw [show a.sig + (if true = true then v else 0) = a.sig + v from rfl] at hst
        repeat (refine stp rfl ?_ ?_;·repeat' constructor)
        apply qst;exact rfl;exact rfl;exact q_ldp rfl rfl rfl (hrow1 { a with chg := a.chg + v }) rfl
        repeat (refine stp rfl ?_ ?_;·repeat' constructor)
        rw [hws]
        repeat (refine stp rfl ?_ ?_;·repeat' constructor)
        refine ps_run0 (o_storeM (enc := eAcct) { a with chg := a.chg + v, sig := a.sig + v } (kd' := 0) rfl rfl rfl (set_at hg0 { a with chg := a.chg + v }) rfl rfl ⟨trivial, trivial⟩ rfl rfl rfl rfl rfl ?_)
        rw [List.set_set]
        repeat (refine stp rfl ?_ ?_;·repeat' constructor)
        apply qst;exact rfl;exact rfl;exact q_lookV none (mval_kv ((k : Int) + 1) (covOut l o l.length)) (keyedG_kv _) zone3 rfl rfl rfl rfl rfl rfl rfl rfl rfl
        rw [hcv]
        repeat (refine stp rfl ?_ ?_;·repeat' constructor)
        refine pw_cond rfl (fun h => ?_) (fun h => ?_)
        · have hp := of_decide_eq_true h
          clear h
          have hval2 := hval2 hp
          rw [if_pos hp] at hbl
          rw [hbl] at hst
          repeat (refine stp rfl ?_ ?_;·repeat' constructor)
          refine pw_draw 11 [116, 117, 118, 119, 120, 121, 122, 123, 124, 125, 126] (by decide +kernel) ?_
          repeat (refine stp rfl ?_ ?_;·repeat' constructor)
          apply qst;exact rfl;exact rfl;exact q_ldp rfl rfl rfl (hrow1 { a with chg := a.chg + v, sig := a.sig + v }) rfl
          repeat (refine stp rfl ?_ ?_;·repeat' constructor)
          apply qst;exact rfl;exact rfl;exact q_callP rfl (hval2) rfl (by repeat' constructor) rfl rfl
          repeat (refine stp rfl ?_ ?_;·repeat' constructor)
          rw [hwb hp]
          repeat (refine stp rfl ?_ ?_;·repeat' constructor)
          refine ps_run0 (o_storeM (enc := eAcct) { { a with chg := a.chg + v, sig := a.sig + v } with bil := a.bil + vb } (kd' := 0) rfl rfl rfl (set_at hg0 { a with chg := a.chg + v, sig := a.sig + v }) rfl rfl ⟨trivial, trivial⟩ rfl rfl rfl rfl rfl ?_)
          rw [List.set_set]
          repeat (refine stp rfl ?_ ?_;·repeat' constructor)
          exact ⟨(k + 1, g), hlt, by show l.length - (k + 1) < l.length - k; omega, rfl, rfl, by rw [hst]; show PV.als 5 g 0 (A.map eAcct).length = PV.als 5 g 0 ((A.set _ _).map eAcct).length; rw [List.length_map, List.length_map, List.length_set], rfl, rfl, rfl, rfl, rfl, i64_next (by omega) (by omega), by rw [hst]; rfl, by rw [hst]; rfl, trivial⟩
        · have hp := of_decide_eq_false h
          clear h
          rw [if_neg hp] at hbl
          rw [hbl, Int.add_zero] at hst
          repeat (refine stp rfl ?_ ?_;·repeat' constructor)
          exact ⟨(k + 1, g), hlt, by show l.length - (k + 1) < l.length - k; omega, rfl, rfl, by rw [hst]; show PV.als 5 g 0 (A.map eAcct).length = PV.als 5 g 0 ((A.set _ _).map eAcct).length; rw [List.length_map, List.length_map, List.length_set], rfl, rfl, rfl, rfl, rfl, i64_next (by omega) (by omega), by rw [hst]; rfl, by rw [hst]; rfl, trivial⟩
    rw [if_neg h3] at hst
    repeat (first|(refine stp rfl ?_ ?_;·repeat' constructor)|(refine pw_cond rfl (fun hA => absurd hA (by intro hA; simp only [decide_eq_true_eq, decide_eq_false_iff_not, Bool.not_eq_true', Bool.not_eq_false'] at hA; omega)) (fun _ => ?_))|(refine pw_cond rfl (fun _ => ?_) (fun hA => absurd hA (by intro hA; simp only [decide_eq_true_eq, decide_eq_false_iff_not, Bool.not_eq_true', Bool.not_eq_false'] at hA; omega))))
    exact ⟨(k + 1, g), hlt, by show l.length - (k + 1) < l.length - k; omega, rfl, rfl, by rw [hst]; rfl, rfl, rfl, rfl, rfl, rfl, i64_next (by omega) (by omega), by rw [hst]; rfl, by rw [hst]; rfl, trivial⟩
  · have hz : k = l.length := by have := of_decide_eq_false h; omega
    subst hz
    clear h
    have hinv := accK_inv hA o l.length (Nat.le_refl _)
    have hlim : ∀ a, a ∈ (accK l o l.length).1 → LimA 400000000000 a := fun a ha => (hinv.lim a ha).mono (by omega)
    have hAn : (accK l o l.length).1.length ≤ 400 := Nat.le_trans hinv.len hl
    clear hinv
    rw [accP]
    generalize (accK l o l.length).1 = A at *
    have hAl : ((A.map eAcct).length : Int) = A.length := by simp
    have hA0 : ovrK A 0 = A := by simp [ovrK]
    repeat (refine stp rfl ?_ ?_;·repeat' constructor)
    rw [hAl]
    refine pw_loop (fun j => j ≤ A.length) (fun j => [(5, .als 5 g 0 (A.map eAcct).length), (128, .als 5 g 0 (A.map eAcct).length), (129, I A.length), (130, I j)]) (fun j => [(5, g, ⟨59, 7, (ovrK A j).map eAcct, 0⟩)]) (fun j => A.length - j) 0 (Nat.zero_le _) ⟨rfl, rfl, rfl, rfl, by rw [hA0]; rfl, trivial⟩ ?_
    intro j s2 hj
    have hj : j ≤ A.length := hj
    repeat (refine stp rfl ?_ ?_;·repeat' constructor)
    refine pw_cond rfl (fun h => ?_) (fun h => ?_)
    · have hlt : j < A.length := by have := of_decide_eq_true h; omega
      clear h
      obtain ⟨a, ha⟩ := get_lt hlt
      obtain ⟨hk1, hk2⟩ := ovrK_at ha
      obtain ⟨e1, e2, e3, e4, e5, e6⟩ := hlim a (List.mem_of_getElem? ha)
      have hrow : ((ovrK A j).map eAcct)[0 + (j : Int).toNat]? = some (eAcct a) := by rw [List.getElem?_map, Int.toNat_natCast, Nat.zero_add, hk1]; rfl
      have hw1 : IntKind.wrap .i64 (a.chg - a.est) = a.chg - a.est := wrap_i64 (by omega) (by omega)
      have hw2 : IntKind.wrap .i64 (a.chg - a.est - a.gro) = a.chg - a.est - a.gro := wrap_i64 (by omega) (by omega)
      have hAj : j < (A.map eAcct).length := by simpa using hlt
      repeat (refine stp rfl ?_ ?_;·repeat' constructor)
      apply qst;exact rfl;exact rfl;exact q_idxA rfl rfl rfl rfl rfl rfl rfl (by omega) (by omega)
      apply qst;exact rfl;exact rfl;exact q_ldp rfl rfl rfl hrow rfl
      repeat (refine stp rfl ?_ ?_;·repeat' constructor)
      rw [hw1, hw2]
      have hm : (if 0 < a.chg - a.est - a.gro then a.chg - a.est - a.gro else 0) = max 0 (a.chg - a.est - a.gro) := by split <;> omega
      have hg1 : (ovrK A j)[0 + (j : Int).toNat]? = some a := by rw [Int.toNat_natCast, Nat.zero_add]; exact hk1
      have hset : (ovrK A j).set (0 + (j : Int).toNat) (ovrA a) = ovrK A (j + 1) := by rw [Int.toNat_natCast, Nat.zero_add]; exact hk2
      repeat (refine stp rfl ?_ ?_;·repeat' constructor)
      rw [hm]
      apply qst;exact rfl;exact rfl;exact q_idxA rfl rfl rfl rfl rfl rfl rfl (by omega) (by omega)
      repeat (refine stp rfl ?_ ?_;·repeat' constructor)
      refine ps_run0 (o_storeM (enc := eAcct) (ovrA a) (kd' := 0) rfl rfl rfl hg1 rfl rfl ⟨trivial, trivial⟩ rfl rfl rfl rfl rfl ?_)
      rw [hset]
      repeat (refine stp rfl ?_ ?_;·repeat' constructor)
      exact ⟨j + 1, hlt, by omega, rfl, rfl, rfl, i64_next (by omega) (by omega), rfl, trivial⟩
    · have hz : j = A.length := by have := of_decide_eq_false h; omega
      subst hz
      have hfull : ovrK A A.length = A.map ovrA := by simp [ovrK]
      rw [hfull]
      repeat (refine stp rfl ?_ ?_;·repeat' constructor)
      exact end1f rfl rfl rfl ⟨rfl, rfl, by simp⟩ rfl
end Go.Pv

/- Accounts and balances: the program. -/
set_option maxHeartbeats 2000000
namespace Go.Pv
attribute [local irreducible] PWP POps PQuiet PSem XThen XBlock RetPost InlPost
open Go.Proofs

theorem ordered_ret (l : List SPost) (hO : Ok l) (o : Str) : Ret Tryd.prog .shared 44 [.dref (eBook l) 0, .str o] (I (standE l (ordNo l o))) := by
  have ho := (ordR_at l o).1
  have hs := standing_ret l hO.wf (ordNo l o) (ordNo_le l o).2
  refine Ret.of_pwp layOk mixed Go.Proofs.Tryd.func44 rfl (by decide) rfl rfl ?_
  repeat (refine stp rfl ?_ ?_;·repeat' constructor)
  apply qst;exact rfl;exact rfl;exact q_lookV none ho (ordR_keyed l) zone3 rfl rfl rfl rfl rfl rfl rfl rfl rfl
  repeat (refine stp rfl ?_ ?_;·repeat' constructor)
  apply qst;exact rfl;exact rfl;exact q_callP rfl (hs) rfl (by repeat' constructor) rfl rfl
  repeat (refine stp rfl ?_ ?_;·repeat' constructor)
  exact end1i rfl rfl rfl
def sumI (A : List SAcct) (f : SAcct → Int) (j : Nat) : Int := ((A.take j).map f).sum
theorem sumI_succ {A : List SAcct} {f : SAcct → Int} {j : Nat} {a : SAcct} (h : A[j]? = some a) : sumI A f (j + 1) = sumI A f j + f a := by
  rw [sumI, take_snoc h, List.map_append, List.sum_append]; simp [sumI]
theorem sumI_lim {A : List SAcct} {f : SAcct → Int} {B : Int} (hB : ∀ a, a ∈ A → -B ≤ f a ∧ f a ≤ B) : ∀ j : Nat, j ≤ A.length → -(B * j) ≤ sumI A f j ∧ sumI A f j ≤ B * j
  | 0, _ => by simp [sumI]
  | j + 1, h => by
    obtain ⟨a, ha⟩ := get_lt (show j < A.length by omega)
    have ih := sumI_lim hB j (by omega)
    have hb := hB a (List.mem_of_getElem? ha)
    have hm : B * ((j + 1 : Nat) : Int) = B * j + B := by rw [Int.natCast_add, Int.mul_add]; simp
    rw [sumI_succ ha, hm]
    omega
def payB (l : List SPost) (o : Str) (k : Nat) : Bool := decide ((entL l ((k : Int) + 1)).op = 7) && decide ((entL l ((k : Int) + 1)).order = o) && liveB l ((k : Int) + 1)
def payK (l : List SPost) (o : Str) : Nat → Int
  | 0 => 0
  | k + 1 => if payB l o k = true then payK l o k + (entL l ((k : Int) + 1)).amount else payK l o k
theorem payK_lim {l : List SPost} (h : Acc l) (o : Str) : ∀ k : Nat, k ≤ l.length → -(1000000000 * (k : Int)) ≤ payK l o k ∧ payK l o k ≤ 1000000000 * (k : Int)
  | 0, _ => by simp [payK]
  | k + 1, hk => by
    have ih := payK_lim h o k (by omega)
    have := h.amt _ _ (entL_at (l := l) (n := (k : Int) + 1) (by omega) (by omega))
    have h1 := this.1
    have h2 := this.2
    rw [payK]
    split <;> omega
def balV (l : List SPost) (o : Str) : List PV :=
  let A := accP l o
  let n := A.length
  [I (sumI A (·.est) n), I (sumI A (·.gro) n), I (sumI A (·.chg) n), I (sumI A (·.bil) n), I (payK l o l.length), I (sumI A (·.bil) n - payK l o l.length)]
end Go.Pv

/- The balance: the program. -/
set_option maxHeartbeats 2000000
namespace Go.Pv
attribute [local irreducible] PWP POps PQuiet PSem XThen XBlock RetPost InlPost
open Go.Proofs

theorem accP_lim {l : List SPost} (h : Acc l) (o : Str) : (accP l o).length ≤ 400 ∧ ∀ a, a ∈ accP l o → (-400000000000 ≤ a.est ∧ a.est ≤ 400000000000) ∧ (-400000000000 ≤ a.gro ∧ a.gro ≤ 400000000000) ∧ (-400000000000 ≤ a.chg ∧ a.chg ≤ 400000000000) ∧ (-400000000000 ≤ a.bil ∧ a.bil ≤ 400000000000) := by
  have hinv := accK_inv h o l.length (Nat.le_refl _)
  have hl := h.ok.wf.len
  refine ⟨by rw [accP, List.length_map]; exact Nat.le_trans hinv.len hl, fun a ha => ?_⟩
  rw [accP, List.mem_map] at ha
  obtain ⟨b, hb, rfl⟩ := ha
  obtain ⟨e1, e2, e3, e4, e5, e6⟩ := hinv.lim b hb
  simp only [ovrA]
  omega
set_option maxRecDepth 20000 in
theorem balance_ret (l : List SPost) (hA : Acc l) (o : Str) : Ret Tryd.prog .fresh 20 [.dref (eBook l) 0, .str o] (if standE l (ordNo l o) = 0 then .tup [.agg (balV l o), I 0] else .tup [.agg [I 0, I 0, I 0, I 0, I 0, I 0], I (standE l (ordNo l o))]) := by
  have hO := hA.ok
  have hl := hO.wf.len
  have hll : ((l.map ePost).length : Int) = l.length := by simp
  have h44 := ordered_ret l hO o
  have h45 := accounts_ret l hA o
  obtain ⟨hAn, hlim⟩ := accP_lim hA o
  by_cases hz : standE l (ordNo l o) = 0
  case neg =>
    rw [if_neg hz]
    refine Ret.of_pwp layOk mixed Go.Proofs.Tryd.func20 rfl (by decide) rfl rfl ?_
    repeat (refine stp rfl ?_ ?_;·repeat' constructor)
    apply qst;exact rfl;exact rfl;exact q_callP rfl (h44) rfl (by repeat' constructor) rfl rfl
    repeat (refine stp rfl ?_ ?_;·repeat' constructor)
    refine pw_cond rfl (fun h => ?_) (fun h => ?_)
    · repeat (refine stp rfl ?_ ?_;·repeat' constructor)
      exact endc2f rfl rfl rfl rfl rfl (by repeat' constructor) rfl
    · exact absurd (of_decide_eq_true (by simpa only [Bool.not_eq_false'] using h)) hz
  rw [if_pos hz, balV]
  rw [hz] at h44
  generalize accP l o = A at *
  have hAl : ((A.map eAcct).length : Int) = A.length := by simp
  have b1 := fun j hj => sumI_lim (A := A) (f := (·.est)) (B := 400000000000) (fun a ha => (hlim a ha).1) j hj
  have b2 := fun j hj => sumI_lim (A := A) (f := (·.gro)) (B := 400000000000) (fun a ha => (hlim a ha).2.1) j hj
  have b3 := fun j hj => sumI_lim (A := A) (f := (·.chg)) (B := 400000000000) (fun a ha => (hlim a ha).2.2.1) j hj
  have b4 := fun j hj => sumI_lim (A := A) (f := (·.bil)) (B := 400000000000) (fun a ha => (hlim a ha).2.2.2) j hj
  refine Ret.of_pwp layOk mixed Go.Proofs.Tryd.func20 rfl (by decide) rfl rfl ?_
  repeat (refine stp rfl ?_ ?_;·repeat' constructor)
  apply qst;exact rfl;exact rfl;exact q_callP rfl (h44) rfl (by repeat' constructor) rfl rfl
  repeat (refine stp rfl ?_ ?_;·repeat' constructor)
  apply qst;exact rfl;exact rfl;exact q_callF rfl (h45) rfl (by repeat' constructor) rfl
  repeat (refine stp rfl ?_ ?_;·repeat' constructor)
  rw [hAl]
  refine pw_loop (fun j => j ≤ A.length) (fun j => [(0, .dref (eBook l) 0), (1, .str o), (4, .ptr 4 1 0 0), (7, .ptr 7 1 0 0), (21, .fsl (A.map eAcct)), (22, I A.length), (23, I j)])
    (fun j => [(4, 1, ⟨54, 6, [[I 0, I 0, I 0, I 0, I 0, I 0]], 2⟩), (7, 1, ⟨54, 6, [[I (sumI A (·.est) j), I (sumI A (·.gro) j), I (sumI A (·.chg) j), I (sumI A (·.bil) j), I 0, I 0]], 2⟩)]) (fun j => A.length - j) 0 (Nat.zero_le _) ⟨rfl, rfl, rfl, rfl, rfl, rfl, rfl, rfl, rfl, trivial⟩ ?_
  intro j s hj
  have hj : j ≤ A.length := hj
  repeat (refine stp rfl ?_ ?_;·repeat' constructor)
  refine pw_cond rfl (fun h => ?_) (fun h => ?_)
  · have hlt : j < A.length := by have := of_decide_eq_true h; omega
    clear h
    obtain ⟨a, ha⟩ := get_lt hlt
    have w : ∀ (f : SAcct → Int), (∀ j, j ≤ A.length → -(400000000000 * (j : Int)) ≤ sumI A f j ∧ sumI A f j ≤ 400000000000 * (j : Int)) → IntKind.wrap .i64 (sumI A f j + f a) = sumI A f (j + 1) := fun f hb => by
      have := hb (j + 1) hlt
      rw [← sumI_succ ha, wrap_i64 (by omega) (by omega)]
    have w1 := w _ b1
    have w2 := w _ b2
    have w3 := w _ b3
    have w4 := w _ b4
    repeat (refine stp rfl ?_ ?_;·repeat' constructor)
    apply qst;exact rfl;exact rfl;exact q_idxmF rfl rfl rfl rfl rfl (by omega) ha rfl
    repeat (refine stp rfl ?_ ?_;·repeat' constructor)
    exact ⟨j + 1, hlt, by omega, rfl, rfl, rfl, rfl, rfl, rfl, i64_next (by omega) (by omega), rfl, by rw [← w1, ← w2, ← w3, ← w4]; rfl, trivial⟩
  · have hz : j = A.length := by have := of_decide_eq_false h; omega
    subst hz
    clear h
    have b4 := b4 A.length (Nat.le_refl _)
    generalize sumI A (·.est) A.length = s1 at *
    generalize sumI A (·.gro) A.length = s2 at *
    generalize sumI A (·.chg) A.length = s3 at *
    generalize sumI A (·.bil) A.length = s4 at *
    repeat (refine stp rfl ?_ ?_;·repeat' constructor)
    rw [hll]
    refine pw_loop (fun k => k ≤ l.length) (fun k => [(0, .dref (eBook l) 0), (1, .str o), (4, .ptr 4 1 0 0), (7, .ptr 7 1 0 0), (55, .sl (l.map ePost)), (56, I l.length), (57, I k)])
      (fun k => [(4, 1, ⟨54, 6, [[I 0, I 0, I 0, I 0, I 0, I 0]], 2⟩), (7, 1, ⟨54, 6, [[I s1, I s2, I s3, I s4, I (payK l o k), I 0]], 2⟩)]) (fun k => l.length - k) 0 (Nat.zero_le _) ⟨rfl, rfl, rfl, rfl, rfl, rfl, rfl, rfl, rfl, trivial⟩ ?_
    intro k s5 hk
    have hk : k ≤ l.length := hk
    have hpl := payK_lim hA o k hk
    repeat (refine stp rfl ?_ ?_;·repeat' constructor)
    refine pw_cond rfl (fun h => ?_) (fun h => ?_)
    · have hlt : k < l.length := by have := of_decide_eq_true h; omega
      clear h
      have hx : l[k]? = some (entL l ((k : Int) + 1)) := by
        have := entL_at (l := l) (n := (k : Int) + 1) (by omega) (by omega)
        rwa [show ((k : Int) + 1 - 1).toNat = k by omega] at this
      have hv := live_ret l hO.wf ((k : Int) + 1) (by omega)
      have hst : payK l o (k + 1) = if payB l o k = true then payK l o k + (entL l ((k : Int) + 1)).amount else payK l o k := rfl
      have hw : IntKind.wrap .i64 ((k : Int) + 1) = (k : Int) + 1 := wrap_i64 (by omega) (by omega)
      have hpl2 := payK_lim hA o (k + 1) hlt
      rw [payB] at hst
      generalize entL l ((k : Int) + 1) = x at *
      repeat (refine stp rfl ?_ ?_;·repeat' constructor)
      apply qst;exact rfl;exact rfl;exact q_idxm rfl rfl rfl rfl rfl (by omega) hx rfl
      repeat (refine stp rfl ?_ ?_;·repeat' constructor)
      (first | refine ps_split rfl rfl (fun h => ?_) (fun h => ?_) | refine pq_split rfl rfl (fun h => ?_) (fun h => ?_) | refine p3_split rfl rfl (fun h => ?_) (fun h => ?_))
      rotate_left
      · have g1 := of_decide_eq_false h
        rw [decide_eq_false g1, Bool.false_and, Bool.false_and, if_neg (by simp)] at hst
        repeat (refine stp rfl ?_ ?_;·repeat' constructor)
        exact ⟨k + 1, hlt, by omega, rfl, rfl, rfl, rfl, rfl, rfl, i64_next (by omega) (by omega), rfl, by rw [hst]; rfl, trivial⟩
      have g1 := of_decide_eq_true h
      clear h
      rw [decide_eq_true g1, Bool.true_and] at hst
      repeat (refine stp rfl ?_ ?_;·repeat' constructor)
      (first | refine ps_split rfl rfl (fun h => ?_) (fun h => ?_) | refine pq_split rfl rfl (fun h => ?_) (fun h => ?_) | refine p3_split rfl rfl (fun h => ?_) (fun h => ?_))
      rotate_left
      · have g2 := of_decide_eq_false h
        rw [decide_eq_false g2, Bool.false_and, if_neg (by simp)] at hst
        repeat (refine stp rfl ?_ ?_;·repeat' constructor)
        exact ⟨k + 1, hlt, by omega, rfl, rfl, rfl, rfl, rfl, rfl, i64_next (by omega) (by omega), rfl, by rw [hst]; rfl, trivial⟩
      have g2 := of_decide_eq_true h
      clear h
      rw [decide_eq_true g2, Bool.true_and] at hst
      generalize liveB l ((k : Int) + 1) = lv at *
      repeat (refine stp rfl ?_ ?_;·repeat' constructor)
      rw [hw]
      apply qst;exact rfl;exact rfl;exact q_callP rfl (hv) rfl (by repeat' constructor) rfl rfl
      cases lv with
      | false =>
        rw [if_neg (by simp)] at hst
        repeat (refine stp rfl ?_ ?_;·repeat' constructor)
        exact ⟨k + 1, hlt, by omega, rfl, rfl, rfl, rfl, rfl, rfl, i64_next (by omega) (by omega), rfl, by rw [hst]; rfl, trivial⟩
      | true =>
        rw [if_pos rfl] at hst
        have hwp : IntKind.wrap .i64 (payK l o k + x.amount) = payK l o (k + 1) := by rw [← hst, wrap_i64 (by omega) (by omega)]
        repeat (refine stp rfl ?_ ?_;·repeat' constructor)
        exact ⟨k + 1, hlt, by omega, rfl, rfl, rfl, rfl, rfl, rfl, i64_next (by omega) (by omega), rfl, by rw [← hwp]; rfl, trivial⟩
    · have hz : k = l.length := by have := of_decide_eq_false h; omega
      subst hz
      have hwd : IntKind.wrap .i64 (s4 - payK l o l.length) = s4 - payK l o l.length := wrap_i64 (by omega) (by omega)
      repeat (refine stp rfl ?_ ?_;·repeat' constructor)
      rw [hwd]
      repeat (refine stp rfl ?_ ?_;·repeat' constructor)
      exact endc2f rfl rfl rfl rfl rfl (by repeat' constructor) rfl
end Go.Pv

/- Lists out of which some entries are left, with new numbers: they are accepted, too. -/
set_option maxHeartbeats 2000000
namespace Go.Pv
attribute [local irreducible] PWP POps PQuiet PSem XThen XBlock RetPost InlPost
open Go.Proofs

/-- How many of the first entries are kept. -/
def kap (K : Nat → Bool) : Nat → Nat
  | 0 => 0
  | k + 1 => if K k = true then kap K k + 1 else kap K k
def renum (K : Nat → Bool) (p : SPost) : SPost := if 0 < p.ref then { p with ref := (kap K p.ref.toNat : Int) } else p
def sub (K : Nat → Bool) (l : List SPost) : Nat → List SPost
  | 0 => []
  | k + 1 => if K k = true then sub K l k ++ [renum K (entL l ((k : Int) + 1))] else sub K l k
theorem kap_yes {K : Nat → Bool} {k : Nat} (h : K k = true) : kap K (k + 1) = kap K k + 1 := by rw [kap, if_pos h]
theorem kap_no {K : Nat → Bool} {k : Nat} (h : ¬ K k = true) : kap K (k + 1) = kap K k := by rw [kap, if_neg h]
theorem kap_le (K : Nat → Bool) : ∀ k, kap K k ≤ k
  | 0 => Nat.le_refl _
  | k + 1 => by
    have := kap_le K k
    rw [kap]; split <;> omega
theorem kap_mono (K : Nat → Bool) {i : Nat} : ∀ {j : Nat}, i ≤ j → kap K i ≤ kap K j
  | 0, h => by rw [show i = 0 by omega]; exact Nat.le_refl _
  | j + 1, h => by
    by_cases hj : i = j + 1
    · rw [hj]; exact Nat.le_refl _
    · have := kap_mono K (i := i) (j := j) (by omega)
      have h2 : kap K j ≤ kap K (j + 1) := by rw [kap]; split <;> omega
      omega
theorem kap_lt {K : Nat → Bool} {i j : Nat} (h : i < j) (hk : K i = true) : kap K i < kap K j := by
  have := kap_mono K (i := i + 1) (j := j) (by omega)
  rw [kap_yes hk] at this
  omega
theorem kap_inj {K : Nat → Bool} {i j : Nat} (hi : K i = true) (hj : K j = true) (h : kap K (i + 1) = kap K (j + 1)) : i = j := by
  rw [kap_yes hi, kap_yes hj] at h
  rcases Nat.lt_trichotomy i j with g | g | g
  · have := kap_lt g hi; omega
  · exact g
  · have := kap_lt g hj; omega
theorem sub_len (K : Nat → Bool) (l : List SPost) : ∀ k, (sub K l k).length = kap K k
  | 0 => rfl
  | k + 1 => by
    have := sub_len K l k
    rw [sub, kap]
    split
    · simp [this]
    · exact this
theorem entL_app {l : List SPost} {n : Int} (q : SPost) (h1 : 1 ≤ n) (h2 : n ≤ l.length) : entL (l ++ [q]) n = entL l n := by
  have e1 := entL_at h1 h2
  have e2 := entL_at (l := l ++ [q]) (n := n) h1 (by simp; omega)
  rw [List.getElem?_append_left (by omega), e1] at e2
  exact (Option.some.inj e2).symm
theorem entL_new (l : List SPost) (q : SPost) : entL (l ++ [q]) ((l.length : Int) + 1) = q := by
  have e2 := entL_at (l := l ++ [q]) (n := (l.length : Int) + 1) (by omega) (by simp)
  rw [show ((l.length : Int) + 1 - 1).toNat = l.length by omega] at e2
  simp at e2
  exact e2.symm
theorem sub_app (K : Nat → Bool) (l : List SPost) (q : SPost) : ∀ k, k ≤ l.length → sub K (l ++ [q]) k = sub K l k
  | 0, _ => rfl
  | k + 1, h => by
    rw [sub, sub, sub_app K l q k (by omega), entL_app q (by omega) (by omega)]
theorem sub_at (K : Nat → Bool) (l : List SPost) {k : Nat} (hk : K k = true) : ∀ {n : Nat}, k < n → (sub K l n)[kap K k]? = some (renum K (entL l ((k : Int) + 1)))
  | 0, h => by omega
  | n + 1, h => by
    by_cases hn : k = n
    · subst hn
      rw [sub, if_pos hk, ← sub_len K l k]
      simp
    · have ih := sub_at K l hk (n := n) (by omega)
      rw [sub]
      split
      · rw [List.getElem?_append_left (by rw [sub_len]; exact kap_lt (by omega) hk)]
        exact ih
      · exact ih
theorem sub_from (K : Nat → Bool) (l : List SPost) : ∀ {n j : Nat} {p : SPost}, (sub K l n)[j]? = some p → ∃ k, k < n ∧ K k = true ∧ kap K k = j ∧ p = renum K (entL l ((k : Int) + 1))
  | 0, j, p, h => by simp [sub] at h
  | n + 1, j, p, h => by
    rw [sub] at h
    split at h
    · rename_i hk
      rcases snoc_get h with ⟨_, h⟩ | ⟨rfl, rfl⟩
      · obtain ⟨k, h1, h2⟩ := sub_from K l h
        exact ⟨k, by omega, h2⟩
      · exact ⟨n, by omega, hk, (sub_len K l n).symm, rfl⟩
    · obtain ⟨k, h1, h2⟩ := sub_from K l h
      exact ⟨k, by omega, h2⟩
/-- The entry with a new number. -/
theorem sub_ent (K : Nat → Bool) (l : List SPost) {n k : Nat} (h : k < n) (hk : K k = true) : entL (sub K l n) ((kap K (k + 1) : Nat) : Int) = renum K (entL l ((k : Int) + 1)) := by
  have e1 := sub_at K l hk h
  have hlt := kap_lt h hk
  have e2 := entL_at (l := sub K l n) (n := ((kap K (k + 1) : Nat) : Int)) (by rw [kap_yes hk]; omega) (by rw [kap_yes hk, sub_len]; omega)
  rw [show (((kap K (k + 1) : Nat) : Int) - 1).toNat = kap K k by rw [kap_yes hk]; omega, e1] at e2
  exact (Option.some.inj e2).symm
theorem renum_same (K : Nat → Bool) (p : SPost) : (renum K p).op = p.op ∧ (renum K p).day = p.day ∧ (renum K p).order = p.order ∧ (renum K p).item = p.item ∧ (renum K p).ship = p.ship ∧ (renum K p).who = p.who ∧ (renum K p).amount = p.amount ∧ (renum K p).role = p.role := by
  rw [renum]
  split <;> exact ⟨rfl, rfl, rfl, rfl, rfl, rfl, rfl, rfl⟩
theorem renum_ref (K : Nat → Bool) {p : SPost} (h : 1 ≤ p.ref) : (renum K p).ref = (kap K p.ref.toNat : Int) := by rw [renum, if_pos (by omega)]
theorem renum_zero (K : Nat → Bool) {p : SPost} (h : p.ref = 0) : renum K p = p := by rw [renum, if_neg (by omega)]
/-- The new number of an entry, or 0. -/
def kO (K : Nat → Bool) (n : Int) : Int := if 1 ≤ n ∧ K (n - 1).toNat = true then (kap K n.toNat : Int) else 0
theorem kO_yes {K : Nat → Bool} {k : Nat} (h : K k = true) : kO K ((k : Int) + 1) = (kap K (k + 1) : Nat) := by
  rw [kO, if_pos ⟨by omega, by rw [show ((k : Int) + 1 - 1).toNat = k by omega]; exact h⟩, show ((k : Int) + 1).toNat = k + 1 by omega]
theorem kO_no {K : Nat → Bool} {k : Nat} (h : ¬ K k = true) : kO K ((k : Int) + 1) = 0 := by
  rw [kO, if_neg]
  rintro ⟨_, h2⟩
  rw [show ((k : Int) + 1 - 1).toNat = k by omega] at h2
  exact h h2
theorem kO_zero {K : Nat → Bool} {n : Int} (h : n ≤ 0) : kO K n = 0 := by rw [kO, if_neg (by omega)]
theorem pred_nat {n : Int} (h : 1 ≤ n) : ∃ k : Nat, n = (k : Int) + 1 ∧ (n - 1).toNat = k := ⟨(n - 1).toNat, by omega, rfl⟩
theorem kO_nonneg (K : Nat → Bool) (n : Int) : 0 ≤ kO K n := by rw [kO]; split <;> omega
theorem kO_snoc {K : Nat → Bool} {n : Nat} {a s : Int} {b : Bool} (ha : 0 ≤ a) (hb : b = true → a = 0) (hs : s = kO K a) : (if K n = true then (if 1 ≤ s then s else if b = true then (kap K n : Int) + 1 else 0) else s) = kO K (if 1 ≤ a then a else if b = true then (n : Int) + 1 else 0) := by
  by_cases h1 : 1 ≤ a
  · have hbf : ¬ b = true := fun h => by have := hb h; omega
    rw [if_pos h1, if_neg hbf]
    have := kO_nonneg K a
    split
    · split <;> omega
    · exact hs
  · have h0 : s = 0 := by rw [hs, kO_zero (by omega)]
    rw [if_neg h1]
    by_cases hbt : b = true
    · rw [if_pos hbt, if_pos hbt]
      by_cases hk : K n = true
      · rw [if_pos hk, if_neg (by omega), kO_yes hk, kap_yes hk]; omega
      · rw [if_neg hk, kO_no hk, h0]
    · rw [if_neg hbt, if_neg hbt, kO_zero (by omega)]
      split
      · split <;> omega
      · exact h0
/-- What is kept: with an entry what it depends on and refers to; withdrawals with what they withdraw. -/
structure SubOk (l : List SPost) (K : Nat → Bool) : Prop where
  sup : ∀ k : Nat, k < l.length → K k = true → 1 ≤ supNo l (entL l ((k : Int) + 1)) → K (supNo l (entL l ((k : Int) + 1)) - 1).toNat = true
  wdr : ∀ k : Nat, k < l.length → K k = true → (entL l ((k : Int) + 1)).op = 8 → K ((entL l ((k : Int) + 1)).ref - 1).toNat = true
  wds : ∀ k : Nat, k < l.length → (entL l ((k : Int) + 1)).op = 8 → K ((entL l ((k : Int) + 1)).ref - 1).toNat = true → K k = true
theorem ent_get {l : List SPost} {k : Nat} (h : k < l.length) : l[k]? = some (entL l ((k : Int) + 1)) := by
  have := entL_at (l := l) (n := (k : Int) + 1) (by omega) (by omega)
  rwa [show ((k : Int) + 1 - 1).toNat = k by omega] at this
theorem SubOk.pre {l : List SPost} {q : SPost} {K : Nat → Bool} (h : SubOk (l ++ [q]) K) (hO : Ok l) : SubOk l K := by
  have e : ∀ k : Nat, k < l.length → entL (l ++ [q]) ((k : Int) + 1) = entL l ((k : Int) + 1) := fun k hk => entL_app q (by omega) (by omega)
  refine ⟨fun k hk h1 h2 => ?_, fun k hk h1 h2 => ?_, fun k hk h1 h2 => ?_⟩
  · have := h.sup k (by simp; omega) h1
    rw [e k hk, hO.sup_snoc q (ent_get hk)] at this
    exact this h2
  · have := h.wdr k (by simp; omega) h1
    rw [e k hk] at this
    exact this h2
  · have := h.wds k (by simp; omega)
    rw [e k hk] at this
    exact this h1 h2
structure SubAt (l : List SPost) (K : Nat → Bool) : Prop where
  acc : Acc (sub K l l.length)
  ord : ∀ nm, ordNo (sub K l l.length) nm = kO K (ordNo l nm)
  itm : ∀ o nm, itmNo (sub K l l.length) o nm = kO K (itmNo l o nm)
theorem kO_ref {K : Nat → Bool} {n : Int} (h : 1 ≤ n) (hk : K (n - 1).toNat = true) : kO K n = (kap K n.toNat : Int) := by rw [kO, if_pos ⟨h, hk⟩]
theorem SubAt.sup {l : List SPost} {K : Nat → Bool} (h : SubAt l K) {p : SPost} (hr : p.op = 4 ∨ p.op = 5 → 1 ≤ p.ref ∧ K (p.ref - 1).toNat = true) : supNo (sub K l l.length) (renum K p) = kO K (supNo l p) := by
  obtain ⟨e1, _, e3, e4, _⟩ := renum_same K p
  simp only [supNo]
  rw [e1, e3, e4, h.ord, h.itm]
  split
  · rfl
  · split
    · rfl
    · split
      · rename_i h4
        obtain ⟨r1, r2⟩ := hr h4
        rw [renum_ref K r1, kO_ref r1 r2]
      · rw [kO_zero (by omega)]
theorem sub_gone {l : List SPost} {K : Nat → Bool} (hO : Ok l) (hK : SubOk l K) {j : Nat} (hk : K j = true) : goneB (sub K l l.length) ((kap K (j + 1) : Nat) : Int) = goneB l ((j : Int) + 1) := by
  rw [Bool.eq_iff_iff]
  simp only [goneB, List.any_eq_true, Bool.and_eq_true, decide_eq_true_eq]
  constructor
  · rintro ⟨p, hp, ho, hr⟩
    obtain ⟨i, hi, rfl⟩ := List.getElem_of_mem hp
    obtain ⟨k, k1, k2, k3, k4⟩ := sub_from K l (List.getElem?_eq_getElem hi)
    have hget := ent_get k1
    generalize (sub K l l.length)[i] = p at *
    subst k4
    rw [(renum_same K _).1] at ho
    have hpos := (hO.pos _ _ hget).2.2.1 (by omega)
    rw [renum_ref K hpos.1] at hr
    have hw := hK.wdr k k1 k2 ho
    obtain ⟨m, e1, e2⟩ := pred_nat hpos.1
    rw [e2] at hw
    rw [show (entL l ((k : Int) + 1)).ref.toNat = m + 1 by omega] at hr
    have := kap_inj hw hk (by omega)
    exact ⟨_, List.mem_of_getElem? hget, ho, by omega⟩
  · rintro ⟨p, hp, ho, hr⟩
    obtain ⟨k, hk1, rfl⟩ := List.getElem_of_mem hp
    have he : l[k] = entL l ((k : Int) + 1) := by have := ent_get hk1; rw [List.getElem?_eq_getElem hk1] at this; exact Option.some.inj this
    rw [he] at ho hr
    have hkk := hK.wds k hk1 ho (by rw [hr, show ((j : Int) + 1 - 1).toNat = j by omega]; exact hk)
    refine ⟨_, List.mem_of_getElem? (sub_at K l hkk hk1), ?_, ?_⟩
    · rw [(renum_same K _).1]; exact ho
    · rw [renum_ref K (by omega), hr, show ((j : Int) + 1).toNat = j + 1 by omega]
theorem SubOk.ref {l : List SPost} {K : Nat → Bool} (hO : Ok l) (hK : SubOk l K) {k : Nat} (hk : k < l.length) (hkk : K k = true) : (entL l ((k : Int) + 1)).op = 4 ∨ (entL l ((k : Int) + 1)).op = 5 ∨ (entL l ((k : Int) + 1)).op = 8 → 1 ≤ (entL l ((k : Int) + 1)).ref ∧ (entL l ((k : Int) + 1)).ref ≤ k ∧ K ((entL l ((k : Int) + 1)).ref - 1).toNat = true := fun ho => by
  have hpos := (hO.pos _ _ (ent_get hk)).2.2.1 ho
  refine ⟨hpos.1, hpos.2, ?_⟩
  by_cases h8 : (entL l ((k : Int) + 1)).op = 8
  · exact hK.wdr k hk hkk h8
  · have hs : supNo l (entL l ((k : Int) + 1)) = (entL l ((k : Int) + 1)).ref := by rw [supNo, if_neg (by omega), if_neg (by omega), if_pos (by omega)]
    have := hK.sup k hk hkk (by rw [hs]; exact hpos.1)
    rwa [hs] at this
theorem SubAt.live {l : List SPost} {K : Nat → Bool} (hO : Ok l) (hK : SubOk l K) (h : SubAt l K) : ∀ (b : Nat) {j : Nat}, j < b → j < l.length → K j = true → liveB (sub K l l.length) ((kap K (j + 1) : Nat) : Int) = liveB l ((j : Int) + 1)
  | 0, j, hb, _, _ => by omega
  | b + 1, j, hb, hj, hk => by
    have hW := h.acc.ok.wf
    rw [liveB_pos hW (by rw [kap_yes hk]; omega), liveB_pos hO.wf (by omega), sub_gone hO hK hk, sub_ent K l hj hk, h.sup fun ho => by have := hK.ref hO hj hk (by omega); exact ⟨this.1, this.2.2⟩]
    congr 1
    have hlt := hO.wf.lt (n := (j : Int) + 1) (by omega)
    by_cases hs : 1 ≤ supNo l (entL l ((j : Int) + 1))
    · have hks := hK.sup j hj hk hs
      obtain ⟨m, e1, e2⟩ := pred_nat hs
      rw [e2] at hks
      rw [e1, kO_yes hks]
      exact SubAt.live hO hK h b (by omega) (by omega) hks
    · rw [kO_zero (by omega), liveB_zero (by omega), liveB_zero (by omega)]
end Go.Pv

/- What is left of an accepted list is accepted. -/
set_option maxHeartbeats 2000000
namespace Go.Pv
attribute [local irreducible] PWP POps PQuiet PSem XThen XBlock RetPost InlPost
open Go.Proofs

theorem check_ref {q : SPost} {r : Int} (hc : checkE q = 0) (h1 : 1 ≤ r) (h2 : r ≤ 400) : checkE { q with ref := r } = 0 := by
  have h := checkE_op hc
  have key : fstE (fdsOf q.op) (fun _ f => f.err { q with ref := r }) = 0 := by
    refine fstE_none fun j f hf => ?_
    have he := fstE_zero h.2.2 j f hf
    cases f with
    | r lo hi =>
      have hm := List.mem_of_getElem? hf
      have hlh : lo = 1 ∧ hi = 400 := by
        rcases op_cases h.1 with e | e | e | e | e | e | e | e | e <;> rw [e] at hm <;> simp [fdsOf] at hm <;> exact hm
      obtain ⟨rfl, rfl⟩ := hlh
      show (if inside r 1 400 = true then (0 : Int) else 2) = 0
      rw [if_pos (by simp [inside]; omega)]
    | _ => exact he
  rw [checkE]
  exact (if_pos (show inside q.op 0 8 = true ∧ inside q.day 0 10000 = true from ⟨h.1, h.2.1⟩)).trans key
theorem clean_renum {q : SPost} {r : Int} (ho : q.op = 4 ∨ q.op = 5 ∨ q.op = 8) (h : cleanP q = q) : cleanP { q with ref := r } = { q with ref := r } := by
  obtain ⟨op, day, o, i, s, w, a, r', ro⟩ := q
  simp only at ho
  rcases ho with rfl | rfl | rfl
  · have h' : (⟨4, day, [], [], [], w, 0, r', ro⟩ : SPost) = ⟨4, day, o, i, s, w, a, r', ro⟩ := h
    simp only [SPost.mk.injEq, true_and, and_true] at h'
    obtain ⟨rfl, rfl, rfl, rfl⟩ := h'
    rfl
  · have h' : (⟨5, day, [], [], [], [], a, r', 0⟩ : SPost) = ⟨5, day, o, i, s, w, a, r', ro⟩ := h
    simp only [SPost.mk.injEq, true_and, and_true] at h'
    obtain ⟨rfl, rfl, rfl, rfl, rfl⟩ := h'
    rfl
  · have h' : (⟨8, day, [], [], [], [], 0, r', 0⟩ : SPost) = ⟨8, day, o, i, s, w, a, r', ro⟩ := h
    simp only [SPost.mk.injEq, true_and, and_true] at h'
    obtain ⟨rfl, rfl, rfl, rfl, rfl, rfl⟩ := h'
    rfl
theorem Acc.days {l : List SPost} (h : Acc l) : ∀ i j : Nat, i ≤ j → j < l.length → (entL l ((i : Int) + 1)).day ≤ (entL l ((j : Int) + 1)).day := by
  induction h with
  | nil => intro i j _ h; simp at h
  | snoc hA hr ih =>
    rename_i l p
    intro i j hij hj
    by_cases hjl : j < l.length
    · rw [entL_app _ (by omega) (by omega), entL_app _ (by omega) (by omega)]
      exact ih i j hij hjl
    · have hjl : j = l.length := by simp at hj; omega
      subst hjl
      rw [entL_new, (clean_op p).2]
      by_cases hi : i = l.length
      · subst hi; rw [entL_new, (clean_op p).2]; exact Int.le_refl _
      · rw [entL_app _ (by omega) (by omega)]
        have h1 := ih i (l.length - 1) (by omega) (by omega)
        rw [show (((l.length - 1 : Nat) : Int)) + 1 = l.length by omega] at h1
        have h2 := (refusalR_zero hr).2.2.1
        have : ¬ p.day < (entL l l.length).day := fun hh => h2 ⟨by omega, hh⟩
        omega
section
variable {l : List SPost} {K : Nat → Bool}
theorem stand_sub (hO : Ok l) (hK : SubOk l K) (S : SubAt l K) {s : Int} (hs : standE l s = 0) (h1 : 1 ≤ s) (h2 : s ≤ l.length) (hk : K (s - 1).toNat = true) : standE (sub K l l.length) (kO K s) = 0 := by
  obtain ⟨m, rfl, e2⟩ := pred_nat h1
  rw [e2] at hk
  rw [kO_yes hk, standE, if_neg (by rw [kap_yes hk]; omega), if_pos]
  rw [S.live hO hK (m + 1) (by omega) (by omega) hk]
  exact (standE_zero hs).2
theorem aim_sub (hO : Ok l) (hK : SubOk l K) (S : SubAt l K) {n : Int} {ks : List Int} (hn : aimE l n ks = 0) (hk : K (n - 1).toNat = true) : aimE (sub K l l.length) (kap K n.toNat : Int) ks = 0 := by
  have hb := aimE_zero hn
  rw [aimE, if_neg (by simp [inside]; omega)] at hn
  split at hn
  · omega
  · rename_i hks
    obtain ⟨m, rfl, e2⟩ := pred_nat hb.1
    have hs := stand_sub hO hK S hn (by omega) (by omega) hk
    rw [e2] at hk
    rw [kO_yes hk] at hs
    rw [show ((m : Int) + 1).toNat = m + 1 by omega]
    have h3 := kap_mono K (i := m + 1) (j := l.length) (by omega)
    have h4 := kap_yes hk
    rw [aimE, if_neg (by simp [inside, sub_len]; omega), sub_ent K l (by omega) hk, (renum_same K _).1, if_neg hks, hs]
theorem refusal_sub (hA : Acc l) (hK : SubOk l K) (S : SubAt l K) {q : SPost} (hr : refusalR l q = 0) (hs : 1 ≤ supNo l q → K (supNo l q - 1).toNat = true) (hrf : q.op = 4 ∨ q.op = 5 ∨ q.op = 8 → 1 ≤ q.ref ∧ K (q.ref - 1).toNat = true) (hr0 : ¬ (q.op = 4 ∨ q.op = 5 ∨ q.op = 8) → q.ref = 0) :
    refusalR (sub K l l.length) (renum K q) = 0 := by
  have hO := hA.ok
  have hO' := S.acc.ok
  obtain ⟨c1, c2, c3, c4⟩ := refusalR_zero hr
  obtain ⟨r0, r1, r2, r3, r4⟩ := refE_zero c4
  obtain ⟨e1, e2, e3, e4, e5, e6, e7, e8⟩ := renum_same K q
  have hop := op_cases (checkE_op c1).1
  have hsu := S.sup (p := q) fun h => hrf (by omega)
  have hob := ordNo_le l q.order
  have hib := itmNo_le l q.order q.item
  have hc' : checkE (renum K q) = 0 := by
    by_cases h : q.op = 4 ∨ q.op = 5 ∨ q.op = 8
    · obtain ⟨g1, g2⟩ := hrf h
      obtain ⟨m, f1, f2⟩ := pred_nat g1
      rw [f2] at g2
      have := kap_yes g2
      have := kap_le K q.ref.toNat
      have := checkE_ref c1 h
      rw [renum, if_pos (by omega)]
      refine check_ref c1 ?_ (by omega)
      rw [show q.ref.toNat = m + 1 by omega]; omega
    · rw [renum_zero K (hr0 h)]; exact c1
  have hlen := kap_le K l.length
  have hdays : ¬ (0 < (sub K l l.length).length ∧ (renum K q).day < (entL (sub K l l.length) (sub K l l.length).length).day) := by
    rintro ⟨g1, g2⟩
    have hg := entL_at (l := sub K l l.length) (n := ((sub K l l.length).length : Int)) (by omega) (by omega)
    obtain ⟨k, k1, k2, k3, k4⟩ := sub_from K l hg
    rw [k4, e2, (renum_same K _).2.1] at g2
    have := hA.days k (l.length - 1) (by omega) (by omega)
    rw [show (((l.length - 1 : Nat) : Int)) + 1 = l.length by omega] at this
    exact c3 ⟨by omega, by omega⟩
  rw [refusalR, if_pos hc', if_neg (by rw [sub_len]; omega), if_neg hdays]
  have rd := c4
  rw [refE] at rd
  rw [refE, e1, e3, e4, e6, e7]
  by_cases h0 : q.op = 0
  · rw [if_pos h0, S.ord, r0 h0, kO_zero (by omega), if_neg (by omega)]
  rw [if_neg h0] at rd ⊢
  by_cases h1 : q.op = 1
  · rw [if_pos h1] at rd ⊢
    have hst : standE l (ordNo l q.order) = 0 := by
      split at rd
      · assumption
      · exact rd
    have hsn : supNo l q = ordNo l q.order := by rw [supNo, if_pos (by omega)]
    have g1 := (r1 (by omega)).1
    have := stand_sub hO hK S hst g1 (by omega) (by rw [← hsn]; exact hs (by omega))
    rw [S.ord, S.itm, if_pos this, r2 h1, kO_zero (by omega), if_neg (by omega)]
  rw [if_neg h1] at rd ⊢
  have aim : ∀ ks, aimE l q.ref ks = 0 → (q.op = 4 ∨ q.op = 5 ∨ q.op = 8) → aimE (sub K l l.length) (renum K q).ref ks = 0 ∧ (entL (sub K l l.length) (renum K q).ref).op = (entL l q.ref).op ∧ (entL (sub K l l.length) (renum K q).ref).who = (entL l q.ref).who := fun ks ha ho => by
    obtain ⟨g1, g2⟩ := hrf ho
    have hz := aimE_zero ha
    have := aim_sub hO hK S ha g2
    rw [renum_ref K g1]
    refine ⟨this, ?_⟩
    obtain ⟨m, f1, f2⟩ := pred_nat g1
    rw [f2] at g2
    rw [show q.ref.toNat = m + 1 by omega, sub_ent K l (by omega) g2, f1]
    have := renum_same K (entL l ((m : Int) + 1))
    exact ⟨this.1, this.2.2.2.2.2.1⟩
  by_cases h4 : q.op = 4
  · rw [if_pos h4] at rd ⊢
    have ha : aimE l q.ref [2, 3] = 0 := by
      split at rd
      · assumption
      · exact rd
    rw [if_pos ha] at rd
    obtain ⟨a1, a2, a3⟩ := aim _ ha (by omega)
    rw [if_pos a1, a2, a3]
    exact rd
  rw [if_neg h4] at rd ⊢
  by_cases h5 : q.op = 5
  · rw [if_pos h5] at rd ⊢
    have ha : aimE l q.ref [1, 2, 3] = 0 := by
      split at rd
      · assumption
      · exact rd
    rw [if_pos ha] at rd
    obtain ⟨a1, a2, a3⟩ := aim _ ha (by omega)
    rw [if_pos a1, a2]
    exact rd
  rw [if_neg h5] at rd ⊢
  by_cases h8 : q.op = 8
  · rw [if_pos h8] at rd ⊢
    exact (aim _ rd (by omega)).1
  rw [if_neg h8] at rd ⊢
  rw [hsu]
  have hb : 1 ≤ supNo l q ∧ supNo l q ≤ l.length := by
    by_cases h' : q.op = 1 ∨ q.op = 6 ∨ q.op = 7
    · rw [supNo, if_pos h']; exact ⟨(r1 h').1, hob.2⟩
    · rw [supNo, if_neg h', if_pos (by omega)]; exact ⟨(r3 (by omega)).1, hib.2⟩
  exact stand_sub hO hK S rd hb.1 hb.2 (hs hb.1)
end
theorem app_no {a n : Int} {b : Bool} (hb : -1 ≤ a) : (if 0 ≤ a then a else if b = true then n else -1) + 1 = if 1 ≤ a + 1 then a + 1 else if b = true then n + 1 else 0 := by
  by_cases h : 0 ≤ a
  · rw [if_pos h, if_pos (show 1 ≤ a + 1 by omega)]
  · rw [if_neg h, if_neg (show ¬ 1 ≤ a + 1 by omega)]
    split <;> omega
theorem ordNo_app (l : List SPost) (q : SPost) (nm : Str) : ordNo (l ++ [q]) nm = if 1 ≤ ordNo l nm then ordNo l nm else if (decide (q.op = 0) && decide (q.order = nm)) = true then (l.length : Int) + 1 else 0 := by
  have hb := idx_bounds l fun p => decide (p.op = 0) && decide (p.order = nm)
  simp only [ordNo]
  rw [idx_append]
  exact app_no hb.1
theorem itmNo_app (l : List SPost) (q : SPost) (o nm : Str) : itmNo (l ++ [q]) o nm = if 1 ≤ itmNo l o nm then itmNo l o nm else if (decide (q.op = 1) && decide (q.order = o) && decide (q.item = nm)) = true then (l.length : Int) + 1 else 0 := by
  have hb := idx_bounds l fun p => decide (p.op = 1) && decide (p.order = o) && decide (p.item = nm)
  simp only [itmNo]
  rw [idx_append]
  exact app_no hb.1
theorem sup_new {l : List SPost} {q : SPost} (hr : refE l q = 0) : supNo (l ++ [q]) q = supNo l q := by
  obtain ⟨r0, r1, r2, r3, r4⟩ := refE_zero hr
  simp only [supNo]
  split
  · rename_i h; exact ordNo_snoc q (r1 h).1
  · split
    · rename_i h; exact itmNo_snoc q (r3 h).1
    · rfl
theorem sub_law {l : List SPost} (h : Acc l) {K : Nat → Bool} : SubOk l K → SubAt l K := by
  induction h with
  | nil => intro _; exact ⟨Acc.nil, fun nm => (kO_zero (Int.le_refl 0)).symm, fun o nm => (kO_zero (Int.le_refl 0)).symm⟩
  | snoc hA hr ih =>
    rename_i l p
    intro hK
    have hO := hA.ok
    have hO2 := (hA.snoc hr).ok
    have S := ih (hK.pre hO)
    have hrq := refusal_again hr
    have hcq := (clean_again (checkE_op (refusalR_zero hr).1).1).1
    generalize cleanP p = q at *
    obtain ⟨c1, c2, c3, c4⟩ := refusalR_zero hrq
    obtain ⟨r0, r1, r2, r3, r4⟩ := refE_zero c4
    have hK' := hK.pre hO
    have e : sub K (l ++ [q]) (l ++ [q]).length = if K l.length = true then sub K l l.length ++ [renum K q] else sub K l l.length := by
      rw [show (l ++ [q]).length = l.length + 1 by simp, sub, sub_app K l q _ (Nat.le_refl _), entL_new]
    obtain ⟨e1, e2, e3, e4, e5, e6, e7, e8⟩ := renum_same K q
    refine ⟨?_, fun nm => ?_, fun o nm => ?_⟩ <;> rw [e]
    · split
      · rename_i hk
        have hrf := hK.ref hO2 (k := l.length) (by simp) hk
        have hsq := hK.sup l.length (by simp) hk
        rw [entL_new] at hrf hsq
        rw [sup_new c4] at hsq
        have hz := (hO2.pos l.length q (by simp)).2.2.2
        have := S.acc.snoc (refusal_sub hA hK' S hrq hsq (fun ho => ⟨(hrf ho).1, (hrf ho).2.2⟩) hz)
        have hcl : cleanP (renum K q) = renum K q := by
          by_cases ho : q.op = 4 ∨ q.op = 5 ∨ q.op = 8
          · rw [renum, if_pos (by have := (hrf ho).1; omega)]
            exact clean_renum ho hcq
          · rw [renum_zero K (hz ho)]; exact hcq
        rw [hcl] at this
        exact this
      · exact S.acc
    · rw [ordNo_app]
      rw [← kO_snoc (n := l.length) (s := ordNo (sub K l l.length) nm) (ordNo_le l nm).1 (fun hb => by
        simp only [Bool.and_eq_true, decide_eq_true_eq] at hb
        rw [← hb.2]; exact r0 hb.1) (S.ord nm)]
      split
      · rw [ordNo_app, e1, e3, sub_len]
      · rfl
    · rw [itmNo_app]
      rw [← kO_snoc (n := l.length) (s := itmNo (sub K l l.length) o nm) (itmNo_le l o nm).1 (fun hb => by
        simp only [Bool.and_eq_true, decide_eq_true_eq] at hb
        rw [← hb.1.2, ← hb.2]; exact r2 hb.1.1) (S.itm o nm)]
      split
      · rw [itmNo_app, e1, e3, e4, sub_len]
      · rfl
end Go.Pv

/- The rest: what is live; its accounts are the same. -/
set_option maxHeartbeats 2000000
namespace Go.Pv
attribute [local irreducible] PWP POps PQuiet PSem XThen XBlock RetPost InlPost
open Go.Proofs

def restK (l : List SPost) (k : Nat) : Bool := liveB l ((k : Int) + 1) && !decide ((entL l ((k : Int) + 1)).op = 8)
def restL (l : List SPost) : List SPost := sub (restK l) l l.length
theorem restK_iff {l : List SPost} {k : Nat} : restK l k = true ↔ liveB l ((k : Int) + 1) = true ∧ (entL l ((k : Int) + 1)).op ≠ 8 := by simp [restK]
theorem aim_kind {l : List SPost} {n : Int} {ks : List Int} (h : aimE l n ks = 0) : ks.any (· == (entL l n).op) = true := by
  have hb := aimE_zero h
  rw [aimE, if_neg (by simp [inside]; omega)] at h
  split at h
  · omega
  · rename_i hk; simpa using hk
/-- The kinds of the entries to which one refers. -/
def Kinds (l : List SPost) (p : SPost) : Prop := (p.op = 4 → (entL l p.ref).op = 2 ∨ (entL l p.ref).op = 3) ∧ (p.op = 5 → ((entL l p.ref).op = 1 ∨ (entL l p.ref).op = 2 ∨ (entL l p.ref).op = 3) ∧ ((entL l p.ref).op ≠ 2 → 0 ≤ p.amount)) ∧ (p.op = 8 → (entL l p.ref).op ≠ 8)
theorem kinds_of {l : List SPost} {q : SPost} (c4 : refE l q = 0) : Kinds l q := by
  rw [refE] at c4
  refine ⟨fun h => ?_, fun h => ?_, fun h => ?_⟩
  · rw [if_neg (by omega), if_neg (by omega), if_pos h] at c4
    have ha : aimE l q.ref [2, 3] = 0 := by
      split at c4
      · assumption
      · exact c4
    have := aim_kind ha
    simp at this; omega
  · rw [if_neg (by omega), if_neg (by omega), if_neg (by omega), if_pos h] at c4
    have ha : aimE l q.ref [1, 2, 3] = 0 := by
      split at c4
      · assumption
      · exact c4
    rw [if_pos ha] at c4
    have := aim_kind ha
    simp at this
    refine ⟨by omega, fun h2 => ?_⟩
    split at c4
    · omega
    · rename_i hn
      rcases Int.lt_or_le q.amount 0 with g | g
      · exact absurd ⟨h2, g⟩ hn
      · exact g
  · rw [if_neg (by omega), if_neg (by omega), if_neg (by omega), if_neg (by omega), if_pos h] at c4
    have := aim_kind c4
    simp at this; omega
theorem Acc.kinds {l : List SPost} (h : Acc l) : ∀ k : Nat, k < l.length → Kinds l (entL l ((k : Int) + 1)) := by
  induction h with
  | nil => intro k h; simp at h
  | snoc hA hr ih =>
    rename_i l p
    have hO2 := (hA.snoc hr).ok
    have hrq := refusal_again hr
    generalize cleanP p = q at *
    intro k hk
    have key : ∀ x : SPost, (x.op = 4 ∨ x.op = 5 ∨ x.op = 8 → 1 ≤ x.ref ∧ x.ref ≤ l.length) → Kinds l x → Kinds (l ++ [q]) x := fun x hx ⟨a, b, c⟩ =>
      ⟨fun h => by have := hx (by omega); rw [entL_app q this.1 this.2]; exact a h, fun h => by have := hx (by omega); rw [entL_app q this.1 this.2]; exact b h, fun h => by have := hx (by omega); rw [entL_app q this.1 this.2]; exact c h⟩
    by_cases hkl : k < l.length
    · rw [entL_app q (by omega) (by omega)]
      refine key _ (fun ho => ?_) (ih k hkl)
      have := (hA.ok.pos _ _ (ent_get hkl)).2.2.1 ho
      omega
    · have hkl : k = l.length := by simp at hk; omega
      subst hkl
      rw [entL_new]
      have c4 := (refusalR_zero hrq).2.2.2
      refine key _ (fun ho => ?_) (kinds_of c4)
      have := (refE_zero c4).2.2.2.2 ho
      omega
theorem ord_op {l : List SPost} {nm : Str} (h : 1 ≤ ordNo l nm) : (entL l (ordNo l nm)).op = 0 ∧ (entL l (ordNo l nm)).order = nm := by
  have hb := ordNo_le l nm
  obtain ⟨x, hx, hxp⟩ := idx_lt (l := l) (p := fun p => decide (p.op = 0) && decide (p.order = nm)) (by rw [ordNo] at h; omega)
  have hxe : entL l (ordNo l nm) = x := by
    have := entL_at (l := l) (n := ordNo l nm) (by omega) (by omega)
    rw [show (ordNo l nm - 1).toNat = (idx l fun p => decide (p.op = 0) && decide (p.order = nm)).toNat by rw [ordNo]; omega, hx] at this
    exact (Option.some.inj this).symm
  simp only [Bool.and_eq_true, decide_eq_true_eq] at hxp
  rw [hxe]; exact hxp
theorem itm_op {l : List SPost} {o nm : Str} (h : 1 ≤ itmNo l o nm) : (entL l (itmNo l o nm)).op = 1 := by
  have hb := itmNo_le l o nm
  obtain ⟨x, hx, hxp⟩ := idx_lt (l := l) (p := fun p => decide (p.op = 1) && decide (p.order = o) && decide (p.item = nm)) (by rw [itmNo] at h; omega)
  have hxe : entL l (itmNo l o nm) = x := by
    have := entL_at (l := l) (n := itmNo l o nm) (by omega) (by omega)
    rw [show (itmNo l o nm - 1).toNat = (idx l fun p => decide (p.op = 1) && decide (p.order = o) && decide (p.item = nm)).toNat by rw [itmNo]; omega, hx] at this
    exact (Option.some.inj this).symm
  simp only [Bool.and_eq_true, decide_eq_true_eq] at hxp
  rw [hxe]; exact hxp.1.1
theorem sup_op {l : List SPost} {p : SPost} (hk : Kinds l p) (h : 1 ≤ supNo l p) : (entL l (supNo l p)).op ≠ 8 := by
  rw [supNo] at h ⊢
  split at h
  · rename_i h1; rw [if_pos h1, (ord_op h).1]; omega
  · rename_i h1
    rw [if_neg h1]
    split at h
    · rename_i h2; rw [if_pos h2, itm_op h]; omega
    · rename_i h2
      rw [if_neg h2]
      split at h
      · rename_i h3
        rw [if_pos h3]
        rcases h3 with h3 | h3
        · have := hk.1 h3; omega
        · have := (hk.2.1 h3).1; omega
      · omega
theorem gone_mem {l : List SPost} {k : Nat} (hk : k < l.length) (h8 : (entL l ((k : Int) + 1)).op = 8) : goneB l (entL l ((k : Int) + 1)).ref = true := by
  rw [goneB, List.any_eq_true]
  exact ⟨_, List.mem_of_getElem? (ent_get hk), by simp [h8]⟩
theorem rest_ok {l : List SPost} (hA : Acc l) : SubOk l (restK l) := by
  have hO := hA.ok
  refine ⟨fun k hk hkk hs => ?_, fun k hk hkk h8 => ?_, fun k hk h8 hr => ?_⟩
  · obtain ⟨g1, g2⟩ := restK_iff.1 hkk
    have h8 := sup_op (hA.kinds k hk) hs
    rw [liveB_pos hO.wf (by omega)] at g1
    have g1 := (Bool.and_eq_true_iff.1 g1).2
    obtain ⟨m, e1, e2⟩ := pred_nat hs
    rw [e2]
    rw [e1] at g1 h8
    exact restK_iff.2 ⟨g1, h8⟩
  · exact absurd h8 (restK_iff.1 hkk).2
  · exfalso
    have hpos := (hO.pos _ _ (ent_get hk)).2.2.1 (by omega)
    have hg := gone_mem hk h8
    obtain ⟨m, e1, e2⟩ := pred_nat hpos.1
    rw [e2] at hr
    have := (restK_iff.1 hr).1
    rw [← e1, liveB_pos hO.wf hpos.1, hg] at this
    cases this
theorem rest_at {l : List SPost} (hA : Acc l) : SubAt l (restK l) := sub_law hA (rest_ok hA)
theorem rest_acc {l : List SPost} (hA : Acc l) : Acc (restL l) := (rest_at hA).acc
theorem rest_op {l : List SPost} {p : SPost} (hp : p ∈ restL l) : p.op ≠ 8 := by
  obtain ⟨i, hi, rfl⟩ := List.getElem_of_mem hp
  obtain ⟨k, k1, k2, k3, k4⟩ := sub_from _ l (List.getElem?_eq_getElem hi)
  have := (restK_iff.1 k2).2
  rw [show (restL l)[i] = _ from k4, (renum_same _ _).1]
  exact this
theorem rest_gone (l : List SPost) (n : Int) : goneB (restL l) n = false := by
  rw [goneB, List.any_eq_false]
  intro p hp
  have := rest_op hp
  simp [this]
theorem live_all {l : List SPost} (h : ∀ n, goneB l n = false) : ∀ (f : Nat) (n : Int), liveF l f n = true
  | 0, n => rfl
  | f + 1, n => by
    rw [liveF, h]
    split
    · rfl
    · rw [live_all h f]; rfl
theorem rest_live (l : List SPost) (n : Int) : liveB (restL l) n = true := live_all (rest_gone l) _ _
theorem rest_len (l : List SPost) : (restL l).length = kap (restK l) l.length := sub_len _ _ _
theorem kap_all {K : Nat → Bool} {n : Nat} (h : ∀ k, k < n → K k = true) : ∀ k, k ≤ n → kap K k = k
  | 0, _ => rfl
  | k + 1, hk => by rw [kap_yes (h k (by omega)), kap_all h k (by omega)]
theorem sub_all {K : Nat → Bool} {l : List SPost} (h : ∀ k, k < l.length → K k = true) (hr : ∀ k : Nat, k < l.length → 0 ≤ (entL l ((k : Int) + 1)).ref ∧ (entL l ((k : Int) + 1)).ref ≤ k) : ∀ k, k ≤ l.length → sub K l k = l.take k
  | 0, _ => by simp [sub]
  | k + 1, hk => by
    have h1 : renum K (entL l ((k : Int) + 1)) = entL l ((k : Int) + 1) := by
      have := hr k (by omega)
      have hkp := kap_all h (entL l ((k : Int) + 1)).ref.toNat (by omega)
      rw [renum]
      split
      · rw [hkp]
        generalize entL l ((k : Int) + 1) = p at *
        obtain ⟨op, day, o, i, s, w, a, r, ro⟩ := p
        simp only at this ⊢
        rw [show ((r.toNat : Nat) : Int) = r by omega]
      · rfl
    rw [sub, if_pos (h k (by omega)), h1, take_snoc (ent_get (by omega)), sub_all h hr k (by omega)]
theorem Ok.refs {l : List SPost} (hO : Ok l) : ∀ k : Nat, k < l.length → 0 ≤ (entL l ((k : Int) + 1)).ref ∧ (entL l ((k : Int) + 1)).ref ≤ k := fun k hk => by
  have := (hO.pos _ _ (ent_get hk)).2.2
  by_cases ho : (entL l ((k : Int) + 1)).op = 4 ∨ (entL l ((k : Int) + 1)).op = 5 ∨ (entL l ((k : Int) + 1)).op = 8
  · have := this.1 ho; omega
  · have := this.2 ho; omega
/-- The rest of the rest is the rest. -/
theorem rest_rest {l : List SPost} (hA : Acc l) : restL (restL l) = restL l := by
  have hO := (rest_acc hA).ok
  have := sub_all (K := restK (restL l)) (l := restL l) (fun k hk => restK_iff.2 ⟨rest_live l _, rest_op (List.mem_of_getElem? (ent_get hk))⟩) hO.refs _ (Nat.le_refl _)
  rw [List.take_length] at this
  exact this
end Go.Pv

/- The accounts of the rest. -/
set_option maxHeartbeats 2000000
namespace Go.Pv
attribute [local irreducible] PWP POps PQuiet PSem XThen XBlock RetPost InlPost
open Go.Proofs

section
variable {l : List SPost}
theorem rest_ent {k : Nat} (hk : k < l.length) (h : restK l k = true) : entL (restL l) ((kap (restK l) k : Nat) + 1 : Int) = renum (restK l) (entL l ((k : Int) + 1)) := by
  have := sub_ent (restK l) l hk h
  rw [kap_yes h] at this
  exact this
theorem ofB_kept {op n i : Int} (ho : op = 4 ∨ op = 5) (h : ofB l op n i = true) (h1 : 1 ≤ i) : restK l (i - 1).toNat = true := by
  obtain ⟨m, rfl, e2⟩ := pred_nat h1
  rw [e2]
  simp only [ofB, Bool.and_eq_true, decide_eq_true_eq] at h
  exact restK_iff.2 ⟨h.2, by omega⟩
theorem ofB_rest (hA : Acc l) {op : Int} (ho : op = 4 ∨ op = 5) {m b : Nat} (hm : restK l m = true) (hb : b < l.length) (hk : restK l b = true) :
    ofB (restL l) op ((kap (restK l) (m + 1) : Nat) : Int) ((kap (restK l) b : Nat) + 1 : Int) = ofB l op ((m : Int) + 1) ((b : Int) + 1) := by
  have hlv := (restK_iff.1 hk).1
  rw [ofB, ofB, rest_ent hb hk, rest_live, hlv, (renum_same _ _).1, Bool.and_true, Bool.and_true]
  by_cases hop : (entL l ((b : Int) + 1)).op = op
  · congr 1
    obtain ⟨g1, g2, g3⟩ := (rest_ok hA).ref hA.ok hb hk (by omega)
    obtain ⟨j, e1, e2⟩ := pred_nat g1
    rw [e2] at g3
    rw [renum_ref _ g1, show (entL l ((b : Int) + 1)).ref.toNat = j + 1 by omega, e1]
    rw [decide_eq_decide]
    constructor
    · intro h
      have := kap_inj g3 hm (by omega)
      omega
    · intro h
      have : j = m := by omega
      rw [this]
  · rw [decide_eq_false hop]; rfl
theorem ofB_drop {op n : Int} (ho : op = 4 ∨ op = 5) {b : Nat} (hk : ¬ restK l b = true) : ofB l op n ((b : Int) + 1) = false := by
  cases h : ofB l op n ((b : Int) + 1) with
  | false => rfl
  | true =>
    have := ofB_kept ho h (by omega)
    rw [show ((b : Int) + 1 - 1).toNat = b by omega] at this
    exact absurd this hk
theorem latF_kept {n : Int} : ∀ {b : Nat}, 0 < latF l n b → restK l (latF l n b - 1).toNat = true
  | 0, h => by simp [latF] at h
  | b + 1, h => by
    rw [latF] at h ⊢
    split
    · rename_i hb; exact ofB_kept (.inr rfl) hb (by omega)
    · rename_i hb
      rw [if_neg hb] at h
      exact latF_kept h
theorem latF_rest (hA : Acc l) {m : Nat} (hm : restK l m = true) : ∀ b : Nat, b ≤ l.length → latF (restL l) ((kap (restK l) (m + 1) : Nat) : Int) (kap (restK l) b) = kO (restK l) (latF l ((m : Int) + 1) b)
  | 0, _ => (kO_zero (by rw [latF]; omega)).symm
  | b + 1, hb => by
    have ih := latF_rest hA hm b (by omega)
    by_cases hk : restK l b = true
    · rw [kap_yes hk, latF, latF, ofB_rest hA (.inr rfl) hm hb hk, ih]
      split
      · rw [kO_yes hk, kap_yes hk]; omega
      · rfl
    · rw [kap_no hk, latF, ofB_drop (.inr rfl) hk, if_neg (by simp), ih]
theorem sigF_ofB {n : Int} : ∀ {b : Nat} {x : Int}, x ∈ sigF l n b → ofB l 4 n x = true ∧ 1 ≤ x ∧ x ≤ b
  | 0, x, h => by simp [sigF] at h
  | b + 1, x, h => by
    rw [sigF] at h
    split at h
    · rename_i hb
      rcases List.mem_append.1 h with h | h
      · have := sigF_ofB h; exact ⟨this.1, this.2.1, by omega⟩
      · simp at h; subst h; exact ⟨hb, by omega, by omega⟩
    · split at h
      · simp at h
      · have := sigF_ofB h; exact ⟨this.1, this.2.1, by omega⟩
theorem sigF_rest (hA : Acc l) {m : Nat} (hm : restK l m = true) : ∀ b : Nat, b ≤ l.length → sigF (restL l) ((kap (restK l) (m + 1) : Nat) : Int) (kap (restK l) b) = (sigF l ((m : Int) + 1) b).map (kO (restK l))
  | 0, _ => rfl
  | b + 1, hb => by
    have ih := sigF_rest hA hm b (by omega)
    by_cases hk : restK l b = true
    · rw [kap_yes hk, sigF, sigF, ofB_rest hA (.inl rfl) hm hb hk, ofB_rest hA (.inr rfl) hm hb hk, ih]
      split
      · rw [List.map_append, List.map_cons, List.map_nil, kO_yes hk, kap_yes hk]; rfl
      · split <;> rfl
    · rw [kap_no hk, sigF, ofB_drop (.inl rfl) hk, ofB_drop (.inr rfl) hk, if_neg (by simp), if_neg (by simp), ih]
theorem sgdB_rest (hA : Acc l) {m b : Nat} (hm : restK l m = true) (hb : b ≤ l.length) (role : Int) : sgdB (restL l) ((kap (restK l) (m + 1) : Nat) : Int) (kap (restK l) b) role = sgdB l ((m : Int) + 1) b role := by
  rw [sgdB, sgdB, sigF_rest hA hm b hb, List.any_map]
  rw [Bool.eq_iff_iff, List.any_eq_true, List.any_eq_true]
  have key : ∀ x, x ∈ sigF l ((m : Int) + 1) b → (entL (restL l) (kO (restK l) x)).role = (entL l x).role := fun x hx => by
    obtain ⟨g1, g2, g3⟩ := sigF_ofB hx
    have hk := ofB_kept (.inl rfl) g1 g2
    obtain ⟨j, rfl, e2⟩ := pred_nat g2
    rw [e2] at hk
    rw [kO_yes hk]
    have := sub_ent (restK l) l (n := l.length) (k := j) (by omega) hk
    rw [show sub (restK l) l l.length = restL l from rfl] at this
    rw [this]
    exact (renum_same _ _).2.2.2.2.2.2.2
  constructor
  · rintro ⟨x, hx, h⟩
    refine ⟨x, hx, ?_⟩
    simp only [Function.comp_apply, key x hx] at h
    exact h
  · rintro ⟨x, hx, h⟩
    refine ⟨x, hx, ?_⟩
    simp only [Function.comp_apply, key x hx]
    exact h
theorem rest_am {n : Int} (h1 : 1 ≤ n) (h2 : n ≤ l.length) (hk : restK l (n - 1).toNat = true) : (entL (restL l) (kO (restK l) n)).amount = (entL l n).amount := by
  obtain ⟨j, rfl, e2⟩ := pred_nat h1
  rw [e2] at hk
  rw [kO_yes hk]
  have := sub_ent (restK l) l (n := l.length) (k := j) (by omega) hk
  rw [show sub (restK l) l l.length = restL l from rfl] at this
  rw [this]
  exact (renum_same _ _).2.2.2.2.2.2.1
theorem valF_rest (hA : Acc l) {m b : Nat} (hml : m < l.length) (hm : restK l m = true) (hb : b ≤ l.length) : valF (restL l) ((kap (restK l) (m + 1) : Nat) : Int) (kap (restK l) b) = valF l ((m : Int) + 1) b := by
  have hlb := latF_bounds l ((m : Int) + 1) b
  rw [valF, valF, latF_rest hA hm b hb]
  by_cases h0 : 0 < latF l ((m : Int) + 1) b
  · have hk := latF_kept h0
    have ha := rest_am (by omega) (by omega) hk
    have hp : 0 < kO (restK l) (latF l ((m : Int) + 1) b) := by
      obtain ⟨j, e1, e2⟩ := pred_nat (n := latF l ((m : Int) + 1) b) (by omega)
      rw [e2] at hk
      rw [e1, kO_yes hk, kap_yes hk]; omega
    rw [if_pos h0, if_pos hp, ha]
  · rw [if_neg h0, kO_zero (by omega), if_neg (by omega)]
    have := rest_am (l := l) (n := (m : Int) + 1) (by omega) (by omega) (by rw [show ((m : Int) + 1 - 1).toNat = m by omega]; exact hm)
    rw [kO_yes hm] at this
    exact this
theorem ivcB_rest (o : Str) {b : Nat} (hb : b < l.length) (hk : restK l b = true) : ivcB (restL l) o (kap (restK l) b) = ivcB l o b := by
  have hlv := (restK_iff.1 hk).1
  rw [ivcB, ivcB, rest_ent hb hk, rest_live, hlv, (renum_same _ _).1, (renum_same _ _).2.2.1]
theorem ivcB_drop (o : Str) {b : Nat} (hk : ¬ restK l b = true) : ivcB l o b = false := by
  cases h : ivcB l o b with
  | false => rfl
  | true =>
    simp only [ivcB, Bool.and_eq_true, decide_eq_true_eq] at h
    exact absurd (restK_iff.2 ⟨h.2, by omega⟩) hk
theorem invF_kept {n : Int} : ∀ {b : Nat}, 0 < invF l n b → restK l (invF l n b - 1).toNat = true
  | 0, h => by simp [invF] at h
  | b + 1, h => by
    rw [invF] at h ⊢
    by_cases hz : invF l n b = 0
    · rw [if_pos hz] at h ⊢
      split
      · rename_i hc
        simp only [ivcB, Bool.and_eq_true, decide_eq_true_eq] at hc
        rw [show ((b : Int) + 1 - 1).toNat = b by omega]
        exact restK_iff.2 ⟨hc.1.2.2, by omega⟩
      · rename_i hc
        rw [if_neg hc] at h; omega
    · rw [if_neg hz] at h ⊢
      exact invF_kept h
theorem kO_pos {K : Nat → Bool} {n : Int} (h0 : 0 ≤ n) (hk : 0 < n → K (n - 1).toNat = true) : (kO K n = 0 ↔ n = 0) ∧ (0 < n → ∃ j : Nat, n = (j : Int) + 1 ∧ K j = true ∧ kO K n = (kap K j : Int) + 1) := by
  by_cases hp : 0 < n
  · have hk := hk hp
    obtain ⟨j, rfl, e2⟩ := pred_nat (n := n) (by omega)
    rw [e2] at hk
    rw [kO_yes hk, kap_yes hk]
    exact ⟨⟨fun h => by omega, fun h => by omega⟩, fun _ => ⟨j, rfl, hk, by omega⟩⟩
  · rw [kO_zero (by omega)]
    exact ⟨⟨fun _ => by omega, fun _ => rfl⟩, fun h => absurd h hp⟩
theorem invF_nonneg (n : Int) (b : Nat) : 0 ≤ invF l n b := by
  induction b with
  | zero => simp [invF]
  | succ b ih =>
    rw [invF]
    split
    · split <;> omega
    · exact ih
theorem invF_rest (hA : Acc l) {m : Nat} (hml : m < l.length) (hm : restK l m = true) : ∀ b : Nat, b ≤ l.length → invF (restL l) ((kap (restK l) (m + 1) : Nat) : Int) (kap (restK l) b) = kO (restK l) (invF l ((m : Int) + 1) b)
  | 0, _ => (kO_zero (by rw [invF]; omega)).symm
  | b + 1, hb => by
    have ih := invF_rest hA hml hm b (by omega)
    have hz := (kO_pos (K := restK l) (invF_nonneg (l := l) ((m : Int) + 1) b) invF_kept).1
    have ho : (entL (restL l) ((kap (restK l) (m + 1) : Nat) : Int)).order = (entL l ((m : Int) + 1)).order := by
      have := sub_ent (restK l) l hml hm
      rw [show sub (restK l) l l.length = restL l from rfl] at this
      rw [this]; exact (renum_same _ _).2.2.1
    by_cases hk : restK l b = true
    · have hlt : (decide (((kap (restK l) (m + 1) : Nat) : Int) < (kap (restK l) b : Int) + 1)) = decide ((m : Int) + 1 < (b : Int) + 1) := by
        rw [decide_eq_decide]
        constructor
        · intro h
          rcases Nat.lt_or_ge m b with g | g
          · omega
          · have := kap_mono (restK l) g
            rw [kap_yes hm] at h; omega
        · intro h
          have := kap_mono (restK l) (i := m + 1) (j := b) (by omega)
          omega
      rw [kap_yes hk, invF, invF, ih, hlt, ho, ivcB_rest _ hb hk, sgdB_rest hA hm (by omega)]
      by_cases h0 : invF l ((m : Int) + 1) b = 0
      · rw [if_pos (hz.2 h0), if_pos h0]
        split
        · rw [kO_yes hk, kap_yes hk]; omega
        · rw [kO_zero (by omega)]
      · rw [if_neg (fun h => h0 (hz.1 h)), if_neg h0]
    · rw [kap_no hk, invF, ivcB_drop _ hk, Bool.and_false, Bool.false_and, ih]
      split
      · rename_i h0; rw [h0]; rfl
      · rfl
theorem billF_rest (hA : Acc l) {m : Nat} (hml : m < l.length) (hm : restK l m = true) : billF (restL l) ((kap (restK l) (m + 1) : Nat) : Int) = billF l ((m : Int) + 1) := by
  rw [billF, billF, rest_len, invF_rest hA hml hm _ (Nat.le_refl _)]
  have hk := kO_pos (K := restK l) (invF_nonneg (l := l) ((m : Int) + 1) l.length) invF_kept
  by_cases h0 : 0 < invF l ((m : Int) + 1) l.length
  · obtain ⟨j, e1, e2, e3⟩ := hk.2 h0
    have hib := inv_bounds h0
    rw [if_pos h0, e3, if_pos (by omega), e1, show ((j : Int) + 1 - 1).toNat = j by omega, show ((kap (restK l) j : Int) + 1 - 1).toNat = kap (restK l) j by omega]
    exact valF_rest hA hml hm (by omega)
  · have h1 : ¬ 0 < kO (restK l) (invF l ((m : Int) + 1) l.length) := by
      have := invF_nonneg (l := l) ((m : Int) + 1) l.length
      rw [hk.1.2 (by omega)]; omega
    rw [if_neg h0, if_neg h1]
theorem accS_rest (hA : Acc l) (o : Str) {k : Nat} (hkl : k < l.length) (hk : restK l k = true) (M : List SAcct × List (Str × Int)) : accS (restL l) o ((kap (restK l) k : Int) + 1) M = accS l o ((k : Int) + 1) M := by
  have he := rest_ent hkl hk
  have hlv := (restK_iff.1 hk).1
  have hv := valF_rest hA hkl hk (Nat.le_refl _)
  have hs := sgdB_rest hA hk (Nat.le_refl _)
  have hb := billF_rest hA hkl hk
  rw [← rest_len, kap_yes hk] at hv
  rw [← rest_len, kap_yes hk] at hs
  rw [kap_yes hk] at hb
  have hi : accI o (restL l) ((kap (restK l) k : Int) + 1) = accI o l ((k : Int) + 1) := by rw [accI, accI, he, rest_live, hlv, (renum_same _ _).2.2.1]
  have e1 := (renum_same (restK l) (entL l ((k : Int) + 1))).1
  have e4 := (renum_same (restK l) (entL l ((k : Int) + 1))).2.2.2.1
  have hv' : valF (restL l) ((kap (restK l) k : Int) + 1) (restL l).length = valF l ((k : Int) + 1) l.length := hv
  have hs' : ∀ r, sgdB (restL l) ((kap (restK l) k : Int) + 1) (restL l).length r = sgdB l ((k : Int) + 1) l.length r := hs
  have hb' : billF (restL l) ((kap (restK l) k : Int) + 1) = billF l ((k : Int) + 1) := hb
  rw [accS, accS, hi, he, e1, e4, hv', hs', hs', hb']
theorem accS_drop (o : Str) {k : Nat} (hk : ¬ restK l k = true) (M : List SAcct × List (Str × Int)) : accS l o ((k : Int) + 1) M = M := by
  rw [accS]
  by_cases hi : accI o l ((k : Int) + 1) = false
  · rw [if_pos hi]
  · rw [if_neg hi]
    have hlv : liveB l ((k : Int) + 1) = true := by
      simp only [accI, Bool.not_eq_false, Bool.and_eq_true] at hi; exact hi.2
    have h8 : (entL l ((k : Int) + 1)).op = 8 := by
      rcases Int.lt_trichotomy (entL l ((k : Int) + 1)).op 8 with g | g | g
      · exact absurd (restK_iff.2 ⟨hlv, by omega⟩) hk
      · exact g
      · exact absurd (restK_iff.2 ⟨hlv, by omega⟩) hk
    rw [if_neg (by omega), if_neg (by omega), if_neg (by omega)]
theorem accK_rest (hA : Acc l) (o : Str) : ∀ k : Nat, k ≤ l.length → accK (restL l) o (kap (restK l) k) = accK l o k
  | 0, _ => rfl
  | k + 1, hk => by
    have ih := accK_rest hA o k (by omega)
    by_cases hkk : restK l k = true
    · rw [kap_yes hkk, accK, accK, ih, accS_rest hA o hk hkk]
    · rw [kap_no hkk, ih, accK, accS_drop o hkk]
theorem accP_rest (hA : Acc l) (o : Str) : accP (restL l) o = accP l o := by rw [accP, accP, rest_len, accK_rest hA o _ (Nat.le_refl _)]
theorem payK_rest (o : Str) : ∀ k : Nat, k ≤ l.length → payK (restL l) o (kap (restK l) k) = payK l o k
  | 0, _ => rfl
  | k + 1, hk => by
    have ih := payK_rest o k (by omega)
    by_cases hkk : restK l k = true
    · have hlv := (restK_iff.1 hkk).1
      have he := rest_ent (l := l) hk hkk
      have hp : payB (restL l) o (kap (restK l) k) = payB l o k := by
        rw [payB, payB, he, rest_live, hlv, (renum_same _ _).1, (renum_same _ _).2.2.1]
      rw [kap_yes hkk, payK, payK, ih, hp, he, (renum_same _ _).2.2.2.2.2.2.1]
    · have hp : payB l o k = false := by
        cases h : payB l o k with
        | false => rfl
        | true =>
          simp only [payB, Bool.and_eq_true, decide_eq_true_eq] at h
          exact absurd (restK_iff.2 ⟨h.2, by omega⟩) hkk
      rw [kap_no hkk, ih, payK, hp, if_neg (by simp)]
theorem balV_rest (hA : Acc l) (o : Str) : balV (restL l) o = balV l o := by
  simp only [balV, accP_rest hA o]
  rw [rest_len, payK_rest o _ (Nat.le_refl _)]
/-- An order that is not live is not in the rest. -/
theorem rest_ord (hA : Acc l) (o : Str) : ordNo (restL l) o = kO (restK l) (ordNo l o) := (rest_at hA).ord o
theorem rest_stand (hA : Acc l) (o : Str) (h : 1 ≤ ordNo l o) : standE (restL l) (ordNo (restL l) o) = if standE l (ordNo l o) = 0 then 0 else 6 := by
  have hop := (ord_op h).1
  rw [rest_ord hA]
  obtain ⟨j, e1, e2⟩ := pred_nat h
  by_cases hs : standE l (ordNo l o) = 0
  · rw [if_pos hs]
    have hlv := (standE_zero hs).2
    rw [e1] at hlv hop ⊢
    have hk : restK l j = true := restK_iff.2 ⟨hlv, by omega⟩
    rw [kO_yes hk, kap_yes hk, standE, if_neg (by omega), if_pos (rest_live l _)]
  · rw [if_neg hs]
    have hlv : ¬ liveB l (ordNo l o) = true := fun hl => hs (by rw [standE, if_neg (by omega), if_pos hl])
    rw [e1] at hlv ⊢
    rw [kO_no (fun hk => hlv (restK_iff.1 hk).1), standE, if_pos rfl]
end
end Go.Pv

/- Equal lists of posts and of accounts; Accounts. -/
set_option maxHeartbeats 2000000
namespace Go.Pv
attribute [local irreducible] PWP POps PQuiet PSem XThen XBlock RetPost InlPost
open Go.Proofs

theorem postT : eqT Tryd.prog 42 [.int .i64, .int .i64, .str, .str, .str, .str, .int .i64, .int .i64, .int .i64] = true := by kernel_rfl
theorem acctT : eqT Tryd.prog 59 [.str, .int .i64, .int .i64, .int .i64, .int .i64, .int .i64, .int .i64] = true := by kernel_rfl
theorem posts_ret (a : List SPost) (hw : a.length ≤ 1000000) : Ret Tryd.prog .shared 17 [.sl (a.map ePost), .sl (a.map ePost)] (.bool true) := by
  have hll : ((a.map ePost).length : Int) = a.length := by simp
  refine Ret.of_pwp layOk mixed Go.Proofs.Tryd.func17 rfl (by decide) rfl rfl ?_
  repeat (refine stp rfl ?_ ?_;·repeat' constructor)
  refine pw_cond rfl (fun h => ?_) (fun h => ?_)
  · exact absurd h (by simp)
  clear h
  repeat (refine stp rfl ?_ ?_;·repeat' constructor)
  refine pw_loop (fun k => k ≤ a.length) (fun k => [(0, .sl (a.map ePost)), (1, .sl (a.map ePost)), (5, I k)]) (fun _ => []) (fun k => a.length - k) 0 (Nat.zero_le _) ⟨rfl, rfl, rfl, trivial⟩ ?_
  intro k s hk
  have hk : k ≤ a.length := hk
  repeat (refine stp rfl ?_ ?_;·repeat' constructor)
  rw [hll]
  refine pw_cond rfl (fun h => ?_) (fun h => ?_)
  · have hlt : k < a.length := by have := of_decide_eq_true h; omega
    obtain ⟨x, hx⟩ := get_lt hlt
    clear h
    repeat (refine stp rfl ?_ ?_;·repeat' constructor)
    refine pw_draw 9 [17, 18, 19, 20, 21, 22, 23, 24, 25] (by decide +kernel) ?_
    repeat (refine stp rfl ?_ ?_;·repeat' constructor)
    apply qst;exact rfl;exact rfl;exact q_idxm rfl rfl rfl rfl rfl (by omega) hx rfl
    repeat (refine stp rfl ?_ ?_;·repeat' constructor)
    apply qst;exact rfl;exact rfl;exact q_idxm rfl rfl rfl rfl rfl (by omega) hx rfl
    repeat (refine stp rfl ?_ ?_;·repeat' constructor)
    refine zqq rfl (q_seqN postT rfl rfl rfl) ?_
    repeat (refine stp rfl ?_ ?_;·repeat' constructor)
    refine pw_cond rfl (fun h => ?_) (fun h => ?_)
    · exact absurd h (by simp)
    · repeat (refine stp rfl ?_ ?_;·repeat' constructor)
      exact ⟨k + 1, hlt, by omega, rfl, rfl, i64_next (by omega) (by omega), trivial⟩
  · repeat (refine stp rfl ?_ ?_;·repeat' constructor)
    exact end1b rfl rfl rfl
theorem same_ret (a : List SAcct) (hw : a.length ≤ 1000000) : Ret Tryd.prog .shared 21 [.sl (a.map eAcct), .sl (a.map eAcct)] (.bool true) := by
  have hll : ((a.map eAcct).length : Int) = a.length := by simp
  refine Ret.of_pwp layOk mixed Go.Proofs.Tryd.func21 rfl (by decide) rfl rfl ?_
  repeat (refine stp rfl ?_ ?_;·repeat' constructor)
  refine pw_cond rfl (fun h => ?_) (fun h => ?_)
  · exact absurd h (by simp)
  clear h
  repeat (refine stp rfl ?_ ?_;·repeat' constructor)
  refine pw_loop (fun k => k ≤ a.length) (fun k => [(0, .sl (a.map eAcct)), (1, .sl (a.map eAcct)), (5, I k)]) (fun _ => []) (fun k => a.length - k) 0 (Nat.zero_le _) ⟨rfl, rfl, rfl, trivial⟩ ?_
  intro k s hk
  have hk : k ≤ a.length := hk
  repeat (refine stp rfl ?_ ?_;·repeat' constructor)
  rw [hll]
  refine pw_cond rfl (fun h => ?_) (fun h => ?_)
  · have hlt : k < a.length := by have := of_decide_eq_true h; omega
    obtain ⟨x, hx⟩ := get_lt hlt
    clear h
    repeat (refine stp rfl ?_ ?_;·repeat' constructor)
    refine pw_draw 9 [17, 18, 19, 20, 21, 22, 23, 24, 25] (by decide +kernel) ?_
    repeat (refine stp rfl ?_ ?_;·repeat' constructor)
    apply qst;exact rfl;exact rfl;exact q_idxm rfl rfl rfl rfl rfl (by omega) hx rfl
    repeat (refine stp rfl ?_ ?_;·repeat' constructor)
    apply qst;exact rfl;exact rfl;exact q_idxm rfl rfl rfl rfl rfl (by omega) hx rfl
    repeat (refine stp rfl ?_ ?_;·repeat' constructor)
    refine zqq rfl (q_seqN acctT rfl rfl rfl) ?_
    repeat (refine stp rfl ?_ ?_;·repeat' constructor)
    refine pw_cond rfl (fun h => ?_) (fun h => ?_)
    · exact absurd h (by simp)
    · repeat (refine stp rfl ?_ ?_;·repeat' constructor)
      exact ⟨k + 1, hlt, by omega, rfl, rfl, i64_next (by omega) (by omega), trivial⟩
  · repeat (refine stp rfl ?_ ?_;·repeat' constructor)
    exact end1b rfl rfl rfl
theorem accountsX_ret (l : List SPost) (hA : Acc l) (o : Str) : Ret Tryd.prog .shared 19 [.dref (eBook l) 0, .str o] (if standE l (ordNo l o) = 0 then .tup [.sl ((accP l o).map eAcct), I 0] else .tup [.nil, I (standE l (ordNo l o))]) := by
  have h44 := ordered_ret l hA.ok o
  have h45 := accounts_ret l hA o
  by_cases hz : standE l (ordNo l o) = 0
  · rw [if_pos hz]
    rw [hz] at h44
    refine Ret.of_pwp layOk mixed Go.Proofs.Tryd.func19 rfl (by decide) rfl rfl ?_
    repeat (refine stp rfl ?_ ?_;·repeat' constructor)
    apply qst;exact rfl;exact rfl;exact q_callP rfl (h44) rfl (by repeat' constructor) rfl rfl
    repeat (refine stp rfl ?_ ?_;·repeat' constructor)
    apply qst;exact rfl;exact rfl;exact q_callF rfl (h45) rfl (by repeat' constructor) rfl
    repeat (refine stp rfl ?_ ?_;·repeat' constructor)
    exact end2 rfl rfl rfl rfl rfl trivial trivial rfl
  · rw [if_neg hz]
    generalize standE l (ordNo l o) = e at *
    refine Ret.of_pwp layOk mixed Go.Proofs.Tryd.func19 rfl (by decide) rfl rfl ?_
    repeat (refine stp rfl ?_ ?_;·repeat' constructor)
    apply qst;exact rfl;exact rfl;exact q_callP rfl (h44) rfl (by repeat' constructor) rfl rfl
    repeat (refine stp rfl ?_ ?_;·repeat' constructor)
    refine pw_cond rfl (fun h => ?_) (fun h => ?_)
    · repeat (refine stp rfl ?_ ?_;·repeat' constructor)
      exact end2 rfl rfl rfl rfl rfl trivial trivial rfl
    · exact absurd (by simpa using h) hz
end Go.Pv

/- Rest: the program. -/
set_option maxHeartbeats 2000000
namespace Go.Pv
attribute [local irreducible] PWP POps PQuiet PSem XThen XBlock RetPost InlPost
open Go.Proofs

def numM (l : List SPost) : Nat → List (Int × Int)
  | 0 => []
  | k + 1 => if restK l k = true then aput ((k : Int) + 1) (kap (restK l) (k + 1) : Nat) (numM l k) else numM l k
theorem numM_at (l : List SPost) : ∀ {k j : Nat}, j < k → restK l j = true → aget (numM l k) ((j : Int) + 1) = (kap (restK l) (j + 1) : Nat)
  | 0, j, h, _ => by omega
  | k + 1, j, h, hj => by
    rw [numM]
    by_cases hk : j = k
    · subst hk
      rw [if_pos hj, aget_aput, if_pos rfl]
    · have ih := numM_at l (k := k) (j := j) (by omega) hj
      split
      · rw [aget_aput, if_neg (by omega), ih]
      · exact ih
set_option maxRecDepth 20000 in
theorem rest_ret (l : List SPost) (hA : Acc l) : Ret Tryd.prog .fresh 18 [.dref (eBook l) 0] (.sl ((restL l).map ePost)) := by
  have hO := hA.ok
  have hl := hO.wf.len
  have hll : ((l.map ePost).length : Int) = l.length := by simp
  refine Ret.of_pwp layOk mixed Go.Proofs.Tryd.func18 rfl (by decide) rfl rfl ?_
  ((repeat (first | refine ps_nil ?_ | refine pq_nil ?_ | refine x_norm ?_ | refine pw_seq ?_)); refine pw_region ?_)
  refine ps_v rfl trivial ?_
  ((repeat (first | refine ps_nil ?_ | refine pq_nil ?_ | refine x_norm ?_ | refine pw_seq ?_)); refine pw_region ?_)
  refine ps_v rfl trivial ?_
  refine ps_v rfl trivial ?_
  refine ps_nil ?_
  refine x_norm ?_
  refine pw_cond rfl (fun h => absurd h (by simp)) (fun _ => ?_)
  refine pw_skip ?_
  ((repeat (first | refine ps_nil ?_ | refine pq_nil ?_ | refine x_norm ?_ | refine pw_seq ?_)); refine pw_region ?_)
  refine ps_v rfl trivial ?_
  refine ps_nil ?_
  refine x_norm ?_
  refine pw_ghost (Ghost.nilreg (k := 3) (t := 3) 42 9 0 rfl rfl) ?_
  repeat (refine stp rfl ?_ ?_;·repeat' constructor)
  refine ps_run (o_mkmap rfl ?_)
  repeat (refine stp rfl ?_ ?_;·repeat' constructor)
  rw [hll]
  refine pw_loop (fun k => k ≤ l.length) (fun k => [(0, .dref (eBook l) 0), (3, .als 3 (1 + (sub (restK l) l k).length) 0 ((sub (restK l) l k).map ePost).length), (4, .mp 9 1), (13, .sl (l.map ePost)), (14, I l.length), (15, I k)]) (fun k => [(3, 1 + (sub (restK l) l k).length, ⟨42, 9, (sub (restK l) l k).map ePost, 0⟩), (9, 1, ⟨75, 0, (numM l k).map eKV, 0⟩)]) (fun k => l.length - k) 0 (Nat.zero_le _) ⟨rfl, rfl, rfl, rfl, rfl, rfl, rfl, rfl, trivial⟩ ?_
  intro k s hk
  have hk : k ≤ l.length := hk
  repeat (refine stp rfl ?_ ?_;·repeat' constructor)
  refine pw_cond rfl (fun h => ?_) (fun h => ?_)
  · have hlt : k < l.length := by have := of_decide_eq_true h; omega
    clear h
    have hx := ent_get hlt
    have hv := live_ret l hO.wf ((k : Int) + 1) (by omega)
    have hw : IntKind.wrap .i64 ((k : Int) + 1) = (k : Int) + 1 := wrap_i64 (by omega) (by omega)
    have hK : restK l k = (liveB l ((k : Int) + 1) && !decide ((entL l ((k : Int) + 1)).op = 8)) := rfl
    have hs : sub (restK l) l (k + 1) = if restK l k = true then sub (restK l) l k ++ [renum (restK l) (entL l ((k : Int) + 1))] else sub (restK l) l k := rfl
    have hm : numM l (k + 1) = if restK l k = true then aput ((k : Int) + 1) (kap (restK l) (k + 1) : Nat) (numM l k) else numM l k := rfl
    have hrefs := hO.refs k hlt
    have hag : restK l k = true → 0 < (entL l ((k : Int) + 1)).ref → aget (numM l k) (entL l ((k : Int) + 1)).ref = (kap (restK l) (entL l ((k : Int) + 1)).ref.toNat : Nat) := fun hkk hp => by
      have ho : (entL l ((k : Int) + 1)).op = 4 ∨ (entL l ((k : Int) + 1)).op = 5 ∨ (entL l ((k : Int) + 1)).op = 8 := by
        by_cases h' : (entL l ((k : Int) + 1)).op = 4 ∨ (entL l ((k : Int) + 1)).op = 5 ∨ (entL l ((k : Int) + 1)).op = 8
        · exact h'
        · have := (hO.pos _ _ hx).2.2.2 h'; omega
      obtain ⟨g1, g2, g3⟩ := (rest_ok hA).ref hO hlt hkk ho
      obtain ⟨j, e1, e2⟩ := pred_nat g1
      rw [e2] at g3
      have := numM_at l (k := k) (j := j) (by omega) g3
      rw [e1, this, show ((j : Int) + 1).toNat = j + 1 by omega]
    have hkap := kap_yes (K := restK l) (k := k)
    have hsl := sub_len (restK l) l k
    have hkl := kap_le (restK l) k
    generalize sub (restK l) l k = S at *
    generalize numM l k = M at *
    generalize entL l ((k : Int) + 1) = x at *
    repeat (refine stp rfl ?_ ?_;·repeat' constructor)
    apply qst;exact rfl;exact rfl;exact q_idxm rfl rfl rfl rfl rfl (by omega) hx rfl
    repeat (refine stp rfl ?_ ?_;·repeat' constructor)
    (first | refine ps_split rfl rfl (fun h => ?_) (fun h => ?_) | refine pq_split rfl rfl (fun h => ?_) (fun h => ?_) | refine p3_split rfl rfl (fun h => ?_) (fun h => ?_))
    · have g8 : x.op = 8 := by simpa using h
      have hkf : ¬ restK l k = true := by rw [hK, decide_eq_true g8]; simp
      rw [if_neg hkf] at hs hm
      repeat (refine stp rfl ?_ ?_;·repeat' constructor)
      exact ⟨k + 1, hlt, by omega, rfl, by rw [hs]; rfl, rfl, rfl, rfl, i64_next (by omega) (by omega), by rw [hs]; rfl, by rw [hm]; rfl, trivial⟩
    have g8 : ¬ x.op = 8 := by simpa using h
    clear h
    rw [decide_eq_false g8] at hK
    generalize liveB l ((k : Int) + 1) = lv at *
    repeat (refine stp rfl ?_ ?_;·repeat' constructor)
    rw [hw]
    apply qst;exact rfl;exact rfl;exact q_callP rfl (hv) rfl (by repeat' constructor) rfl rfl
    cases lv with
    | false =>
      have hkf : ¬ restK l k = true := by rw [hK]; simp
      rw [if_neg hkf] at hs hm
      repeat (refine stp rfl ?_ ?_;·repeat' constructor)
      exact ⟨k + 1, hlt, by omega, rfl, by rw [hs]; rfl, rfl, rfl, rfl, i64_next (by omega) (by omega), by rw [hs]; rfl, by rw [hm]; rfl, trivial⟩
    | true =>
    have hkt : restK l k = true := by rw [hK]; rfl
    rw [if_pos hkt] at hs hm
    have hag := hag hkt
    have hkap := hkap hkt
    repeat (refine stp rfl ?_ ?_;·repeat' constructor)
    by_cases hp : 0 < x.ref
    · have hag := hag hp
      have hrn : renum (restK l) x = ⟨x.op, x.day, x.order, x.item, x.ship, x.who, x.amount, aget M x.ref, x.role⟩ := by
        rw [renum, if_pos hp, hag]
      rw [hrn] at hs
      refine pw_cond rfl (fun h => ?_) (fun h => ?_)
      · clear h
        repeat (refine stp rfl ?_ ?_;·repeat' constructor)
        apply qst;exact rfl;exact rfl;exact q_lookG none rfl rfl rfl rfl rfl zone3 rfl rfl rfl rfl rfl rfl (keyedG_kv M)
        rw [mval_kv]
        repeat (refine stp rfl ?_ ?_;·repeat' constructor)
        apply qst;exact rfl;exact rfl;exact q_slit rfl rfl rfl rfl rfl rfl rfl rfl rfl rfl (by repeat' constructor) rfl
        repeat (refine stp rfl ?_ ?_;·repeat' constructor)
        refine ps_run (o_app 0 rfl rfl rfl rfl rfl rfl rfl rfl rfl rfl rfl (by repeat' constructor) (by intro row hr; first | (simp at hr; subst hr; rfl) | simp at hr) rfl rfl (by simp; omega) (by simp; omega) ?_)
        repeat (refine stp rfl ?_ ?_;·repeat' constructor)
        rw [hw]
        refine ps_run0 (o_mset 0 rfl rfl rfl rfl rfl rfl rfl rfl rfl (keyed_kv M) rfl rfl ?_)
        rw [show ∀ v : Int, nrm 0 (PV.int .i64 v) = I v from fun _ => rfl, mput_kv]
        repeat (refine stp rfl ?_ ?_;·repeat' constructor)
        refine ⟨k + 1, hlt, by omega, rfl, ?_, rfl, rfl, rfl, i64_next (by omega) (by omega), ?_, ?_, trivial⟩
        · rw [hs]; exact als_snoc ePost 3 1 S (⟨x.op, x.day, x.order, x.item, x.ship, x.who, x.amount, aget M x.ref, x.role⟩ : SPost)
        · rw [hs]; exact cont_snoc ePost 1 42 9 0 S (⟨x.op, x.day, x.order, x.item, x.ship, x.who, x.amount, aget M x.ref, x.role⟩ : SPost)
        · rw [hm, hkap, ← hsl]
          simp
          rfl
      · exact absurd (of_decide_eq_false h) (by omega)
    · have hrn : renum (restK l) x = x := by rw [renum, if_neg hp]
      rw [hrn] at hs
      refine pw_cond rfl (fun h => ?_) (fun h => ?_)
      · exact absurd (of_decide_eq_true h) (by omega)
      · clear h
        repeat (refine stp rfl ?_ ?_;·repeat' constructor)
        apply qst;exact rfl;exact rfl;exact q_slit rfl rfl rfl rfl rfl rfl rfl rfl rfl rfl (by repeat' constructor) rfl
        repeat (refine stp rfl ?_ ?_;·repeat' constructor)
        refine ps_run (o_app 0 rfl rfl rfl rfl rfl rfl rfl rfl rfl rfl rfl (by repeat' constructor) (by intro row hr; first | (simp at hr; subst hr; rfl) | simp at hr) rfl rfl (by simp; omega) (by simp; omega) ?_)
        repeat (refine stp rfl ?_ ?_;·repeat' constructor)
        rw [hw]
        refine ps_run0 (o_mset 0 rfl rfl rfl rfl rfl rfl rfl rfl rfl (keyed_kv M) rfl rfl ?_)
        rw [show ∀ v : Int, nrm 0 (PV.int .i64 v) = I v from fun _ => rfl, mput_kv]
        repeat (refine stp rfl ?_ ?_;·repeat' constructor)
        refine ⟨k + 1, hlt, by omega, rfl, ?_, rfl, rfl, rfl, i64_next (by omega) (by omega), ?_, ?_, trivial⟩
        · rw [hs]; exact als_snoc ePost 3 1 S x
        · rw [hs]; exact cont_snoc ePost 1 42 9 0 S x
        · rw [hm, hkap, ← hsl]
          simp
          rfl
  · have hz : k = l.length := by have := of_decide_eq_false h; omega
    subst hz
    repeat (refine stp rfl ?_ ?_;·repeat' constructor)
    exact end1f rfl rfl rfl ⟨rfl, rfl, rfl⟩ rfl
end Go.Pv

/- Mod; the book that is loaded, as one's own. -/
set_option maxHeartbeats 2000000
namespace Go.Pv
attribute [local irreducible] PWP POps PQuiet PSem XThen XBlock RetPost InlPost
open Go.Proofs

def modZ (n m : Int) : Int := if n.tmod m < 0 then n.tmod m + m else n.tmod m
theorem modZ_bounds {n m : Int} (h : 0 < m) : 0 ≤ modZ n m ∧ modZ n m < m := by
  have h1 := Int.tmod_lt_of_pos n h
  have h2 := Int.lt_tmod_of_pos n h
  rw [modZ]
  split <;> omega
theorem mod_ret (n m : Int) (h : 0 < m) (h2 : m ≤ 1000) : Ret Tryd.prog .shared 12 [I n, I m] (I (modZ n m)) := by
  have h1 := Int.tmod_lt_of_pos n h
  have h3 := Int.lt_tmod_of_pos n h
  have hw : n.tmod m < 0 → IntKind.wrap .i64 (n.tmod m + m) = n.tmod m + m := fun h => wrap_i64 (by omega) (by omega)
  rw [modZ]
  refine Ret.of_pwp layOk mixed Go.Proofs.Tryd.func12 rfl (by decide) rfl rfl ?_
  repeat (refine stp rfl ?_ ?_;·repeat' constructor)
  refine ps_v rfl (show ¬ m = 0 by omega) ?_
  generalize n.tmod m = t at *
  repeat (refine stp rfl ?_ ?_;·repeat' constructor)
  refine pw_cond rfl (fun h => ?_) (fun h => ?_)
  · have h0 := of_decide_eq_true h
    rw [if_pos h0]
    repeat (refine stp rfl ?_ ?_;·repeat' constructor)
    rw [hw h0]
    repeat (refine stp rfl ?_ ?_;·repeat' constructor)
    exact end1i rfl rfl rfl
  · have h0 := of_decide_eq_false h
    rw [if_neg h0]
    repeat (refine stp rfl ?_ ?_;·repeat' constructor)
    exact end1i rfl rfl rfl
theorem inl_end3O {L : Lay} {fn : Func} {K : (Nat → Nat × Option Cont) → PV → Prop} {s : St} {t1 t2 t3 : Nat} {v1 v2 v3 : PV} {e : Exit} (owns : List (Nat × Nat × Cont)) (he : e = .ret ∨ e = .normal) (h : fn.results.toList = [.tmp t1, .tmp t2, .tmp t3]) (h1 : s.reg t1 = v1) (h2 : s.reg t2 = v2) (h3 : s.reg t3 = v3) (ho : FitO s owns)
    (hk : ∀ s1 : St, K (s1.over [] owns).own (.tup [v1, v2, v3])) : InlPost L fn (fun s' r => K s'.own r) e s := by
  have hk := hk s
  rw [Fit.over (l := []) ho] at hk
  rcases he with rfl | rfl <;>
  · unfold InlPost
    refine ⟨[s.reg t1, s.reg t2, s.reg t3], True ∧ True ∧ True ∧ True, by rw [h]; rfl, ⟨trivial, trivial, trivial, trivial⟩, ?_⟩
    rw [h1, h2, h3]; exact hk
theorem acc_at {l : List SPost} (hA : Acc l) {k : Nat} {x : SPost} (hx : l[k]? = some x) : refusalR (l.take k) x = 0 ∧ cleanP x = x := hA.at_ k x hx
theorem acc_take {l : List SPost} (hA : Acc l) : ∀ k : Nat, k ≤ l.length → Acc (l.take k)
  | 0, _ => by simpa using Acc.nil
  | k + 1, hk => by
    obtain ⟨x, hx⟩ := get_lt (show k < l.length by omega)
    obtain ⟨h1, h2⟩ := acc_at hA hx
    have := (acc_take hA k (by omega)).snoc h1
    rw [take_snoc hx]
    rwa [h2] at this
set_option maxRecDepth 20000 in
theorem load_inl {K : St → Prop} {s : St} {d : Nat} {x : Operand} {tys : Array TypeId} {ty : TypeId} {pos : String} {af : Array Edge} (l : List SPost) (hA : Acc l) (hx : s.ev x = .fsl (l.map ePost))
    (hK : ∀ (s1 : St) (g1 g2 g3 g5 g62 : Nat), K (({ reg := s.reg, own := (s1.over [] (bkO g1 g2 g3 g5 g62 l)).own } : St).putR d (.tup [.ptr 5 g5 0 0, I l.length, I 0]))) :
    Sm Tryd.prog lay.get s ⟨some d, .call ⟨.value (.func 16), #[x], tys⟩, ty, pos, af, none⟩ K := by
  have hll : ((l.map ePost).length : Int) = l.length := by simp
  have hlw := hA.ok.wf.len
  refine sm_inline layOk rfl rfl Tryd.func16 rfl (by decide) rfl rfl ?_
  show PWP _ _ _ _ (callSt s (([x] : List Operand).map s.ev ++ []))
  rw [show (([x] : List Operand).map s.ev ++ ([] : List PV)) = [.fsl (l.map ePost)] by simp [hx]]
  ((repeat (first | refine ps_nil ?_ | refine pq_nil ?_ | refine x_norm ?_ | refine pw_seq ?_)); refine pw_region ?_)
  refine ps_v rfl trivial ?_
  refine ps_v rfl trivial ?_
  refine ps_v rfl trivial ?_
  refine ps_nil ?_
  ((repeat (first | refine x_norm ?_ | refine pw_seq ?_)); refine pw_regionS 0 ?_)
  refine ps_nil ?_
  refine psem_sm rfl (new_inl fun s1 g1 g2 g3 g5 => ?_)
  refine psem_ops ?_
  refine ps_v rfl trivial ?_
  refine ps_nil ?_
  refine x_norm ?_
  refine pw_ghost (Ghost.moveC (k := 3) (k' := 1003) (k0 := 5) (i := 0) (j := 3) rfl rfl rfl rfl rfl rfl rfl rfl rfl rfl) ?_
  refine pw_ghost (Ghost.nilcell (k := 62) (k0 := 5) (i := 0) (j := 0) 42 9 0 rfl rfl rfl rfl rfl rfl rfl) ?_
  repeat (refine stp rfl ?_ ?_;·repeat' constructor)
  rw [hll]
  refine pw_loop (fun k => k ≤ l.length) (fun k => [(0, .fsl (l.map ePost)), (5, .ptr 5 g5 0 0), (11, .fsl (l.map ePost)), (12, I l.length), (13, I k)]) (fun k => bkO g1 g2 ((s1.own 1003).1 + 1) g5 ((s1.own 62).1 + 1) (l.take k)) (fun k => l.length - k) 0 (Nat.zero_le _) ⟨rfl, rfl, rfl, rfl, rfl, rfl, rfl, rfl, rfl, rfl, trivial⟩ ?_
  generalize (s1.own 1003).1 + 1 = g13
  generalize (s1.own 62).1 + 1 = g62
  intro k s2 hk
  have hk : k ≤ l.length := hk
  have hW := (acc_take hA k hk).ok.wf
  repeat (refine stp rfl ?_ ?_;·repeat' constructor)
  refine pw_cond rfl (fun h => ?_) (fun h => ?_)
  · have hlt : k < l.length := by have := of_decide_eq_true h; omega
    clear h
    obtain ⟨y, hy⟩ := get_lt hlt
    obtain ⟨hr, hc⟩ := acc_at hA hy
    repeat (refine stp rfl ?_ ?_;·repeat' constructor)
    apply qst;exact rfl;exact rfl;exact q_idxmF rfl rfl rfl rfl rfl (by omega) hy rfl
    iterate 4 (refine stp rfl ?_ ?_;·repeat' constructor)
    refine ps_nil ?_
    ((repeat (first | refine x_norm ?_ | refine pw_seq ?_)); refine pw_regionS 2 ?_)
    refine ps_v rfl trivial ?_
    refine ps_v rfl rfl ?_
    refine ps_nil ?_
    refine psem_sm rfl (post_inl (g1 := g1) (g2 := g2) (g3 := g13) (g5 := g5) (g62 := g62) (l.take k) hW y rfl rfl ⟨rfl, rfl, rfl, rfl, rfl, trivial⟩ (fun s3 hne => absurd hr hne) (fun s3 h0 => ?_))
    refine psem_ops ?_
    have htk : l.take (k + 1) = l.take k ++ [cleanP y] := by rw [take_snoc hy, hc]
    repeat (refine stp rfl ?_ ?_;·repeat' constructor)
    refine ⟨k + 1, hlt, by omega, ?_⟩
    rw [htk]
    exact ⟨rfl, rfl, rfl, rfl, i64_next (by omega) (by omega), rfl, rfl, rfl, rfl, rfl, trivial⟩
  · have hz : k = l.length := by have := of_decide_eq_false h; omega
    subst hz
    rw [List.take_length]
    repeat (refine stp rfl ?_ ?_;·repeat' constructor)
    refine inl_end3O (v1 := .ptr 5 g5 0 0) (v2 := I l.length) (v3 := I 0) (K := fun o r => K (({ reg := s.reg, own := o } : St).putR d r)) (bkO g1 g2 g13 g5 g62 l) (.inl rfl) rfl rfl ?_ rfl ⟨rfl, rfl, rfl, rfl, rfl, trivial⟩ fun s1 => hK s1 _ _ _ _ _
    exact congrArg I hll
/-- A list of one's own, given up: data from now on. -/
theorem Ghost.giveL {s : St} {k g t n : Nat} {c : Cont} (ho : s.own k = (g, some c)) (hc : c.kind = 0) (hr : s.reg t = .als k g 0 n) (hn : n = c.rows.length) : Ghost s ((s.setOwn k (g + 1) none).putR t (.fsl c.rows)) := by
  intro C a w hX ⟨γ, h⟩
  subst hn
  obtain ⟨h1, hle, hfr⟩ := h.drop hX ho
  refine ⟨γ, h1.defers, h1.size, fun r => ?_, h1.sites, h1.inj, h1.base, h1.below, h1.top, h1.kept⟩
  show Rep _ (bif Nat.beq r t then _ else (s.setOwn k (g + 1) none).reg r) _
  by_cases hrt : r = t
  · subst hrt
    have hp := h.regs r
    rw [hr] at hp
    simp only [Nat.beq_refl, cond_true]
    exact .fsl (hfr hc _ hp)
  · rw [nbeq_ne hrt]; exact h1.regs r
set_option maxRecDepth 20000 in
theorem loaded_inl {K : St → Prop} {s : St} {d : Nat} {x : Operand} {tys : Array TypeId} {ty : TypeId} {pos : String} {af : Array Edge} (l : List SPost) (hl : l.length ≤ 400) (hx : s.ev x = .sl (l.map ePost))
    (hK : ∀ (s1 : St) (g1 g2 g3 g5 g62 : Nat), K (({ reg := s.reg, own := (s1.over [] (bkO g1 g2 g3 g5 g62 (accR [] l))).own } : St).putR d (.tup [.ptr 5 g5 0 0, .fsl ((accR [] l).map ePost)]))) :
    Sm Tryd.prog lay.get s ⟨some d, .call ⟨.value (.func 8), #[x], tys⟩, ty, pos, af, none⟩ K := by
  have hll : ((l.map ePost).length : Int) = l.length := by simp
  refine sm_inline layOk rfl rfl Tryd.func8 rfl (by decide) rfl rfl ?_
  show PWP _ _ _ _ (callSt s (([x] : List Operand).map s.ev ++ []))
  rw [show (([x] : List Operand).map s.ev ++ ([] : List PV)) = [.sl (l.map ePost)] by simp [hx]]
  ((repeat (first | refine ps_nil ?_ | refine pq_nil ?_ | refine x_norm ?_ | refine pw_seq ?_)); refine pw_region ?_)
  refine ps_v rfl trivial ?_
  refine ps_v rfl trivial ?_
  ((repeat (first | refine ps_nil ?_ | refine pq_nil ?_ | refine x_norm ?_ | refine pw_seq ?_)); refine pw_region ?_)
  refine ps_v rfl trivial ?_
  refine ps_nil ?_
  refine x_norm ?_
  refine pw_ghost (Ghost.nilreg (k := 4) (t := 4) 42 9 0 rfl rfl) ?_
  repeat (refine stp rfl ?_ ?_;·repeat' constructor)
  refine pw_loop (fun k => k ≤ l.length) (fun k => [(0, .sl (l.map ePost)), (4, .als 4 (((s.own 4).1 + 1) + (accR [] (l.take k)).length) 0 ((accR [] (l.take k)).map ePost).length), (5, I k)]) (fun k => [(4, ((s.own 4).1 + 1) + (accR [] (l.take k)).length, ⟨42, 9, (accR [] (l.take k)).map ePost, 0⟩)]) (fun k => l.length - k) 0 (Nat.zero_le _) ⟨rfl, rfl, rfl, rfl, trivial⟩ ?_
  generalize (s.own 4).1 + 1 = g4
  intro k s2 hk
  have hk : k ≤ l.length := hk
  repeat (refine stp rfl ?_ ?_;·repeat' constructor)
  rw [hll]
  refine pw_cond rfl (fun h => ?_) (fun h => ?_)
  · have hlt : k < l.length := by have := of_decide_eq_true h; omega
    clear h
    obtain ⟨y, hy⟩ := get_lt hlt
    have hs := accR_snoc (l.take k) [] y
    rw [← take_snoc hy] at hs
    have hacc := (accR_acc (l := l.take k) Acc.nil).ok.wf
    have hr := refusal_ref (accR [] (l.take k)) hacc y
    have hal : (accR [] (l.take k)).length ≤ 400 := hacc.len
    generalize accR [] (l.take k) = m at *
    repeat (refine stp rfl ?_ ?_;·repeat' constructor)
    apply qst;exact rfl;exact rfl;exact q_idxm rfl rfl rfl rfl rfl (by omega) hy rfl
    repeat (refine stp rfl ?_ ?_;·repeat' constructor)
    apply qst;exact rfl;exact rfl;exact q_callP rfl (hr) rfl (by repeat' constructor) rfl rfl
    repeat (refine stp rfl ?_ ?_;·repeat' constructor)
    refine pw_cond rfl (fun h => ?_) (fun h => ?_)
    · have h0 := of_decide_eq_true h
      have hc := clean_ref y (checkE_op (refusalR_zero h0).1).1
      rw [if_pos h0] at hs
      repeat (refine stp rfl ?_ ?_;·repeat' constructor)
      apply qst;exact rfl;exact rfl;exact q_idxm rfl rfl rfl rfl rfl (by omega) hy rfl
      repeat (refine stp rfl ?_ ?_;·repeat' constructor)
      apply qst;exact rfl;exact rfl;exact q_call rfl (hc) rfl (by repeat' constructor) rfl
      repeat (refine stp rfl ?_ ?_;·repeat' constructor)
      apply qst;exact rfl;exact rfl;exact q_slit rfl rfl rfl rfl rfl rfl rfl rfl rfl rfl (by repeat' constructor) rfl
      repeat (refine stp rfl ?_ ?_;·repeat' constructor)
      refine ps_run (o_app 0 rfl rfl rfl rfl rfl rfl rfl rfl rfl rfl rfl (by repeat' constructor) (by intro row hr; first | (simp at hr; subst hr; rfl) | simp at hr) rfl rfl (by simp; omega) (by simp; omega) ?_)
      repeat (refine stp rfl ?_ ?_;·repeat' constructor)
      refine ⟨k + 1, hlt, by omega, rfl, ?_, i64_next (by omega) (by omega), ?_, trivial⟩
      · rw [hs]; exact als_snoc ePost 4 g4 m (cleanP y)
      · rw [hs]; exact cont_snoc ePost g4 42 9 0 m (cleanP y)
    · have h0 := of_decide_eq_false h
      rw [if_neg h0] at hs
      repeat (refine stp rfl ?_ ?_;·repeat' constructor)
      exact ⟨k + 1, hlt, by omega, rfl, by rw [hs]; rfl, i64_next (by omega) (by omega), by rw [hs]; rfl, trivial⟩
  · have hz : k = l.length := by have := of_decide_eq_false h; omega
    subst hz
    clear h
    rw [List.take_length]
    have hacc := accR_acc (l := l) Acc.nil
    have hml : ((((accR [] l).map ePost).length : Nat) : Int) = (accR [] l).length := by simp
    have hlen := hacc.ok.wf.len
    generalize accR [] l = m at *
    repeat (first | refine pw_exit ?_ | refine pw_skip ?_ | refine x_norm ?_ | refine x_exit ?_ | refine xb_norm ?_ | refine xb_here ?_ | refine xb_away rfl ?_)
    refine pw_ghost (Ghost.giveL (k := 4) (t := 4) rfl rfl rfl rfl) ?_
    ((repeat (first | refine x_norm ?_ | refine pw_seq ?_)); refine pw_regionS 1 ?_)
    first | refine ps_v rfl trivial ?_ | refine ps_v rfl rfl ?_
    refine ps_nil ?_
    refine psem_sm rfl (load_inl m hacc rfl (fun s3 g1 g2 g3 g5 g62 => ?_))
    refine psem_ops ?_
    repeat (refine stp rfl ?_ ?_;·repeat' constructor)
    rw [hml]
    refine pw_cond rfl (fun h => ?_) (fun h => ?_)
    · exact absurd h (by simp)
    · repeat (refine stp rfl ?_ ?_;·repeat' constructor)
      exact inl_end2O (v1 := .ptr 5 g5 0 0) (v2 := .fsl (m.map ePost)) (K := fun o r => K (({ reg := s.reg, own := o } : St).putR d r)) (bkO g1 g2 g3 g5 g62 m) (.inl rfl) rfl rfl rfl ⟨rfl, rfl, rfl, rfl, rfl, trivial⟩ fun s1 => hK s1 _ _ _ _ _
end Go.Pv

/- Withdrawing: what stays, in plain words. -/
set_option maxHeartbeats 2000000
namespace Go.Pv
attribute [local irreducible] PWP POps PQuiet PSem XThen XBlock RetPost InlPost
open Go.Proofs

def gonS (m : List SPost) (n : Int) (G : List Bool) (k : Nat) : Bool :=
  decide ((k : Int) + 1 = n) || (decide (0 < supNo m (entL m ((k : Int) + 1))) && G.getD (supNo m (entL m ((k : Int) + 1))).toNat false) || (decide ((entL m ((k : Int) + 1)).op = 8) && G.getD (entL m ((k : Int) + 1)).ref.toNat false)
/-- Which entries (by number) are gone when one is withdrawn, as the law reckons it: a list of truths, of which the first is of no entry. -/
def gonG (m : List SPost) (n : Int) : Nat → List Bool
  | 0 => List.replicate (m.length + 1) false
  | k + 1 => (gonG m n k).set (k + 1) (gonS m n (gonG m n k) k)
def kptK (m : List SPost) (n : Int) (k : Nat) : Bool := !(gonG m n m.length).getD (k + 1) false
theorem gonG_len (m : List SPost) (n : Int) : ∀ k, (gonG m n k).length = m.length + 1
  | 0 => by simp [gonG]
  | k + 1 => by rw [gonG, List.length_set, gonG_len m n k]
theorem gonG_step (m : List SPost) (n : Int) (k j : Nat) (h : j ≠ k + 1) : (gonG m n (k + 1)).getD j false = (gonG m n k).getD j false := by
  rw [gonG, List.getD_eq_getElem?_getD, List.getD_eq_getElem?_getD, List.getElem?_set_ne (fun e => h e.symm)]
theorem gonG_stay (m : List SPost) (n : Int) {j k : Nat} (hj : j ≤ k) : ∀ d : Nat, (gonG m n (k + d)).getD j false = (gonG m n k).getD j false
  | 0 => rfl
  | d + 1 => by rw [← Nat.add_assoc, gonG_step m n (k + d) j (by omega), gonG_stay m n hj d]
theorem gonG_fin (m : List SPost) (n : Int) {j k : Nat} (hj : j ≤ k) (hk : k ≤ m.length) : (gonG m n m.length).getD j false = (gonG m n k).getD j false := by
  have := gonG_stay m n hj (m.length - k)
  rwa [show k + (m.length - k) = m.length by omega] at this
theorem gonG_at {m : List SPost} (n : Int) {k : Nat} (hk : k < m.length) : (gonG m n (k + 1)).getD (k + 1) false = gonS m n (gonG m n k) k := by
  rw [gonG, List.getD_eq_getElem?_getD, List.getElem?_set_self (by rw [gonG_len]; omega)]; rfl
theorem gon_kpt {m : List SPost} {n s : Int} (h1 : 1 ≤ s) {k : Nat} (hs : s ≤ k) (hk : k ≤ m.length) : (gonG m n k).getD s.toNat false = !kptK m n (s - 1).toNat := by
  obtain ⟨j, e1, e2⟩ := pred_nat h1
  rw [kptK, Bool.not_not, e2, show s.toNat = j + 1 by omega, gonG_fin m n (j := j + 1) (k := k) (by omega) hk]
theorem kpt_iff {m : List SPost} (hO : Ok m) {n : Int} {k : Nat} (hk : k < m.length) : kptK m n k = true ↔ (k : Int) + 1 ≠ n ∧ (1 ≤ supNo m (entL m ((k : Int) + 1)) → kptK m n (supNo m (entL m ((k : Int) + 1)) - 1).toNat = true) ∧
    ((entL m ((k : Int) + 1)).op = 8 → kptK m n ((entL m ((k : Int) + 1)).ref - 1).toNat = true) := by
  have hlt := hO.wf.lt (n := (k : Int) + 1) (by omega)
  have hpos := (hO.pos _ _ (ent_get hk)).2.2.1
  rw [kptK, gonG_fin m n (j := k + 1) (k := k + 1) (Nat.le_refl _) hk, gonG_at n hk, gonS]
  simp only [Bool.not_eq_true', Bool.or_eq_false_iff, decide_eq_false_iff_not]
  have h2 : ((decide (0 < supNo m (entL m ((k : Int) + 1))) && (gonG m n k).getD (supNo m (entL m ((k : Int) + 1))).toNat false) = false) ↔ (1 ≤ supNo m (entL m ((k : Int) + 1)) → kptK m n (supNo m (entL m ((k : Int) + 1)) - 1).toNat = true) := by
    by_cases hs : 1 ≤ supNo m (entL m ((k : Int) + 1))
    · rw [gon_kpt hs (by omega) (by omega), decide_eq_true (show 0 < supNo m (entL m ((k : Int) + 1)) by omega), Bool.true_and]
      simp [hs]
    · rw [decide_eq_false (show ¬ 0 < supNo m (entL m ((k : Int) + 1)) by omega), Bool.false_and]
      simp [hs]
  have h3 : ((decide ((entL m ((k : Int) + 1)).op = 8) && (gonG m n k).getD (entL m ((k : Int) + 1)).ref.toNat false) = false) ↔ ((entL m ((k : Int) + 1)).op = 8 → kptK m n ((entL m ((k : Int) + 1)).ref - 1).toNat = true) := by
    by_cases h8 : (entL m ((k : Int) + 1)).op = 8
    · have := hpos (by omega)
      rw [gon_kpt this.1 this.2 (by omega), decide_eq_true h8, Bool.true_and]
      simp [h8]
    · rw [decide_eq_false h8, Bool.false_and]
      simp [h8]
  rw [h2, h3, and_assoc]
theorem kpt_ok {m : List SPost} (hO : Ok m) {n : Int} (h8 : (entL m n).op ≠ 8) : SubOk m (kptK m n) := by
  refine ⟨fun k hk hkk hs => ((kpt_iff hO hk).1 hkk).2.1 hs, fun k hk hkk ho => ((kpt_iff hO hk).1 hkk).2.2 ho, fun k hk ho hr => (kpt_iff hO hk).2 ⟨fun e => ?_, fun hs => ?_, fun _ => hr⟩⟩
  · rw [e] at ho; exact h8 ho
  · rw [supNo, if_neg (by omega), if_neg (by omega), if_neg (by omega)] at hs
    omega
theorem gone_app (m : List SPost) (w : SPost) (hw : w.op = 8) (x : Int) : goneB (m ++ [w]) x = (goneB m x || decide (w.ref = x)) := by
  rw [goneB, List.any_append, goneB]
  simp [hw]
theorem live_kpt {m : List SPost} {w : SPost} (hA : Acc m) (hA2 : Acc (m ++ [w])) (hw : w.op = 8) : ∀ (b : Nat) {k : Nat}, k < b → k < m.length → (entL m ((k : Int) + 1)).op ≠ 8 → liveB (m ++ [w]) ((k : Int) + 1) = (liveB m ((k : Int) + 1) && kptK m w.ref k)
  | 0, k, h, _, _ => by omega
  | b + 1, k, hb, hk, h8 => by
    have hO := hA.ok
    have hlt := hO.wf.lt (n := (k : Int) + 1) (by omega)
    rw [liveB_pos hA2.ok.wf (by omega), liveB_pos hO.wf (by omega), entL_app w (by omega) (by omega), hO.sup_snoc w (ent_get hk), gone_app m w hw]
    have hkpt : kptK m w.ref k = (!decide (w.ref = (k : Int) + 1) && (decide (¬ 1 ≤ supNo m (entL m ((k : Int) + 1))) || kptK m w.ref (supNo m (entL m ((k : Int) + 1)) - 1).toNat)) := by
      rw [Bool.eq_iff_iff, kpt_iff hO hk]
      simp only [Bool.and_eq_true, Bool.not_eq_true', decide_eq_false_iff_not, Bool.or_eq_true, decide_eq_true_eq]
      constructor
      · rintro ⟨g1, g2, _⟩
        refine ⟨fun e => g1 e.symm, ?_⟩
        by_cases hs : 1 ≤ supNo m (entL m ((k : Int) + 1))
        · exact .inr (g2 hs)
        · exact .inl hs
      · rintro ⟨g1, g2⟩
        exact ⟨fun e => g1 e.symm, fun hs => g2.resolve_left (fun h => h hs), fun h => absurd h h8⟩
    rw [hkpt]
    by_cases hs : 1 ≤ supNo m (entL m ((k : Int) + 1))
    · have hop := sup_op (hA.kinds k hk) hs
      obtain ⟨j, e1, e2⟩ := pred_nat hs
      rw [e1] at hop hlt ⊢
      have ih := live_kpt hA hA2 hw b (k := j) (by omega) (by omega) hop
      rw [ih, show ((j : Int) + 1 - 1).toNat = j by omega, decide_eq_false (show ¬ ¬ 1 ≤ (j : Int) + 1 by omega)]
      cases goneB m ((k : Int) + 1) <;> cases decide (w.ref = (k : Int) + 1) <;> cases liveB m ((j : Int) + 1) <;> rfl
    · rw [liveB_zero (by omega), liveB_zero (by omega), decide_eq_true hs]
      cases goneB m ((k : Int) + 1) <;> cases decide (w.ref = (k : Int) + 1) <;> rfl
/-! ### One choice behind another -/
theorem kap_comp (K K2 : Nat → Bool) : ∀ k, kap K2 (kap K k) = kap (fun j => K j && K2 (kap K j)) k
  | 0 => rfl
  | k + 1 => by
    have ih := kap_comp K K2 k
    by_cases hk : K k = true
    · rw [kap_yes hk]
      by_cases h2 : K2 (kap K k) = true
      · rw [kap_yes h2, kap_yes (K := fun j => K j && K2 (kap K j)) (by simp [hk, h2]), ih]
      · rw [kap_no h2, kap_no (K := fun j => K j && K2 (kap K j)) (by simp [hk, h2]), ih]
    · rw [kap_no hk, kap_no (K := fun j => K j && K2 (kap K j)) (by simp [hk]), ih]
theorem renum_comp {m : List SPost} {K : Nat → Bool} (hO : Ok m) (hK : SubOk m K) (K2 : Nat → Bool) {k : Nat} (hk : k < m.length) (hkk : K k = true) :
    renum K2 (renum K (entL m ((k : Int) + 1))) = renum (fun j => K j && K2 (kap K j)) (entL m ((k : Int) + 1)) := by
  have hr := hO.refs k hk
  by_cases h0 : (entL m ((k : Int) + 1)).ref = 0
  · rw [renum_zero K h0, renum_zero _ h0, renum_zero _ h0]
  · have ho : (entL m ((k : Int) + 1)).op = 4 ∨ (entL m ((k : Int) + 1)).op = 5 ∨ (entL m ((k : Int) + 1)).op = 8 := by
      by_cases h' : (entL m ((k : Int) + 1)).op = 4 ∨ (entL m ((k : Int) + 1)).op = 5 ∨ (entL m ((k : Int) + 1)).op = 8
      · exact h'
      · have := (hO.pos _ _ (ent_get hk)).2.2.2 h'; omega
    obtain ⟨g1, g2, g3⟩ := hK.ref hO hk hkk ho
    have hc := kap_comp K K2 (entL m ((k : Int) + 1)).ref.toNat
    obtain ⟨j, e1, e2⟩ := pred_nat g1
    rw [e2] at g3
    have hky := kap_yes g3
    rw [show j + 1 = (entL m ((k : Int) + 1)).ref.toNat by omega] at hky
    generalize entL m ((k : Int) + 1) = p at *
    obtain ⟨op, day, o, i, s, w, a, r, ro⟩ := p
    simp only at g1 hc hky
    simp only [renum]
    rw [if_pos (show 0 < r by omega), if_pos (show 0 < r by omega)]
    simp only
    rw [if_pos (by omega), ← hc, Int.toNat_natCast]
theorem sub_comp {m : List SPost} {K : Nat → Bool} (hO : Ok m) (hK : SubOk m K) (K2 : Nat → Bool) : ∀ n, n ≤ m.length → sub K2 (sub K m m.length) (kap K n) = sub (fun j => K j && K2 (kap K j)) m n
  | 0, _ => rfl
  | n + 1, h => by
    have ih := sub_comp hO hK K2 n (by omega)
    by_cases hk : K n = true
    · have he := sub_ent K m (n := m.length) (k := n) (by omega) hk
      rw [kap_yes hk] at he ⊢
      have he : entL (sub K m m.length) ((kap K n : Int) + 1) = renum K (entL m ((n : Int) + 1)) := he
      rw [sub, sub, ih, he, renum_comp hO hK K2 (by omega) hk]
      simp only [hk, Bool.true_and]
    · rw [kap_no hk, sub, ih]
      simp [hk]
theorem kap_congr {K1 K2 : Nat → Bool} {n : Nat} (h : ∀ k, k < n → K1 k = K2 k) : ∀ k, k ≤ n → kap K1 k = kap K2 k
  | 0, _ => rfl
  | k + 1, hk => by rw [kap, kap, h k (by omega), kap_congr h k (by omega)]
theorem sub_congr {m : List SPost} (hO : Ok m) {K1 K2 : Nat → Bool} (h : ∀ k, k < m.length → K1 k = K2 k) : ∀ n, n ≤ m.length → sub K1 m n = sub K2 m n
  | 0, _ => rfl
  | n + 1, hn => by
    have ih := sub_congr hO h n (by omega)
    have hr := hO.refs n (by omega)
    have : renum K1 (entL m ((n : Int) + 1)) = renum K2 (entL m ((n : Int) + 1)) := by
      rw [renum, renum, kap_congr h _ (by omega)]
    rw [sub, sub, h n (by omega), ih, this]
/-- Withdrawing an entry leaves the rest that is there if it, and what depends on it, was never posted. -/
theorem withdraw_rest {m : List SPost} {w : SPost} (hA : Acc m) (hA2 : Acc (m ++ [w])) (hw : w.op = 8) (h8 : (entL m w.ref).op ≠ 8) : restL (m ++ [w]) = restL (sub (kptK m w.ref) m m.length) := by
  have hO := hA.ok
  have hK := kpt_ok hO h8
  have S := sub_law hA hK
  have e1 : restL (m ++ [w]) = sub (restK (m ++ [w])) m m.length := by
    have hl : restK (m ++ [w]) m.length = false := by rw [restK, entL_new, hw]; simp
    rw [restL, show (m ++ [w]).length = m.length + 1 by simp, sub, hl, if_neg (by simp), sub_app _ m w _ (Nat.le_refl _)]
  rw [e1, restL, sub_len, sub_comp hO hK _ _ (Nat.le_refl _)]
  refine sub_congr hO (fun k hk => ?_) _ (Nat.le_refl _)
  have hent := entL_app (l := m) (n := (k : Int) + 1) w (by omega) (by omega)
  by_cases h : (entL m ((k : Int) + 1)).op = 8
  · have h1 : restK (m ++ [w]) k = false := by rw [restK, hent, h]; simp
    rw [h1]
    by_cases hk2 : kptK m w.ref k = true
    · have he := sub_ent (kptK m w.ref) m (n := m.length) (k := k) hk hk2
      rw [kap_yes hk2] at he
      have he : entL (sub (kptK m w.ref) m m.length) ((kap (kptK m w.ref) k : Int) + 1) = renum (kptK m w.ref) (entL m ((k : Int) + 1)) := he
      rw [restK, he, (renum_same _ _).1, h]
      simp
    · simp [hk2]
  · rw [restK, hent, live_kpt hA hA2 hw (k + 1) (by omega) hk h]
    by_cases hk2 : kptK m w.ref k = true
    · have he := sub_ent (kptK m w.ref) m (n := m.length) (k := k) hk hk2
      have hv := S.live hO hK (k + 1) (by omega) hk hk2
      rw [kap_yes hk2] at he hv
      have he : entL (sub (kptK m w.ref) m m.length) ((kap (kptK m w.ref) k : Int) + 1) = renum (kptK m w.ref) (entL m ((k : Int) + 1)) := he
      have hv : liveB (sub (kptK m w.ref) m m.length) ((kap (kptK m w.ref) k : Int) + 1) = liveB m ((k : Int) + 1) := hv
      rw [restK, he, hv, (renum_same _ _).1, hk2]
      simp
    · simp [hk2]
end Go.Pv
