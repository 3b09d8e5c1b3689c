/- Texts of one hand, gathered: ShE, SfJ, SgE, SeE, SgF, ShF, SeK. -/
import Derived.Test.YtfnjhhndbgidmaaBo5
/- The reference's check of a bound. -/
set_option maxHeartbeats 2000000
namespace Go.Pv
attribute [local irreducible] PWP POps PQuiet PSem XThen XBlock RetPost InlPost
open Go.Proofs

set_option maxRecDepth 20000 in
theorem tradeOf_ref (w : SWork) (n : Str) (hw : w.trades.length ≤ 100000) : Ret Try.prog .shared 83 [.agg (eWork w), .str n] (I (idx w.trades (·.name == n))) := by
  have hml : ((w.trades.map eTrade).length : Int) = w.trades.length := by simp
  refine Ret.of_pwp layOk mixed Go.Proofs.Try.func83 rfl (by decide) rfl rfl ?_
  repeat (refine stp rfl ?_ ?_;·repeat' constructor)
  refine pw_loop (fun k => Clear w.trades (·.name == n) k) (fun k => [(1, .str n), (2, .ptr 2 1 0 0), (5, I k)]) (fun _ => [(2, 1, ⟨28, 9, [eWork w], 2⟩)]) (fun k => w.trades.length - k) 0 .zero ⟨rfl, rfl, rfl, rfl, trivial⟩ ?_
  intro k s hk
  have hkl := hk.1
  repeat (refine stp rfl ?_ ?_;·repeat' constructor)
  refine pw_cond rfl (fun h => ?_) (fun h => ?_)
  · have hlt : k < w.trades.length := by simpa using h
    clear h
    obtain ⟨t, ht⟩ := get_lt hlt
    repeat (refine stp rfl ?_ ?_;·repeat' constructor)
    apply qst;exact rfl;exact rfl;exact q_idxm rfl rfl rfl rfl rfl (by omega) ht rfl
    repeat (refine stp rfl ?_ ?_;·repeat' constructor)
    refine pw_cond rfl (fun h => ?_) (fun h => ?_)
    · have he : t.name = n := of_decide_eq_true h
      clear h
      repeat (refine stp rfl ?_ ?_;·repeat' constructor)
      exact end1i rfl rfl (by rw [idx_found ht (by simp [he]) fun j b hj hb => hk.2 j b hj hb])
    · have he : ¬ t.name = n := of_decide_eq_false h
      clear h
      repeat (refine stp rfl ?_ ?_;·repeat' constructor)
      exact ⟨k + 1, hk.succ ht (by simp [he]), by omega, rfl, rfl, i64_next (by omega) (by omega), rfl, trivial⟩
  · have hge : k = w.trades.length := by have : ¬ k < w.trades.length := by simpa using h
                                         omega
    subst hge
    clear h
    repeat (refine stp rfl ?_ ?_;·repeat' constructor)
    exact end1i rfl rfl (by rw [idx_none fun j b hb => hk.2 j b (List.getElem?_eq_some_iff.1 hb).1 hb])
def checkBR (w : SWork) (b : SBound) : Int := if (provedB w b).2 = 0 then (if (provedB w b).1 < b.days then 24 else 0) else (provedB w b).2
set_option maxRecDepth 20000 in
theorem checkBound_ref (w : SWork) (hw : Sane w) (hv : Well w) (b : SBound) (hc : b.chain.length ≤ 1000) : Ret Try.prog .shared 31 [.agg (eWork w), .agg (eBound b)] (I (checkBR w b)) := by
  have htl := hw.trades
  have hn := hw.items
  have hcl : ((b.chain.map eS).length : Int) = b.chain.length := by simp
  rw [checkBR]
  by_cases ht : b.trade = []
  · rw [provedB, if_pos ht]
    have h24 := fun n => itemOf_ret w n (by omega)
    have hnn : ∀ n, (!(w.items.map (·.name)).any (· == n)) = decide (idx w.items (·.name == n) < 0) := fun n => by
      have e := idx_nonneg w.items (·.name == n)
      rw [List.any_map]
      show (!w.items.any (·.name == n)) = _
      rw [← e]
      by_cases h0 : idx w.items (·.name == n) < 0
      · rw [decide_eq_true h0, decide_eq_false (by omega)]; rfl
      · rw [decide_eq_false h0, decide_eq_true (by omega)]; rfl
    refine Ret.of_pwp layOk mixed Go.Proofs.Try.func31 rfl (by decide) rfl rfl ?_
    repeat (refine stp rfl ?_ ?_;·repeat' constructor)
    refine pw_cond rfl (fun h => ?_) (fun h => ?_)
    · exact absurd ht (by simpa using h)
    clear h
    repeat (refine stp rfl ?_ ?_;·repeat' constructor)
    refine pw_loop (fun k => Clear b.chain (fun s => !(w.items.map (·.name)).any (· == s)) k) (fun k => [(2, .ptr 2 1 0 0), (3, .ptr 3 1 0 0), (5, I 0), (7, I k)]) (fun _ => [(2, 1, ⟨28, 9, [eWork w], 2⟩), (3, 1, ⟨60, 3, [eBound b], 2⟩)]) (fun k => b.chain.length - k) 0 .zero ⟨rfl, rfl, rfl, rfl, rfl, rfl, trivial⟩ ?_
    intro k s hk
    have hkl := hk.1
    repeat (refine stp rfl ?_ ?_;·repeat' constructor)
    refine pw_cond rfl (fun h => ?_) (fun h => ?_)
    · have hlt : k < b.chain.length := by have := of_decide_eq_true h; omega
      clear h
      obtain ⟨s', hs⟩ := get_lt hlt
      have h24 := h24 s'
      have hnn := hnn s'
      repeat (refine stp rfl ?_ ?_;·repeat' constructor)
      refine pw_draw 8 [29, 30, 31, 32, 33, 34, 35, 36] (by decide +kernel) ?_
      repeat (refine stp rfl ?_ ?_;·repeat' constructor)
      apply qst;exact rfl;exact rfl;exact q_idxm rfl rfl rfl rfl rfl (by omega) hs rfl
      repeat (refine stp rfl ?_ ?_;·repeat' constructor)
      apply qst;exact rfl;exact rfl;exact q_callP rfl (h24) rfl (by repeat' constructor) rfl rfl
      repeat (refine stp rfl ?_ ?_;·repeat' constructor)
      refine pw_cond rfl (fun h => ?_) (fun h => ?_)
      · have hneg : idx w.items (·.name == s') < 0 := of_decide_eq_true h
        rw [decide_eq_true hneg] at hnn
        have hu : chUnk w b.chain = true := any_of hs hnn
        rw [show chainBd w b.chain = (0, 6) by rw [chainBd, if_pos hu]]
        repeat (refine stp rfl ?_ ?_;·repeat' constructor)
        exact end1i rfl rfl rfl
      · have hneg : ¬ idx w.items (·.name == s') < 0 := of_decide_eq_false h
        rw [decide_eq_false hneg] at hnn
        clear h
        repeat (refine stp rfl ?_ ?_;·repeat' constructor)
        exact ⟨k + 1, hk.succ hs hnn, by omega, rfl, rfl, rfl, i64_next (by omega) (by omega), rfl, rfl, trivial⟩
    have hge : k = b.chain.length := by have := of_decide_eq_false h; omega
    subst hge
    have hu : chUnk w b.chain = false := hk.any (by simp)
    clear h
    repeat (refine stp rfl ?_ ?_;·repeat' constructor)
    refine pw_loop (fun k => Clear (List.range b.chain.length) (chBad w b.chain) k) (fun k => [(2, .ptr 2 1 0 0), (3, .ptr 3 1 0 0), (5, I ((b.chain.take k).foldl (chSumF w) 0)), (8, I k)]) (fun _ => [(2, 1, ⟨28, 9, [eWork w], 2⟩), (3, 1, ⟨60, 3, [eBound b], 2⟩)]) (fun k => b.chain.length - k) 0 .zero ⟨rfl, rfl, rfl, rfl, rfl, rfl, trivial⟩ ?_
    clear hk hkl
    intro k s1 hk
    have hkl : k ≤ b.chain.length := by have := hk.1; rwa [List.length_range] at this
    repeat (refine stp rfl ?_ ?_;·repeat' constructor)
    refine pw_cond rfl (fun h => ?_) (fun h => ?_)
    · have hlt : k < b.chain.length := by have := of_decide_eq_true h; omega
      clear h
      obtain ⟨s, hs⟩ := get_lt hlt
      obtain ⟨i, x, hix, hx, hxn, hit⟩ := it_known hu (List.mem_of_getElem? hs)
      have hio := hv.item x (List.mem_of_getElem? hx)
      have hax := hw.after x (List.mem_of_getElem? hx)
      have hb := chSum_bound hv hu (k + 1) hlt
      have hb0 := chSum_bound hv hu k (by omega)
      have hstep : (b.chain.take (k + 1)).foldl (chSumF w) 0 = (b.chain.take k).foldl (chSumF w) 0 + leastP x := by rw [take_snoc hs, List.foldl_append, ← hit]; rfl
      have hgk : b.chain.getD k [] = s := by rw [List.getD_eq_getElem?_getD, hs]; rfl
      have hrk : (List.range b.chain.length)[k]? = some k := List.getElem?_range hlt
      have h24 := h24 s
      rw [hix] at h24
      have hleast := least_ref x hio.modes.1 (by have := hio.modes; omega)
      rw [hstep] at hb
      generalize (b.chain.take k).foldl (chSumF w) 0 = sum at *
      repeat (refine stp rfl ?_ ?_;·repeat' constructor)
      refine pw_draw3 [9] [11, 12] (by decide +kernel) ?_
      repeat (refine stp rfl ?_ ?_;·repeat' constructor)
      apply qst;exact rfl;exact rfl;exact q_idxm rfl rfl rfl rfl rfl (by omega) hs rfl
      repeat (refine stp rfl ?_ ?_;·repeat' constructor)
      apply qst;exact rfl;exact rfl;exact q_callP rfl (h24) rfl (by repeat' constructor) rfl rfl
      repeat (refine stp rfl ?_ ?_;·repeat' constructor)
      apply qst;exact rfl;exact rfl;exact q_idxm rfl rfl rfl rfl rfl (by omega) hx rfl
      repeat (refine stp rfl ?_ ?_;·repeat' constructor)
      refine pw_draw 14 [55, 56, 57, 58, 59, 60, 61, 62, 63, 64, 65, 66, 67, 68] (by decide +kernel) ?_
      repeat (refine stp rfl ?_ ?_;·repeat' constructor)
      (first | refine ps_split rfl rfl (fun h => ?_) (fun h => ?_) | refine pq_split rfl rfl (fun h => ?_) (fun h => ?_) | refine p3_split rfl rfl (fun h => ?_) (fun h => ?_))
      · have hk0 : 0 < k := by have := of_decide_eq_true h; omega
        clear h
        obtain ⟨s', hs'⟩ := get_lt (show k - 1 < b.chain.length by omega)
        have hgk' : b.chain.getD (k - 1) [] = s' := by rw [List.getD_eq_getElem?_getD, hs']; rfl
        have hw1 : IntKind.i64.wrap ((k : Int) - 1) = (k - 1 : Nat) := by rw [wrap_i64 (by omega) (by omega)]; omega
        have h73 := among_ret x.after s' (by omega)
        have hbad : chBad w b.chain k = !x.after.any (· == s') := by rw [chBad, hgk, hgk', hit, decide_eq_true hk0, Bool.true_and]
        repeat (refine stp rfl ?_ ?_;·repeat' constructor)
        rw [hw1]
        apply qst;exact rfl;exact rfl;exact q_idxm (n := (((k - 1 : Nat) : Int) : Int)) rfl rfl rfl rfl rfl (by omega) hs' rfl
        repeat (refine stp rfl ?_ ?_;·repeat' constructor)
        cases ha : x.after.any (· == s') with
        | true =>
          rw [ha] at h73 hbad
          apply qst;exact rfl;exact rfl;exact q_callP rfl (h73) rfl (by repeat' constructor) rfl rfl
          repeat (refine stp rfl ?_ ?_;·repeat' constructor)
          apply qst;exact rfl;exact rfl;exact q_callP rfl (hleast) rfl (by repeat' constructor) rfl rfl
          repeat (refine stp rfl ?_ ?_;·repeat' constructor)
          refine ⟨k + 1, hk.succ hrk hbad, by omega, rfl, rfl, ?_, i64_next (by omega) (by omega), rfl, rfl, trivial⟩
          show PV.int .i64 (IntKind.i64.wrap (sum + leastP x)) = _
          rw [hstep, wrap_i64 (by omega) (by omega)]
        | false =>
          rw [ha] at h73 hbad
          have hany : (List.range b.chain.length).any (chBad w b.chain) = true := any_of hrk hbad
          rw [show chainBd w b.chain = (0, 24) by rw [chainBd, hu, if_neg (by simp), if_pos hany]]
          apply qst;exact rfl;exact rfl;exact q_callP rfl (h73) rfl (by repeat' constructor) rfl rfl
          repeat (refine stp rfl ?_ ?_;·repeat' constructor)
          exact end1i rfl rfl rfl
      · have hk0 : k = 0 := by have := of_decide_eq_false h; omega
        subst hk0
        clear h
        repeat (refine stp rfl ?_ ?_;·repeat' constructor)
        apply qst;exact rfl;exact rfl;exact q_callP rfl (hleast) rfl (by repeat' constructor) rfl rfl
        repeat (refine stp rfl ?_ ?_;·repeat' constructor)
        refine ⟨0 + 1, hk.succ hrk rfl, by omega, rfl, rfl, ?_, i64_next (by omega) (by omega), rfl, rfl, trivial⟩
        show PV.int .i64 (IntKind.i64.wrap (sum + leastP x)) = _
        rw [hstep, wrap_i64 (by omega) (by omega)]
    · have hge : k = b.chain.length := by have := of_decide_eq_false h; omega
      subst hge
      have hany := hk.any (by simp)
      rw [show chainBd w b.chain = (b.chain.foldl (chSumF w) 0, 0) by rw [chainBd, hu, if_neg (by simp), hany, if_neg (by simp)], List.take_length]
      clear h
      generalize b.chain.foldl (chSumF w) 0 = n at *
      repeat (refine stp rfl ?_ ?_;·repeat' constructor)
      refine pw_cond rfl (fun h => ?_) (fun h => ?_)
      · have hlt : n < b.days := of_decide_eq_true h
        repeat (refine stp rfl ?_ ?_;·repeat' constructor)
        exact end1i rfl rfl (by rw [if_pos rfl, if_pos hlt])
      · have hlt : ¬ n < b.days := of_decide_eq_false h
        repeat (refine stp rfl ?_ ?_;·repeat' constructor)
        exact end1i rfl rfl (by rw [if_pos rfl, if_neg hlt])
  · have h83 := tradeOf_ref w b.trade (by omega)
    rw [provedB, if_neg ht]
    by_cases hneg : idx w.trades (·.name == b.trade) < 0
    · rw [if_pos hneg]
      generalize idx w.trades (·.name == b.trade) = ix at *
      refine Ret.of_pwp layOk mixed Go.Proofs.Try.func31 rfl (by decide) rfl rfl ?_
      repeat (refine stp rfl ?_ ?_;·repeat' constructor)
      refine pw_cond rfl (fun h => ?_) (fun h => ?_)
      · clear h
        repeat (refine stp rfl ?_ ?_;·repeat' constructor)
        apply qst;exact rfl;exact rfl;exact q_callP rfl (h83) rfl (by repeat' constructor) rfl rfl
        repeat (refine stp rfl ?_ ?_;·repeat' constructor)
        refine pw_cond rfl (fun h => ?_) (fun h => ?_)
        · repeat (refine stp rfl ?_ ?_;·repeat' constructor)
          exact end1i rfl rfl rfl
        · exact absurd hneg (of_decide_eq_false h)
      · exact absurd (by simpa using h) ht
    · rw [if_neg hneg]
      obtain ⟨tr, htr, _⟩ := idx_lt (Int.not_lt.1 hneg)
      have hta : trAt w b.trade = tr := by rw [trAt, List.getD_eq_getElem?_getD, htr]; rfl
      rw [hta]
      have h82 := trade_ref w hv htr
      rw [Int.toNat_of_nonneg (Int.not_lt.1 hneg)] at h82
      generalize idx w.trades (·.name == b.trade) = ix at *
      generalize tradeB w tr = n at *
      refine Ret.of_pwp layOk mixed Go.Proofs.Try.func31 rfl (by decide) rfl rfl ?_
      repeat (refine stp rfl ?_ ?_;·repeat' constructor)
      refine pw_cond rfl (fun h => ?_) (fun h => ?_)
      · clear h
        repeat (refine stp rfl ?_ ?_;·repeat' constructor)
        apply qst;exact rfl;exact rfl;exact q_callP rfl (h83) rfl (by repeat' constructor) rfl rfl
        repeat (refine stp rfl ?_ ?_;·repeat' constructor)
        refine pw_cond rfl (fun h => ?_) (fun h => ?_)
        · exact absurd (of_decide_eq_true h) hneg
        clear h
        repeat (refine stp rfl ?_ ?_;·repeat' constructor)
        apply qst;exact rfl;exact rfl;exact q_callP rfl (h82) rfl (by repeat' constructor) rfl rfl
        repeat (refine stp rfl ?_ ?_;·repeat' constructor)
        refine pw_cond rfl (fun h => ?_) (fun h => ?_)
        · have hlt : n < b.days := of_decide_eq_true h
          repeat (refine stp rfl ?_ ?_;·repeat' constructor)
          exact end1i rfl rfl (by rw [if_pos rfl, if_pos hlt])
        · have hlt : ¬ n < b.days := of_decide_eq_false h
          repeat (refine stp rfl ?_ ?_;·repeat' constructor)
          exact end1i rfl rfl (by rw [if_pos rfl, if_neg hlt])
      · exact absurd (by simpa using h) ht
end Go.Pv

/- What a plan is to the order, and to the days. -/
set_option maxHeartbeats 2000000
namespace Go.Pv
attribute [local irreducible] PWP POps PQuiet PSem XThen XBlock RetPost InlPost
open Go.Proofs

theorem leastF_le : ∀ (l : List SMode) (a : Int), l.foldl leastF a ≤ a ∧ ∀ m ∈ l, l.foldl leastF a ≤ m.days
  | [], a => ⟨Int.le_refl _, fun m hm => by simp at hm⟩
  | m :: l, a => by
    obtain ⟨h1, h2⟩ := leastF_le l (leastF a m)
    have h3 : leastF a m ≤ a ∧ leastF a m ≤ m.days := by unfold leastF imin; split <;> omega
    rw [List.foldl_cons]
    refine ⟨by omega, fun q hq => ?_⟩
    rcases List.mem_cons.1 hq with rfl | hq
    · omega
    · exact h2 q hq
theorem leastP_le {x : SItem} {m : SMode} (h : m ∈ x.modes) : leastP x ≤ m.days := (leastF_le _ _).2 m h
theorem durF_le (B : Int) : ∀ (l : List (SItem × SPl)) (n : Int), n ≤ B → (∀ q ∈ l, q.2.on = true → endP q.1 q.2 ≤ B) → l.foldl durF n ≤ B
  | [], n, h, _ => h
  | a :: l, n, h, hl => by
    rw [List.foldl_cons]
    refine durF_le B l _ ?_ fun q hq => hl q (by simp [hq])
    unfold durF
    split
    · rw [imax_le]; exact ⟨h, hl a (by simp) ‹_›⟩
    · exact h

theorem prs_get2 {w : SWork} {l : List SPl} {k : Nat} {a : SItem × SPl} (h : (prs w l)[k]? = some a) : w.items[k]? = some a.1 ∧ l[k]? = some a.2 := by
  obtain ⟨x, p⟩ := a
  rw [prs, List.getElem?_zip_eq_some] at h
  exact h

/-- A plan: no breaches. -/
structure PlanOk (w : SWork) (l : List SPl) : Prop where
  full : Full w l
  early : ∀ i m : Nat, i < w.items.length → m < w.items.length → (m : Int) ∈ rowN w i → endP (itP w m) (slP l m) ≤ (slP l i).day
  crowd : ∀ t ∈ w.trades, (loadA w l t.name).foldl imax 0 ≤ t.crew
  last : ∀ i : Nat, i < w.items.length → endP (itP w i) (slP l i) ≤ w.last
theorem planOk_of {w : SWork} {s : List SSlot} (h : planE w s = 0) : Well w ∧ PlanOk w (placed w s) := by
  obtain ⟨h1, h2⟩ := planE_zero h
  obtain ⟨hv, hf⟩ := full_of h1
  refine ⟨hv, ?_⟩
  generalize placed w s = l at *
  have hall : ∀ p ∈ partsP w l, p = [] := List.flatten_eq_nil_iff.1 h2
  have e1 := hall (earlyP w l) (by simp [partsP])
  have e2 := hall (crowdP w l) (by simp [partsP])
  have e5 := hall (lateP w l) (by simp [partsP])
  refine ⟨hf, fun i m hi hm him => ?_, fun t ht => ?_, fun i hi => ?_⟩
  · rw [earlyP, earlyN, List.flatMap_eq_nil_iff] at e1
    have := e1 i (List.mem_range.2 hi)
    rw [List.flatMap_eq_nil_iff] at this
    have := this _ him
    unfold earlyAt at this
    split at this
    · cases this
    · omega
  · obtain ⟨i, hi, rfl⟩ := List.getElem_of_mem ht
    rw [crowdP, atN, List.flatMap_eq_nil_iff] at e2
    have := e2 i (List.mem_range.2 hi)
    rw [crowdAt, List.getElem?_eq_getElem hi] at this
    dsimp only at this
    split at this
    · cases this
    · rw [most_eq (same_A hf _)] at *
      omega
  · rw [lateP, atN, List.flatMap_eq_nil_iff] at e5
    have := e5 i (List.mem_range.2 hi)
    unfold lateAt at this
    split at this
    · cases this
    · omega
section
variable {w : SWork} {l : List SPl}
theorem PlanOk.day (h : PlanOk w l) (_hv : Well w) {i : Nat} (hi : i < w.items.length) : 0 ≤ (slP l i).day ∧ (slP l i).day + lst w i ≤ endP (itP w i) (slP l i) ∧ endP (itP w i) (slP l i) ≤ durP w l := by
  obtain ⟨x, hx⟩ := get_lt hi
  obtain ⟨p, hp⟩ := get_lt (show i < l.length by rw [h.full.len]; exact hi)
  have hok := h.full.at_ hx hp
  rw [slP_at hp, itP_at hx, lst_at hx]
  refine ⟨hok.day.1, ?_, end_le h.full hx hp⟩
  have := leastP_le (List.mem_of_getElem? hok.mode)
  unfold endP
  omega
theorem PlanOk.dur (h : PlanOk w l) (hv : Well w) : 0 ≤ durP w l ∧ durP w l ≤ 400 := by
  refine ⟨(durP_bound h.full.toPlan).1, durF_le 400 (prs w l) 0 (by omega) fun q hq _ => ?_⟩
  obtain ⟨k, hk, rfl⟩ := List.getElem_of_mem hq
  obtain ⟨h1, h2⟩ := prs_get2 (List.getElem?_eq_getElem hk)
  have hi := (List.getElem?_eq_some_iff.1 h1).1
  have := h.last k hi
  rw [itP_at h1, slP_at h2] at this
  have := hv.last
  omega
theorem PlanOk.early_le (h : PlanOk w l) (hv : Well w) {i : Nat} (hi : i < w.items.length) : (earlyS w).1.getD i 0 ≤ (slP l i).day :=
  Pv.early_le hv (D := fun i => (slP l i).day) (fun i hi => (h.day hv hi).1) (fun i m hi hm him => Int.le_trans (h.day hv hm).2.1 (h.early i m hi hm him)) i hi
theorem PlanOk.early_dur (h : PlanOk w l) (hv : Well w) : (earlyS w).2 ≤ durP w l := by
  have hs := early_all hv
  rcases hs.last0 with ⟨h0, _⟩ | ⟨i, hi, h1⟩
  · rw [h0]; exact (h.dur hv).1
  · obtain ⟨q, y, he, hyq⟩ := (refOrd_eq hv.good).2 (i : Int) (List.mem_of_mem_take hi)
    have hil : i < w.items.length := by have := (List.getElem?_eq_some_iff.1 hyq).1; omega
    have := h.early_le hv hil
    have := h.day hv hil
    omega
theorem PlanOk.late_ge (h : PlanOk w l) (hv : Well w) {i : Nat} (hi : i < w.items.length) : (slP l i).day ≤ (latS w (durP w l)).getD i 0 :=
  Pv.lat_ge hv (h.dur hv).1 (D := fun i => (slP l i).day) (E := fun i => endP (itP w i) (slP l i)) (fun m hm => (h.day hv hm).2.2) (fun m hm => (h.day hv hm).2.1) (fun i m hi hm him => h.early i m hi hm him) i hi
end

theorem slot_pl {w : SWork} {s : List SSlot} (h : slotsE w s = 0) {k : Nat} {sl : SSlot} (hk : s[k]? = some sl) : pl s sl.item = ⟨sl.mode, sl.day, true⟩ := by
  have hn := slots_nodup h
  have hm := List.mem_of_getElem? hk
  cases hf : s.find? (·.item == sl.item) with
  | none =>
    rw [List.find?_eq_none] at hf
    exact absurd (by simp) (hf sl hm)
  | some a =>
    have hfl := filter_nodup s _ a hn hf
    have : sl ∈ s.filter (·.item == sl.item) := by simp [hm]
    rw [hfl, List.mem_singleton] at this
    rw [pl, hf, ← this]
/-- A slot, its item's place, and how it is laid. -/
theorem slot_at {w : SWork} {s : List SSlot} (h : slE w s = 0) {k : Nat} {sl : SSlot} (hk : s[k]? = some sl) : ∃ (i : Nat) (x : SItem), idx w.items (·.name == sl.item) = i ∧ w.items[i]? = some x ∧ slP (placed w s) i = ⟨sl.mode, sl.day, true⟩ := by
  obtain ⟨_, h2⟩ := slE_parts h
  obtain ⟨g1, _⟩ := slot_of h2 hk
  obtain ⟨x, hx, hn⟩ := idx_lt g1
  have hn : x.name = sl.item := by simpa using hn
  refine ⟨(idx w.items (·.name == sl.item)).toNat, x, (Int.toNat_of_nonneg g1).symm, hx, ?_⟩
  rw [slP_at (p := pl s x.name) (by rw [placed, List.getElem?_map, hx]; rfl), hn]
  exact slot_pl h2 hk
theorem critS_mem {w : SWork} {nm : Str} (h : nm ∈ critS w) : ∃ (i : Nat) (x : SItem), w.items[i]? = some x ∧ x.name = nm ∧ (latS w (earlyS w).2).getD i 0 = (earlyS w).1.getD i 0 := by
  obtain ⟨i, hi, hm⟩ := List.mem_flatMap.1 h
  obtain ⟨x, hx⟩ := get_lt (List.mem_range.1 hi)
  unfold critAt at hm
  rw [itP_at hx] at hm
  split at hm
  · simp at hm; exact ⟨i, x, hx, hm.symm, ‹_›⟩
  · simp at hm
theorem mem_critS {w : SWork} {i : Nat} {x : SItem} (hx : w.items[i]? = some x) (h : (latS w (earlyS w).2).getD i 0 = (earlyS w).1.getD i 0) : x.name ∈ critS w := by
  refine List.mem_flatMap.2 ⟨i, List.mem_range.2 (List.getElem?_eq_some_iff.1 hx).1, ?_⟩
  rw [critAt, if_pos h, itP_at hx]; simp
end Go.Pv

/- No plan is shorter than a bound. -/
set_option maxHeartbeats 2000000
namespace Go.Pv
attribute [local irreducible] PWP POps PQuiet PSem XThen XBlock RetPost InlPost
open Go.Proofs

theorem set_sum : ∀ (a : List Int) (d : Nat) (v : Int), d < a.length → (a.set d v).sum = a.sum - a.getD d 0 + v
  | [], d, v, h => by simp at h
  | x :: a, 0, v, _ => by
    show (v :: a).sum = (x :: a).sum - x + v
    rw [List.sum_cons, List.sum_cons]; omega
  | x :: a, d + 1, v, h => by
    have ih := set_sum a d v (by simpa using h)
    show (x :: a.set d v).sum = (x :: a).sum - a.getD d 0 + v
    rw [List.sum_cons, List.sum_cons, ih]; omega
theorem spanL_sum (a : List Int) (d : Nat) (c : Int) : ∀ j : Nat, d + j ≤ a.length → (spanL a d c j).sum = a.sum + j * c
  | 0, _ => by
    have : spanL a d c 0 = a := rfl
    rw [this]; omega
  | j + 1, hj => by
    have ih := spanL_sum a d c j (by omega)
    rw [spanL_succ, bumpL, set_sum _ _ _ (by rw [spanL_len]; omega), ih]
    have : ((j + 1 : Nat) : Int) * c = j * c + c := by rw [Int.natCast_add, Int.add_mul]; omega
    omega
theorem workF_le : ∀ (l : List SMode) (a : Int), l.foldl workF a ≤ a ∧ ∀ m ∈ l, l.foldl workF a ≤ m.days * m.crew
  | [], a => ⟨Int.le_refl _, fun m hm => by simp at hm⟩
  | m :: l, a => by
    obtain ⟨h1, h2⟩ := workF_le l (workF a m)
    have h3 : workF a m ≤ a ∧ workF a m ≤ m.days * m.crew := by unfold workF imin; split <;> omega
    rw [List.foldl_cons]
    refine ⟨by omega, fun q hq => ?_⟩
    rcases List.mem_cons.1 hq with rfl | hq
    · omega
    · exact h2 q hq
theorem lwP_le {x : SItem} {m : SMode} (h : m ∈ x.modes) : lwP x ≤ m.days * m.crew := (workF_le _ _).2 m h
theorem work_le {w : SWork} {l : List SPl} (hf : Full w l) (t : STrade) (k : Nat) (hk : k ≤ w.items.length) : (w.items.take k).foldl (sumT w t) 0 ≤ (loadK w l t.name k).sum := by
  induction k with
  | zero =>
    have : loadK w l t.name 0 = List.replicate (durP w l).toNat 0 := rfl
    rw [this]
    have hz : ∀ n : Nat, (List.replicate n (0 : Int)).sum = 0 := by
      intro n
      induction n with
      | zero => rfl
      | succ n ih => rw [List.replicate_succ, List.sum_cons, ih]; rfl
    rw [hz]; simp
  | succ k ih =>
    have ih := ih (by omega)
    obtain ⟨x, hx⟩ := get_lt (show k < w.items.length by omega)
    obtain ⟨p, hp⟩ := get_lt (show k < l.length by rw [hf.len]; omega)
    have hok := hf.at_ hx hp
    have h1 := hok.day
    have h2 := hok.days
    have he := end_le hf hx hp
    unfold endP at he
    rw [take_snoc hx, List.foldl_append, loadK_succ hx hp]
    have hKl := loadK_len w l t.name k
    show sumT w t ((w.items.take k).foldl (sumT w t) 0) x ≤ _
    generalize (w.items.take k).foldl (sumT w t) 0 = S at *
    generalize loadK w l t.name k = LK at *
    unfold sumT loadF
    show (if x.trade = t.name then S + lwP x else S) ≤ (if x.trade = t.name then spanL LK p.day.toNat (modeAt x p.mode).crew (modeAt x p.mode).days.toNat else LK).sum
    by_cases ht : x.trade = t.name
    · rw [if_pos ht, if_pos ht, spanL_sum _ _ _ _ (by omega)]
      have := lwP_le (List.mem_of_getElem? hok.mode)
      have e : (((modeAt x p.mode).days.toNat : Nat) : Int) = (modeAt x p.mode).days := by omega
      rw [e]
      omega
    · rw [if_neg ht, if_neg ht]; exact ih
theorem sum_le {c : Int} : ∀ a : List Int, (∀ v ∈ a, v ≤ c) → a.sum ≤ a.length * c
  | [], _ => by simp
  | x :: a, h => by
    have ih := sum_le a fun v hv => h v (by simp [hv])
    have := h x (by simp)
    rw [List.sum_cons, List.length_cons, Int.natCast_add, Int.add_mul]
    omega
theorem fold_imax_ge : ∀ (l : List Int) (a : Int), a ≤ l.foldl imax a ∧ ∀ x ∈ l, x ≤ l.foldl imax a
  | [], a => ⟨Int.le_refl _, fun x hx => by simp at hx⟩
  | b :: l, a => by
    obtain ⟨h1, h2⟩ := fold_imax_ge l (imax a b)
    rw [List.foldl_cons]
    refine ⟨Int.le_trans le_imax.1 h1, fun x hx => ?_⟩
    rcases List.mem_cons.1 hx with rfl | hx
    · exact Int.le_trans le_imax.2 h1
    · exact h2 x hx
section
variable {w : SWork} {l : List SPl}
theorem PlanOk.work (h : PlanOk w l) (hv : Well w) {t : STrade} (ht : t ∈ w.trades) : tradeB w t ≤ durP w l := by
  have hd := h.dur hv
  unfold tradeB
  split
  · exact hd.1
  · rename_i hs
    have hc := crew_zero hv ht hs
    have hc0 := (hv.trade t ht).1
    have h1 := work_le h.full t w.items.length (Nat.le_refl _)
    rw [List.take_length] at h1
    have hall : loadK w l t.name w.items.length = loadA w l t.name := by rw [loadK, List.take_of_length_le (by rw [prs_len h.full.toPlan]; omega)]; rfl
    have h2 := sum_le (c := t.crew) (loadA w l t.name) fun v hvm => Int.le_trans ((fold_imax_ge _ 0).2 v hvm) (h.crowd t ht)
    have h3 : (loadA w l t.name).length = (durP w l).toNat := by rw [← hall, loadK_len]
    rw [hall] at h1
    rw [h3, Int.toNat_of_nonneg hd.1] at h2
    have hsb : sumB w t ≤ durP w l * t.crew := Int.le_trans h1 h2
    have hsn : 0 ≤ sumB w t := by
      have := sumK_bound hv t w.items.length (Nat.le_refl _)
      rw [List.take_length] at this
      exact this.1
    rw [Int.tdiv_eq_ediv_of_nonneg (by omega)]
    have : (sumB w t + t.crew - 1) / t.crew < durP w l + 1 := Int.ediv_lt_of_lt_mul (by omega) (by rw [Int.add_mul, Int.one_mul]; omega)
    omega
theorem PlanOk.sum (h : PlanOk w l) (hv : Well w) : ∀ (f i : Nat), i < w.items.length → (sumC w i).toNat ≤ f → sumC w i ≤ durP w l - (slP l i).day
  | 0, i, hi, hf => by
    have := sumC_pos hv hi
    omega
  | f + 1, i, hi, hf => by
    have hd := h.day hv hi
    have hl := lst_pos hv hi
    rcases (sum_spec hv hi).att with h1 | ⟨j, hj, hij, h1⟩
    · omega
    · have hjp := sumC_pos hv hj
      have ih := PlanOk.sum h hv f j hj (by omega)
      have := h.early j i hj hi hij
      omega
theorem PlanOk.maxC (h : PlanOk w l) (hv : Well w) : maxC w ≤ durP w l := by
  rcases maxC_att (w := w) with h1 | h1
  · rw [h1]; exact (h.dur hv).1
  · obtain ⟨i, hi, he⟩ := List.getElem_of_mem h1
    have hl : i < w.items.length := by rw [← (chainS_len hv).1]; exact hi
    have hg := sumC_get hv hl
    rw [List.getElem?_eq_getElem hi, he] at hg
    have hs := Option.some.inj hg
    have := h.sum hv _ i hl (Nat.le_refl _)
    have := (h.day hv hl).1
    omega
theorem PlanOk.best (h : PlanOk w l) (hv : Well w) : (bestB w).days ≤ durP w l := by
  have : ∀ (ts : List STrade) (b : SBound), (∀ t ∈ ts, t ∈ w.trades) → b.days ≤ durP w l → (ts.foldl (bestFB w) b).days ≤ durP w l := by
    intro ts
    induction ts with
    | nil => intro b _ hb; exact hb
    | cons t ts ih =>
      intro b ht hb
      rw [List.foldl_cons]
      refine ih _ (fun t' ht' => ht t' (by simp [ht'])) ?_
      unfold bestFB
      split
      · exact h.work hv (ht t (by simp))
      · exact hb
  exact this _ _ (fun t ht => ht) (h.maxC hv)
theorem PlanOk.chain (h : PlanOk w l) (hv : Well w) {c : List Str} (hu : chUnk w c = false) (hb : (List.range c.length).any (chBad w c) = false) : c.foldl (chSumF w) 0 ≤ durP w l := by
  have hd := (h.dur hv).1
  have key : ∀ k, k ≤ c.length → (k = 0 ∧ (c.take k).foldl (chSumF w) 0 = 0) ∨ ∃ (s : Str) (i : Nat) (x : SItem), 0 < k ∧ c[k - 1]? = some s ∧ idx w.items (·.name == s) = i ∧ w.items[i]? = some x ∧ (c.take k).foldl (chSumF w) 0 ≤ endP (itP w i) (slP l i) := by
    intro k
    induction k with
    | zero => intro _; exact .inl ⟨rfl, rfl⟩
    | succ k ih =>
      intro hk
      have ih := ih (by omega)
      obtain ⟨s, hs⟩ := get_lt (show k < c.length by omega)
      obtain ⟨i, x, hix, hx, hxn, hit⟩ := it_known hu (List.mem_of_getElem? hs)
      have hi := (List.getElem?_eq_some_iff.1 hx).1
      have hday := h.day hv hi
      refine .inr ⟨s, i, x, by omega, hs, hix, hx, ?_⟩
      have hstep : (c.take (k + 1)).foldl (chSumF w) 0 = (c.take k).foldl (chSumF w) 0 + lst w i := by rw [take_snoc hs, List.foldl_append, lst_at hx, ← hit]; rfl
      rw [hstep]
      rcases ih with ⟨rfl, h0⟩ | ⟨s', i', x', hk0, hs', hix', hx', hle⟩
      · rw [h0]; omega
      · have hi' := (List.getElem?_eq_some_iff.1 hx').1
        rw [List.any_eq_false] at hb
        have hnb := hb k (List.mem_range.2 (by omega))
        have hgk : c.getD k [] = s := by rw [List.getD_eq_getElem?_getD, hs]; rfl
        have hgk' : c.getD (k - 1) [] = s' := by rw [List.getD_eq_getElem?_getD, hs']; rfl
        rw [chBad, hgk, hgk', hit, decide_eq_true hk0, Bool.true_and] at hnb
        simp only [Bool.not_eq_true', Bool.not_eq_false] at hnb
        have hin : s' ∈ x.after := by
          obtain ⟨y, hy, he⟩ := List.any_eq_true.1 hnb
          have : y = s' := by simpa using he
          exact this ▸ hy
        have hrow : (i' : Int) ∈ rowN w i := by
          rw [rowN_at hx, aft]
          refine List.mem_map.2 ⟨s', hin, ?_⟩
          rw [idx_map]; exact hix'
        have := h.early i i' hi hi' hrow
        omega
  rcases key c.length (Nat.le_refl _) with ⟨_, h0⟩ | ⟨s, i, x, _, _, _, hx, hle⟩
  · rw [List.take_length] at h0
    rw [h0]; exact hd
  · rw [List.take_length] at hle
    have := (h.day hv (List.getElem?_eq_some_iff.1 hx).1).2.2
    omega
theorem PlanOk.proved (h : PlanOk w l) (hv : Well w) {b : SBound} (hc : checkB w b = 0) (hz : workE w = 0) : b.days ≤ durP w l := by
  rw [checkB, if_pos hz] at hc
  by_cases h2 : (provedB w b).2 = 0
  · rw [if_pos h2] at hc
    have hle : b.days ≤ (provedB w b).1 := by
      split at hc
      · cases hc
      · omega
    refine Int.le_trans hle ?_
    unfold provedB at h2 ⊢
    by_cases ht : b.trade = []
    · rw [if_pos ht] at h2 ⊢
      unfold chainBd at h2 ⊢
      cases hu : chUnk w b.chain with
      | true => rw [hu, if_pos rfl] at h2; cases h2
      | false =>
        rw [hu, if_neg (by simp)] at h2
        rw [if_neg (by simp)]
        cases hb : (List.range b.chain.length).any (chBad w b.chain) with
        | true => rw [hb, if_pos rfl] at h2; cases h2
        | false =>
          rw [if_neg (by simp)]
          exact h.chain hv hu hb
    · rw [if_neg ht] at h2 ⊢
      by_cases hneg : idx w.trades (·.name == b.trade) < 0
      · rw [if_pos hneg] at h2; cases h2
      · rw [if_neg hneg]
        obtain ⟨tr, htr, _⟩ := idx_lt (Int.not_lt.1 hneg)
        have hta : trAt w b.trade = tr := by rw [trAt, List.getD_eq_getElem?_getD, htr]; rfl
        rw [hta]
        exact h.work hv (List.mem_of_getElem? htr)
  · rw [if_neg h2] at hc
    exact absurd hc h2
end
end Go.Pv

/- Plain work. -/
set_option maxHeartbeats 2000000
namespace Go.Pv
attribute [local irreducible] PWP POps PQuiet PSem XThen XBlock RetPost InlPost
open Go.Proofs

def longS (s : Str) : Bool := decide (40 < s.length)
def badT (t : STrade) : Bool := longS t.name
def badS (x : SSpace) : Bool := longS x.name || decide (20 < x.next.length) || x.next.any longS
def badI (x : SItem) : Bool := longS x.name || longS x.trade || longS x.space || decide (6 < x.modes.length) || decide (12 < x.after.length) || x.after.any longS
def badW (w : SWork) (most : Int) : Bool := decide (8 < w.trades.length) || decide (14 < w.spaces.length) || decide (32 < w.excls.length) || decide (22 < w.outs.length) || (decide (most < w.items.length) && decide (w.items.length ≤ 40)) || decide (45 < w.items.length)
def plainB (w : SWork) (most : Int) : Bool := !(badW w most || w.trades.any badT || w.spaces.any badS || w.items.any badI)

theorem int_lt {a b : Nat} : decide ((a : Int) < (b : Int)) = decide (a < b) := by
  by_cases h : a < b
  · rw [decide_eq_true h, decide_eq_true (by omega)]
  · rw [decide_eq_false h, decide_eq_false (by omega)]

theorem plain_ret (w : SWork) (most : Int) : Ret Try.prog .shared 11 [.agg (eWork w), I most] (.bool (plainB w most)) := by
  have e1 : (w.trades.map eTrade).length = w.trades.length := by simp
  have e2 : (w.spaces.map eSpace).length = w.spaces.length := by simp
  have e3 : (w.excls.map eExcl).length = w.excls.length := by simp
  have e4 : (w.outs.map eOut).length = w.outs.length := by simp
  have e5 : (w.items.map eItem).length = w.items.length := by simp
  refine Ret.of_pwp layOk mixed Go.Proofs.Try.func11 rfl (by decide) rfl rfl ?_
  repeat (refine stp rfl ?_ ?_;·repeat' constructor)
  refine ps_cut 100 [(2, .ptr 2 1 0 0), (49, .bool (badW w most))] [(2, 1, ⟨28, 9, [eWork w], 2⟩)] ?_ ?_
  · repeat' (first|(refine stp rfl ?_ ?_;·repeat' constructor)|refine ps_split rfl rfl (fun h => ?_) (fun h => ?_)|refine pq_split rfl rfl (fun h => ?_) (fun h => ?_)|refine p3_split rfl rfl (fun h => ?_) (fun h => ?_))
    all_goals
      refine ⟨rfl, congrArg PV.bool ?_, rfl, trivial⟩
      simp only [e1, e2, e3, e4, e5] at *
      rw [Bool.eq_iff_iff]
      simp only [badW, Bool.or_eq_true, Bool.and_eq_true, decide_eq_true_eq, decide_eq_false_iff_not, true_iff, iff_true, Bool.false_eq_true, false_iff] at *
      omega
  intro s
  repeat (refine stp rfl ?_ ?_;·repeat' constructor)
  refine pw_cond rfl (fun h => ?_) (fun h => ?_)
  · have hb : badW w most = true := h
    repeat (refine stp rfl ?_ ?_;·repeat' constructor)
    exact end1b rfl rfl (by rw [plainB, hb]; rfl)
  have hb : badW w most = false := h
  have hsm : w.trades.length ≤ 8 ∧ w.spaces.length ≤ 14 ∧ w.items.length ≤ 45 := by
    simp only [badW, Bool.or_eq_false_iff, decide_eq_false_iff_not] at hb
    omega
  clear h
  repeat (refine stp rfl ?_ ?_;·repeat' constructor)
  refine pw_loop (Clear w.trades badT) (fun k => [(2, .ptr 2 1 0 0), (5, I k)]) (fun _ => [(2, 1, ⟨28, 9, [eWork w], 2⟩)]) (fun k => w.trades.length - k) 0 .zero ⟨rfl, rfl, rfl, trivial⟩ ?_
  intro k s hk
  repeat (refine stp rfl ?_ ?_;·repeat' constructor)
  refine pw_cond rfl (fun h => ?_) (fun h => ?_)
  · have hlt : k < w.trades.length := by simpa using h
    obtain ⟨t, ht⟩ := get_lt hlt
    clear h
    repeat (refine stp rfl ?_ ?_;·repeat' constructor)
    apply qst;exact rfl;exact rfl;exact q_idxm rfl rfl rfl rfl rfl (by omega) ht rfl
    repeat (refine stp rfl ?_ ?_;·repeat' constructor)
    refine pw_cond rfl (fun h => ?_) (fun h => ?_)
    · have hbad : badT t = true := by have := of_decide_eq_true h; simp [badT, longS]; omega
      repeat (refine stp rfl ?_ ?_;·repeat' constructor)
      exact end1b rfl rfl (by rw [plainB, any_of ht hbad]; simp)
    · have hok : badT t = false := by have := of_decide_eq_false h; simp [badT, longS]; omega
      repeat (refine stp rfl ?_ ?_;·repeat' constructor)
      refine ⟨k + 1, hk.succ ht hok, by omega, rfl, ?_, rfl, trivial⟩
      exact i64_next (by omega) (by omega)
  have ht := hk.any (by simpa using h)
  clear h hk
  repeat (refine stp rfl ?_ ?_;·repeat' constructor)
  refine pw_loop (Clear w.spaces badS) (fun k => [(2, .ptr 2 1 0 0), (6, I k)]) (fun _ => [(2, 1, ⟨28, 9, [eWork w], 2⟩)]) (fun k => w.spaces.length - k) 0 .zero ⟨rfl, rfl, rfl, trivial⟩ ?_
  intro k s hk
  repeat (refine stp rfl ?_ ?_;·repeat' constructor)
  refine pw_cond rfl (fun h => ?_) (fun h => ?_)
  · have hlt : k < w.spaces.length := by simpa using h
    obtain ⟨x, hx⟩ := get_lt hlt
    clear h
    have yes : badS x = true → PV.bool false = .bool (plainB w most) := fun h => by rw [plainB, any_of hx h]; simp
    repeat (refine stp rfl ?_ ?_;·repeat' constructor)
    apply qst;exact rfl;exact rfl;exact q_idxm rfl rfl rfl rfl rfl (by omega) hx rfl
    repeat (refine stp rfl ?_ ?_;·repeat' constructor)
    (first | refine ps_split rfl rfl (fun h => ?_) (fun h => ?_) | refine pq_split rfl rfl (fun h => ?_) (fun h => ?_) | refine p3_split rfl rfl (fun h => ?_) (fun h => ?_))
    · have h1 : longS x.name = true := by have := of_decide_eq_true h; simp [longS]; omega
      repeat (refine stp rfl ?_ ?_;·repeat' constructor)
      exact end1b rfl rfl (yes (by rw [badS, h1]; rfl))
    have h1 : longS x.name = false := by have := of_decide_eq_false h; simp [longS]; omega
    clear h
    repeat (refine stp rfl ?_ ?_;·repeat' constructor)
    apply qst;exact rfl;exact rfl;exact q_idxm rfl rfl rfl rfl rfl (by omega) hx rfl
    repeat (refine stp rfl ?_ ?_;·repeat' constructor)
    (first | refine ps_split rfl rfl (fun h => ?_) (fun h => ?_) | refine pq_split rfl rfl (fun h => ?_) (fun h => ?_) | refine p3_split rfl rfl (fun h => ?_) (fun h => ?_))
    · have h2 : decide (20 < x.next.length) = true := by have := of_decide_eq_true h; rw [List.length_map] at this; simp; omega
      repeat (refine stp rfl ?_ ?_;·repeat' constructor)
      exact end1b rfl rfl (yes (by rw [badS, h1, h2]; rfl))
    have h2 : decide (20 < x.next.length) = false := by have := of_decide_eq_false h; rw [List.length_map] at this; simp; omega
    have hl2 := of_decide_eq_false h2
    clear h
    repeat (refine stp rfl ?_ ?_;·repeat' constructor)
    apply qst;exact rfl;exact rfl;exact q_idxm rfl rfl rfl rfl rfl (by omega) hx rfl
    repeat (refine stp rfl ?_ ?_;·repeat' constructor)
    apply qst;exact rfl;exact rfl;exact q_callP rfl (texts_ret x.next (by omega)) rfl (by repeat' constructor) rfl rfl
    repeat (refine stp rfl ?_ ?_;·repeat' constructor)
    refine pw_cond rfl (fun h => ?_) (fun h => ?_)
    · have h3 : x.next.any longS = true := by simpa [longS] using h
      repeat (refine stp rfl ?_ ?_;·repeat' constructor)
      exact end1b rfl rfl (yes (by rw [badS, h1, h2, h3]; rfl))
    · have h3 : x.next.any longS = false := by
        have : (!(!x.next.any fun s => decide (40 < s.length))) = false := h
        simpa [longS] using this
      repeat (refine stp rfl ?_ ?_;·repeat' constructor)
      refine ⟨k + 1, hk.succ hx (by rw [badS, h1, h2, h3]; rfl), by omega, rfl, ?_, rfl, trivial⟩
      exact i64_next (by omega) (by omega)
  have hs := hk.any (by simpa using h)
  clear h hk
  repeat (refine stp rfl ?_ ?_;·repeat' constructor)
  refine pw_loop (Clear w.items badI) (fun k => [(2, .ptr 2 1 0 0), (7, I k)]) (fun _ => [(2, 1, ⟨28, 9, [eWork w], 2⟩)]) (fun k => w.items.length - k) 0 .zero ⟨rfl, rfl, rfl, trivial⟩ ?_
  intro k s hk
  repeat (refine stp rfl ?_ ?_;·repeat' constructor)
  refine pw_cond rfl (fun h => ?_) (fun h => ?_)
  · have hlt : k < w.items.length := by simpa using h
    obtain ⟨x, hx⟩ := get_lt hlt
    clear h
    have yes : badI x = true → PV.bool false = .bool (plainB w most) := fun h => by rw [plainB, any_of hx h]; simp
    repeat (refine stp rfl ?_ ?_;·repeat' constructor)
    apply qst;exact rfl;exact rfl;exact q_idxm rfl rfl rfl rfl rfl (by omega) hx rfl
    repeat (refine stp rfl ?_ ?_;·repeat' constructor)
    (first | refine ps_split rfl rfl (fun h => ?_) (fun h => ?_) | refine pq_split rfl rfl (fun h => ?_) (fun h => ?_) | refine p3_split rfl rfl (fun h => ?_) (fun h => ?_))
    · have h1 : longS x.name = true := by have := of_decide_eq_true h; simp [longS]; omega
      repeat (refine stp rfl ?_ ?_;·repeat' constructor)
      exact end1b rfl rfl (yes (by rw [badI, h1]; rfl))
    have h1 : longS x.name = false := by have := of_decide_eq_false h; simp [longS]; omega
    clear h
    repeat (refine stp rfl ?_ ?_;·repeat' constructor)
    (first | refine ps_split rfl rfl (fun h => ?_) (fun h => ?_) | refine pq_split rfl rfl (fun h => ?_) (fun h => ?_) | refine p3_split rfl rfl (fun h => ?_) (fun h => ?_))
    · have h2 : longS x.trade = true := by have := of_decide_eq_true h; simp [longS]; omega
      repeat (refine stp rfl ?_ ?_;·repeat' constructor)
      exact end1b rfl rfl (yes (by rw [badI, h1, h2]; rfl))
    have h2 : longS x.trade = false := by have := of_decide_eq_false h; simp [longS]; omega
    clear h
    repeat (refine stp rfl ?_ ?_;·repeat' constructor)
    (first | refine ps_split rfl rfl (fun h => ?_) (fun h => ?_) | refine pq_split rfl rfl (fun h => ?_) (fun h => ?_) | refine p3_split rfl rfl (fun h => ?_) (fun h => ?_))
    · have h3 : longS x.space = true := by have := of_decide_eq_true h; simp [longS]; omega
      repeat (refine stp rfl ?_ ?_;·repeat' constructor)
      exact end1b rfl rfl (yes (by rw [badI, h1, h2, h3]; rfl))
    have h3 : longS x.space = false := by have := of_decide_eq_false h; simp [longS]; omega
    clear h
    repeat (refine stp rfl ?_ ?_;·repeat' constructor)
    (first | refine ps_split rfl rfl (fun h => ?_) (fun h => ?_) | refine pq_split rfl rfl (fun h => ?_) (fun h => ?_) | refine p3_split rfl rfl (fun h => ?_) (fun h => ?_))
    · have h4 : decide (6 < x.modes.length) = true := by have := of_decide_eq_true h; rw [List.length_map] at this; simp; omega
      repeat (refine stp rfl ?_ ?_;·repeat' constructor)
      exact end1b rfl rfl (yes (by rw [badI, h1, h2, h3, h4]; rfl))
    have h4 : decide (6 < x.modes.length) = false := by have := of_decide_eq_false h; rw [List.length_map] at this; simp; omega
    clear h
    repeat (refine stp rfl ?_ ?_;·repeat' constructor)
    (first | refine ps_split rfl rfl (fun h => ?_) (fun h => ?_) | refine pq_split rfl rfl (fun h => ?_) (fun h => ?_) | refine p3_split rfl rfl (fun h => ?_) (fun h => ?_))
    · have h5 : decide (12 < x.after.length) = true := by have := of_decide_eq_true h; rw [List.length_map] at this; simp; omega
      repeat (refine stp rfl ?_ ?_;·repeat' constructor)
      exact end1b rfl rfl (yes (by rw [badI, h1, h2, h3, h4, h5]; rfl))
    have h5 : decide (12 < x.after.length) = false := by have := of_decide_eq_false h; rw [List.length_map] at this; simp; omega
    have hl5 := of_decide_eq_false h5
    clear h
    repeat (refine stp rfl ?_ ?_;·repeat' constructor)
    apply qst;exact rfl;exact rfl;exact q_callP rfl (texts_ret x.after (by omega)) rfl (by repeat' constructor) rfl rfl
    repeat (refine stp rfl ?_ ?_;·repeat' constructor)
    refine pw_cond rfl (fun h => ?_) (fun h => ?_)
    · have h6 : x.after.any longS = true := by simpa [longS] using h
      repeat (refine stp rfl ?_ ?_;·repeat' constructor)
      exact end1b rfl rfl (yes (by rw [badI, h1, h2, h3, h4, h5, h6]; rfl))
    · have h6 : x.after.any longS = false := by
        have : (!(!x.after.any fun s => decide (40 < s.length))) = false := h
        simpa [longS] using this
      repeat (refine stp rfl ?_ ?_;·repeat' constructor)
      refine ⟨k + 1, hk.succ hx (by rw [badI, h1, h2, h3, h4, h5, h6]; rfl), by omega, rfl, ?_, rfl, trivial⟩
      exact i64_next (by omega) (by omega)
  have hi := hk.any (by simpa using h)
  repeat (refine stp rfl ?_ ?_;·repeat' constructor)
  exact end1b rfl rfl (by rw [plainB, hb, ht, hs, hi]; rfl)
theorem sane_of {w : SWork} {most : Int} (h : plainB w most = true) : Sane w := by
  simp only [plainB, Bool.not_eq_true', Bool.or_eq_false_iff] at h
  obtain ⟨⟨⟨hb, ht⟩, hs⟩, hi⟩ := h
  simp only [badW, Bool.or_eq_false_iff, decide_eq_false_iff_not] at hb
  rw [List.any_eq_false] at hs hi
  refine ⟨by omega, by omega, by omega, by omega, by omega, fun x hx => ?_, fun x hx => ?_⟩
  · have := hs x hx
    simp only [badS, Bool.or_eq_true, decide_eq_true_eq, not_or] at this
    omega
  · have := hi x hx
    simp only [badI, Bool.or_eq_true, decide_eq_true_eq, not_or] at this
    omega
end Go.Pv

/- The law that no plan is shorter than a bound. -/
set_option maxHeartbeats 2000000
namespace Go.Pv
attribute [local irreducible] PWP POps PQuiet PSem XThen XBlock RetPost InlPost
open Go.Proofs

theorem dec_bound {c : PV} (h : argP lay.get 60 c) : ∃ b, c = .agg (eBound b) := by
  obtain ⟨cs, rfl, h⟩ : ∃ cs, c = .agg cs ∧ tyP lay.get 6 60 cs := h
  obtain ⟨parts, rfl, hl, hp⟩ := tyP_st h rfl
  match parts, hl, hp with
  | [p0, p1, p2], _, hp =>
    obtain ⟨a, rfl⟩ := tyP_int (hp 0 _ p0 rfl rfl) rfl
    obtain ⟨b, rfl⟩ := dec_texts (hp 1 _ p1 rfl rfl)
    obtain ⟨c, rfl⟩ := tyP_str (hp 2 _ p2 rfl rfl) rfl
    exact ⟨⟨a, b, c⟩, rfl⟩
set_option maxRecDepth 20000 in
theorem below_law (aw : Ret Try.prog .shared 10 [] (.bool true)) (w : SWork) (s : List SSlot) (b : SBound) : Ret Try.prog .shared 7 [.agg (eWork w), .sl (s.map eSlot), .agg (eBound b)] (.bool true) := by
  have h11 := plain_ret w 8
  have h12 := few_ret s
  cases hp : plainB w 8 with
  | false =>
    rw [hp] at h11
    refine Ret.of_pwp layOk mixed Go.Proofs.Try.func7 rfl (by decide) rfl rfl ?_
    repeat (refine stp rfl ?_ ?_;·repeat' constructor)
    apply qst;exact rfl;exact rfl;exact q_callP rfl (aw) rfl (by repeat' constructor) rfl rfl
    repeat (refine stp rfl ?_ ?_;·repeat' constructor)
    apply qst;exact rfl;exact rfl;exact q_callP rfl (h11) rfl (by repeat' constructor) rfl rfl
    repeat (refine stp rfl ?_ ?_;·repeat' constructor)
    exact end1b rfl rfl rfl
  | true =>
    rw [hp] at h11
    have hw := sane_of hp
    cases hfew : (decide (s.length ≤ 50) && !s.any fun s => decide (40 < s.item.length)) with
    | false =>
      rw [hfew] at h12
      refine Ret.of_pwp layOk mixed Go.Proofs.Try.func7 rfl (by decide) rfl rfl ?_
      repeat (refine stp rfl ?_ ?_;·repeat' constructor)
      apply qst;exact rfl;exact rfl;exact q_callP rfl (aw) rfl (by repeat' constructor) rfl rfl
      repeat (refine stp rfl ?_ ?_;·repeat' constructor)
      apply qst;exact rfl;exact rfl;exact q_callP rfl (h11) rfl (by repeat' constructor) rfl rfl
      repeat (refine stp rfl ?_ ?_;·repeat' constructor)
      apply qst;exact rfl;exact rfl;exact q_callP rfl (h12) rfl (by repeat' constructor) rfl rfl
      repeat (refine stp rfl ?_ ?_;·repeat' constructor)
      exact end1b rfl rfl rfl
    | true =>
      rw [hfew] at h12
      have hcl : ((b.chain.map eS).length : Int) = b.chain.length := by simp
      refine Ret.of_pwp layOk mixed Go.Proofs.Try.func7 rfl (by decide) rfl rfl ?_
      repeat (refine stp rfl ?_ ?_;·repeat' constructor)
      apply qst;exact rfl;exact rfl;exact q_callP rfl (aw) rfl (by repeat' constructor) rfl rfl
      repeat (refine stp rfl ?_ ?_;·repeat' constructor)
      apply qst;exact rfl;exact rfl;exact q_callP rfl (h11) rfl (by repeat' constructor) rfl rfl
      repeat (refine stp rfl ?_ ?_;·repeat' constructor)
      apply qst;exact rfl;exact rfl;exact q_callP rfl (h12) rfl (by repeat' constructor) rfl rfl
      repeat (refine stp rfl ?_ ?_;·repeat' constructor)
      (first | refine ps_split rfl rfl (fun h => ?_) (fun h => ?_) | refine pq_split rfl rfl (fun h => ?_) (fun h => ?_) | refine p3_split rfl rfl (fun h => ?_) (fun h => ?_))
      · repeat (refine stp rfl ?_ ?_;·repeat' constructor)
        exact end1b rfl rfl rfl
      clear h
      repeat (refine stp rfl ?_ ?_;·repeat' constructor)
      (first | refine ps_split rfl rfl (fun h => ?_) (fun h => ?_) | refine pq_split rfl rfl (fun h => ?_) (fun h => ?_) | refine p3_split rfl rfl (fun h => ?_) (fun h => ?_))
      · repeat (refine stp rfl ?_ ?_;·repeat' constructor)
        exact end1b rfl rfl rfl
      have hc20 : ¬ (20 : Int) < (b.chain.map eS).length := of_decide_eq_false h
      clear h
      have h26 := texts_ret b.chain (by omega)
      have h14 := checkPlan_ret w hw s
      have h28 := checkBound_ret w hw b (by omega)
      generalize (!b.chain.any fun s => decide (40 < s.length)) = tb at *
      repeat (refine stp rfl ?_ ?_;·repeat' constructor)
      cases tb with
      | false =>
        apply qst;exact rfl;exact rfl;exact q_callP rfl (h26) rfl (by repeat' constructor) rfl rfl
        repeat (refine stp rfl ?_ ?_;·repeat' constructor)
        exact end1b rfl rfl rfl
      | true =>
        apply qst;exact rfl;exact rfl;exact q_callP rfl (h26) rfl (by repeat' constructor) rfl rfl
        repeat (refine stp rfl ?_ ?_;·repeat' constructor)
        by_cases h0 : planE w s = 0
        · have hsl := (planE_zero h0).1
          obtain ⟨hv, hpo⟩ := planOk_of h0
          have hz := (slE_parts hsl).1
          have h32 := days_ret w hw s
          have h27 := bestBound_ret w hw
          rw [if_pos h0, h0] at h32
          rw [h0] at h14
          rw [bestR, if_pos hz] at h27
          have hbest := hpo.best hv
          have hprov : checkB w b = 0 → b.days ≤ durP w (placed w s) := fun h => hpo.proved hv h hz
          generalize durP w (placed w s) = n at *
          generalize bestB w = bb at *
          generalize checkB w b = e at *
          obtain ⟨bd, bc, bt⟩ := bb
          replace hbest : bd ≤ n := hbest
          apply qst;exact rfl;exact rfl;exact q_callP rfl (h14) rfl (by repeat' constructor) rfl rfl
          repeat (refine stp rfl ?_ ?_;·repeat' constructor)
          apply qst;exact rfl;exact rfl;exact q_call rfl (h32) rfl (by repeat' constructor) rfl
          repeat (refine stp rfl ?_ ?_;·repeat' constructor)
          apply qst;exact rfl;exact rfl;exact q_call rfl (h27) rfl (by repeat' constructor) rfl
          repeat (refine stp rfl ?_ ?_;·repeat' constructor)
          (first | refine ps_split rfl rfl (fun h => ?_) (fun h => ?_) | refine pq_split rfl rfl (fun h => ?_) (fun h => ?_) | refine p3_split rfl rfl (fun h => ?_) (fun h => ?_))
          · clear h
            repeat (refine stp rfl ?_ ?_;·repeat' constructor)
            apply qst;exact rfl;exact rfl;exact q_callP rfl (h28) rfl (by repeat' constructor) rfl rfl
            repeat (refine stp rfl ?_ ?_;·repeat' constructor)
            (first | refine ps_split rfl rfl (fun h => ?_) (fun h => ?_) | refine pq_split rfl rfl (fun h => ?_) (fun h => ?_) | refine p3_split rfl rfl (fun h => ?_) (fun h => ?_))
            · repeat (refine stp rfl ?_ ?_;·repeat' constructor)
              exact end1b rfl rfl rfl
            · have he : e = 0 := by simpa using h
              have := hprov he
              repeat (refine stp rfl ?_ ?_;·repeat' constructor)
              exact end1b rfl rfl (by rw [decide_eq_true this])
          · exact absurd hbest (of_decide_eq_false h)
        · generalize planE w s = e at *
          apply qst;exact rfl;exact rfl;exact q_callP rfl (h14) rfl (by repeat' constructor) rfl rfl
          repeat (refine stp rfl ?_ ?_;·repeat' constructor)
          refine pw_cond rfl (fun h => ?_) (fun h => ?_)
          · repeat (refine stp rfl ?_ ?_;·repeat' constructor)
            exact end1b rfl rfl rfl
          · exact absurd (by simpa using h) h0
end Go.Pv

/- The law of bounds. -/
set_option maxHeartbeats 2000000
namespace Go.Pv
attribute [local irreducible] PWP POps PQuiet PSem XThen XBlock RetPost InlPost
open Go.Proofs

theorem trade_named {w : SWork} (hz : workE w = 0) {t : STrade} (ht : t ∈ w.trades) : t.name ≠ [] := by
  unfold workE at hz
  obtain ⟨h1, _⟩ := ite_self_zero hz
  unfold tradesE at h1
  obtain ⟨_, t2⟩ := ite_zero' h1 (by omega)
  obtain ⟨i, hi, rfl⟩ := List.getElem_of_mem ht
  have := fstE_zero t2 i _ (List.getElem?_eq_getElem hi)
  obtain ⟨g, _⟩ := ite_zero this (by omega)
  intro h
  rw [h] at g
  exact absurd g (by decide)
theorem best_kind (w : SWork) : bestB w = longB w ∨ ∃ t ∈ w.trades, bestB w = ⟨tradeB w t, [], t.name⟩ := by
  have : ∀ (l : List STrade) (b : SBound), (∀ t ∈ l, t ∈ w.trades) → (b = longB w ∨ ∃ t ∈ w.trades, b = ⟨tradeB w t, [], t.name⟩) → (l.foldl (bestFB w) b = longB w ∨ ∃ t ∈ w.trades, l.foldl (bestFB w) b = ⟨tradeB w t, [], t.name⟩) := by
    intro l
    induction l with
    | nil => intro b _ h; exact h
    | cons t l ih =>
      intro b hl h
      rw [List.foldl_cons]
      refine ih _ (fun q hq => hl q (by simp [hq])) ?_
      unfold bestFB
      split
      · exact .inr ⟨t, hl t (by simp), rfl⟩
      · exact h
  exact this w.trades (longB w) (fun _ h => h) (.inl rfl)
theorem best_checks {w : SWork} (hz : workE w = 0) : checkB w (bestB w) = 0 := by
  have hv := well_of hz
  rw [checkB, if_pos hz]
  rcases best_kind w with h | ⟨t, ht, h⟩
  · have hl := longC_ok hv
    have := chainBd_lk hv hl.lk
    rw [hl.wt] at this
    have hp : provedB w (longB w) = (maxC w, 0) := by
      rw [provedB, if_pos (show (longB w).trade = [] from rfl)]
      exact this
    rw [h, hp, if_pos rfl, if_neg (by show ¬ maxC w < maxC w; omega)]
  · have hn := trade_named hz ht
    obtain ⟨i, hi, rfl⟩ := List.getElem_of_mem ht
    have hu := hv.tuniq i _ (List.getElem?_eq_getElem hi)
    have hta : trAt w w.trades[i].name = w.trades[i] := by rw [trAt, hu, List.getD_eq_getElem?_getD, Int.toNat_natCast, List.getElem?_eq_getElem hi]; rfl
    have hp : provedB w ⟨tradeB w w.trades[i], [], w.trades[i].name⟩ = (tradeB w w.trades[i], 0) := by
      rw [provedB, if_neg (show ¬ (SBound.mk (tradeB w w.trades[i]) [] w.trades[i].name).trade = [] from hn)]
      show (if idx w.trades (·.name == w.trades[i].name) < 0 then ((0, 6) : Int × Int) else (tradeB w (trAt w w.trades[i].name), 0)) = _
      rw [hu, if_neg (by omega), hta]
    rw [h, hp, if_pos rfl, if_neg (by show ¬ tradeB w w.trades[i] < tradeB w w.trades[i]; omega)]
set_option maxRecDepth 20000 in
theorem texts0_ret : Ret Try.prog .shared 21 [.sl [], .nil] (.bool true) := by
  refine Ret.of_pwp layOk mixed Go.Proofs.Try.func21 rfl (by decide) rfl rfl ?_
  repeat (refine stp rfl ?_ ?_;·repeat' constructor)
  refine pw_loop (fun _ : Nat => True) (fun k => [(0, .sl []), (1, .nil), (5, I 0)]) (fun _ => []) (fun _ => 0) 0 trivial ⟨rfl, rfl, rfl, trivial⟩ ?_
  intro k s _
  repeat (refine stp rfl ?_ ?_;·repeat' constructor)
  exact end1b rfl rfl rfl
theorem same0_ret : Ret Try.prog .shared 29 [.agg [I 0, .sl [], .str []], .agg [I 0, .nil, .str []]] (.bool true) := by
  refine Ret.of_pwp layOk mixed Go.Proofs.Try.func29 rfl (by decide) rfl rfl ?_
  repeat (refine stp rfl ?_ ?_;·repeat' constructor)
  apply qst;exact rfl;exact rfl;exact q_callP rfl (texts0_ret) rfl (by repeat' constructor) rfl rfl
  repeat (refine stp rfl ?_ ?_;·repeat' constructor)
  exact end1b rfl rfl rfl
theorem same_ret (b : SBound) (hc : b.chain.length ≤ 1000000) : Ret Try.prog .shared 29 [.agg (eBound b), .agg (eBound b)] (.bool true) := by
  have h21 := texts2_ret b.chain b.chain hc
  rw [decide_eq_true rfl] at h21
  obtain ⟨d, c, t⟩ := b
  refine Ret.of_pwp layOk mixed Go.Proofs.Try.func29 rfl (by decide) rfl rfl ?_
  repeat (refine stp rfl ?_ ?_;·repeat' constructor)
  (first | refine ps_split rfl rfl (fun h => ?_) (fun h => ?_) | refine pq_split rfl rfl (fun h => ?_) (fun h => ?_) | refine p3_split rfl rfl (fun h => ?_) (fun h => ?_))
  · clear h
    repeat (refine stp rfl ?_ ?_;·repeat' constructor)
    (first | refine ps_split rfl rfl (fun h => ?_) (fun h => ?_) | refine pq_split rfl rfl (fun h => ?_) (fun h => ?_) | refine p3_split rfl rfl (fun h => ?_) (fun h => ?_))
    · clear h
      repeat (refine stp rfl ?_ ?_;·repeat' constructor)
      apply qst;exact rfl;exact rfl;exact q_callP rfl (h21) rfl (by repeat' constructor) rfl rfl
      repeat (refine stp rfl ?_ ?_;·repeat' constructor)
      exact end1b rfl rfl rfl
    · exact absurd rfl (of_decide_eq_false h)
  · exact absurd rfl (of_decide_eq_false h)
set_option maxRecDepth 20000 in
theorem bounds_law (aw : Ret Try.prog .shared 10 [] (.bool true)) (w : SWork) (b : SBound) : Ret Try.prog .shared 6 [.agg (eWork w), .agg (eBound b)] (.bool true) := by
  have h11 := plain_ret w 8
  cases hp : plainB w 8 with
  | false =>
    rw [hp] at h11
    refine Ret.of_pwp layOk mixed Go.Proofs.Try.func6 rfl (by decide) rfl rfl ?_
    repeat (refine stp rfl ?_ ?_;·repeat' constructor)
    apply qst;exact rfl;exact rfl;exact q_callP rfl (aw) rfl (by repeat' constructor) rfl rfl
    repeat (refine stp rfl ?_ ?_;·repeat' constructor)
    apply qst;exact rfl;exact rfl;exact q_callP rfl (h11) rfl (by repeat' constructor) rfl rfl
    repeat (refine stp rfl ?_ ?_;·repeat' constructor)
    exact end1b rfl rfl rfl
  | true =>
    rw [hp] at h11
    have hw := sane_of hp
    have hcl : ((b.chain.map eS).length : Int) = b.chain.length := by simp
    refine Ret.of_pwp layOk mixed Go.Proofs.Try.func6 rfl (by decide) rfl rfl ?_
    repeat (refine stp rfl ?_ ?_;·repeat' constructor)
    apply qst;exact rfl;exact rfl;exact q_callP rfl (aw) rfl (by repeat' constructor) rfl rfl
    repeat (refine stp rfl ?_ ?_;·repeat' constructor)
    apply qst;exact rfl;exact rfl;exact q_callP rfl (h11) rfl (by repeat' constructor) rfl rfl
    repeat (refine stp rfl ?_ ?_;·repeat' constructor)
    (first | refine ps_split rfl rfl (fun h => ?_) (fun h => ?_) | refine pq_split rfl rfl (fun h => ?_) (fun h => ?_) | refine p3_split rfl rfl (fun h => ?_) (fun h => ?_))
    · repeat (refine stp rfl ?_ ?_;·repeat' constructor)
      exact end1b rfl rfl rfl
    clear h
    repeat (refine stp rfl ?_ ?_;·repeat' constructor)
    (first | refine ps_split rfl rfl (fun h => ?_) (fun h => ?_) | refine pq_split rfl rfl (fun h => ?_) (fun h => ?_) | refine p3_split rfl rfl (fun h => ?_) (fun h => ?_))
    · repeat (refine stp rfl ?_ ?_;·repeat' constructor)
      exact end1b rfl rfl rfl
    have hc20 : ¬ (20 : Int) < (b.chain.map eS).length := of_decide_eq_false h
    clear h
    have h26 := texts_ret b.chain (by omega)
    have h28 := checkBound_ret w hw b (by omega)
    have h15 := refCheckWork_ret w hw
    have h27 := bestBound_ret w hw
    generalize (!b.chain.any fun s => decide (40 < s.length)) = tb at *
    repeat (refine stp rfl ?_ ?_;·repeat' constructor)
    cases tb with
    | false =>
      apply qst;exact rfl;exact rfl;exact q_callP rfl (h26) rfl (by repeat' constructor) rfl rfl
      repeat (refine stp rfl ?_ ?_;·repeat' constructor)
      exact end1b rfl rfl rfl
    | true =>
      apply qst;exact rfl;exact rfl;exact q_callP rfl (h26) rfl (by repeat' constructor) rfl rfl
      repeat (refine stp rfl ?_ ?_;·repeat' constructor)
      by_cases hz : workE w = 0
      · have hv := well_of hz
        have hbc := best_checks hz
        have hbl : (bestB w).chain.length ≤ 10000 := by
          rcases best_kind w with h | ⟨t, _, h⟩
          · rw [h]
            show ((longC w).map (nmN w)).length ≤ 10000
            have := len_le_wt hv (longC_ok hv).lk
            have := wt_2400 hv (longC_ok hv).lk
            rw [List.length_map]
            omega
          · rw [h]; show 0 ≤ 10000; omega
        have h28b := checkBound_ret w hw (bestB w) hbl
        rw [hbc] at h28b
        have h30 := bestBound_ref w hw hv
        have h31 := checkBound_ref w hw hv b (by omega)
        have h29 := same_ret (bestB w) (by omega)
        rw [bestR, if_pos hz] at h27
        rw [checkB, if_pos hz] at h28
        rw [checkBR] at h31
        generalize bestB w = bb at *
        generalize (if (provedB w b).2 = 0 then (if (provedB w b).1 < b.days then 24 else 0) else (provedB w b).2 : Int) = e at *
        rw [hz] at h15
        apply qst;exact rfl;exact rfl;exact q_call rfl (h27) rfl (by repeat' constructor) rfl
        repeat (refine stp rfl ?_ ?_;·repeat' constructor)
        apply qst;exact rfl;exact rfl;exact q_callP rfl (h28) rfl (by repeat' constructor) rfl rfl
        repeat (refine stp rfl ?_ ?_;·repeat' constructor)
        apply qst;exact rfl;exact rfl;exact q_callP rfl (h15) rfl (by repeat' constructor) rfl rfl
        repeat (refine stp rfl ?_ ?_;·repeat' constructor)
        refine pw_draw3 [] [] (by decide +kernel) ?_
        repeat (refine stp rfl ?_ ?_;·repeat' constructor)
        apply qst;exact rfl;exact rfl;exact q_call rfl (h30) rfl (by repeat' constructor) rfl
        repeat (refine stp rfl ?_ ?_;·repeat' constructor)
        apply qst;exact rfl;exact rfl;exact q_callP rfl (h29) rfl (by repeat' constructor) rfl rfl
        repeat (refine stp rfl ?_ ?_;·repeat' constructor)
        apply qst;exact rfl;exact rfl;exact q_callP rfl (h31) rfl (by repeat' constructor) rfl rfl
        repeat (refine stp rfl ?_ ?_;·repeat' constructor)
        (first | refine ps_split rfl rfl (fun h => ?_) (fun h => ?_) | refine pq_split rfl rfl (fun h => ?_) (fun h => ?_) | refine p3_split rfl rfl (fun h => ?_) (fun h => ?_))
        · clear h
          repeat (refine stp rfl ?_ ?_;·repeat' constructor)
          apply qst;exact rfl;exact rfl;exact q_callP rfl (h28b) rfl (by repeat' constructor) rfl rfl
          repeat (refine stp rfl ?_ ?_;·repeat' constructor)
          exact end1b rfl rfl rfl
        · exact absurd rfl (of_decide_eq_false h)
      · rw [bestR, if_neg hz] at h27
        rw [checkB, if_neg hz] at h28
        generalize workE w = e at *
        apply qst;exact rfl;exact rfl;exact q_call rfl (h27) rfl (by repeat' constructor) rfl
        repeat (refine stp rfl ?_ ?_;·repeat' constructor)
        apply qst;exact rfl;exact rfl;exact q_callP rfl (h28) rfl (by repeat' constructor) rfl rfl
        repeat (refine stp rfl ?_ ?_;·repeat' constructor)
        apply qst;exact rfl;exact rfl;exact q_callP rfl (h15) rfl (by repeat' constructor) rfl rfl
        repeat (refine stp rfl ?_ ?_;·repeat' constructor)
        refine pw_cond rfl (fun h => ?_) (fun h => ?_)
        · clear h
          repeat (refine stp rfl ?_ ?_;·repeat' constructor)
          (first | refine ps_split rfl rfl (fun h => ?_) (fun h => ?_) | refine pq_split rfl rfl (fun h => ?_) (fun h => ?_) | refine p3_split rfl rfl (fun h => ?_) (fun h => ?_))
          · clear h
            repeat (refine stp rfl ?_ ?_;·repeat' constructor)
            (first | refine ps_split rfl rfl (fun h => ?_) (fun h => ?_) | refine pq_split rfl rfl (fun h => ?_) (fun h => ?_) | refine p3_split rfl rfl (fun h => ?_) (fun h => ?_))
            · clear h
              repeat (refine stp rfl ?_ ?_;·repeat' constructor)
              apply qst;exact rfl;exact rfl;exact q_callP rfl (same0_ret) rfl (by repeat' constructor) rfl rfl
              repeat (refine stp rfl ?_ ?_;·repeat' constructor)
              exact end1b rfl rfl rfl
            · exact absurd rfl (of_decide_eq_false h)
          · exact absurd rfl (of_decide_eq_false h)
        · exact absurd (by simpa using h) hz
end Go.Pv

/- The example's bound; the laws are awake. -/
set_option maxHeartbeats 2000000
namespace Go.Pv
attribute [local irreducible] PWP POps PQuiet PSem XThen XBlock RetPost InlPost
open Go.Proofs

set_option maxRecDepth 20000 in
theorem pair_best : Ret Try.prog .shared 27 [.agg (eWork pairW)] (.tup [.agg [I 2, .sl [[.str [97]]], .str []], I 0]) := by
  have h20 := checkWork_ret pairW pair_sane
  rw [pair_work] at h20
  have h78 := tradeBound_ret pairW pair_well tradeW (by decide) (by decide)
  rw [show tradeB pairW tradeW = 2 by decide +kernel] at h78
  refine Ret.of_pwp layOk mixed Go.Proofs.Try.func27 rfl (by decide) rfl rfl ?_
  repeat (refine stp rfl ?_ ?_;·repeat' constructor)
  apply qst;exact rfl;exact rfl;exact q_callP rfl (h20) rfl (by repeat' constructor) rfl rfl
  repeat (refine stp rfl ?_ ?_;·repeat' constructor)
  apply qst;exact rfl;exact rfl;exact q_call rfl (pair_longest) rfl (by repeat' constructor) rfl
  repeat (refine stp rfl ?_ ?_;·repeat' constructor)
  refine pw_loop (fun (k : Nat) => k ≤ 1) (fun k => [(1, .ptr 1 1 0 0), (2, .ptr 2 1 0 0), (5, .ptr 5 1 0 0), (18, .sl (pairW.trades.map eTrade)), (19, I 1), (20, I k)])
    (fun _ => [(1, 1, ⟨28, 9, [eWork pairW], 2⟩), (2, 1, ⟨60, 3, [[I 0, .nil, .str []]], 2⟩), (5, 1, ⟨60, 3, [[I 2, .sl [[.str [97]]], .str []]], 2⟩)]) (fun k => 1 - k) 0 (by omega) ⟨rfl, rfl, rfl, rfl, rfl, rfl, rfl, rfl, rfl, trivial⟩ ?_
  intro k s hk
  obtain rfl | rfl : k = 0 ∨ k = 1 := by omega
  · repeat (refine stp rfl ?_ ?_;·repeat' constructor)
    refine zsq rfl (q_idx rfl rfl rfl rfl rfl (by decide) rfl rfl) ?_
    repeat (refine stp rfl ?_ ?_;·repeat' constructor)
    apply qst;exact rfl;exact rfl;exact q_callP rfl (h78) rfl (by repeat' constructor) rfl rfl
    repeat (refine stp rfl ?_ ?_;·repeat' constructor)
    exact ⟨1, by omega, by omega, rfl, rfl, rfl, rfl, rfl, rfl, rfl, rfl, rfl, trivial⟩
  · repeat (refine stp rfl ?_ ?_;·repeat' constructor)
    exact endm rfl (by repeat' constructor) rfl (by repeat' constructor) rfl

set_option maxRecDepth 20000 in
theorem awake_ret : Ret Try.prog .shared 10 [] (.bool true) := by
  have h21 := texts2_ret [[97]] [[97]] (by decide)
  rw [decide_eq_true rfl] at h21
  refine Ret.of_pwp layOk mixed Go.Proofs.Try.func10 rfl (by decide) rfl rfl ?_
  repeat (refine stp rfl ?_ ?_;·repeat' constructor)
  apply qst;exact rfl;exact rfl;exact q_call rfl (pair_ret) rfl (by repeat' constructor) rfl
  repeat (refine stp rfl ?_ ?_;·repeat' constructor)
  apply qst;exact rfl;exact rfl;exact q_slit rfl rfl rfl rfl rfl rfl rfl rfl rfl rfl (by repeat' constructor) rfl
  repeat (refine stp rfl ?_ ?_;·repeat' constructor)
  apply qst;exact rfl;exact rfl;exact q_callP rfl (pair_cost) rfl (by repeat' constructor) rfl rfl
  repeat (refine stp rfl ?_ ?_;·repeat' constructor)
  apply qst;exact rfl;exact rfl;exact q_call rfl (pair_ret) rfl (by repeat' constructor) rfl
  repeat (refine stp rfl ?_ ?_;·repeat' constructor)
  apply qst;exact rfl;exact rfl;exact q_call rfl (pair_best) rfl (by repeat' constructor) rfl
  repeat (refine stp rfl ?_ ?_;·repeat' constructor)
  apply qst;exact rfl;exact rfl;exact q_slit rfl rfl rfl rfl rfl rfl rfl rfl rfl rfl (by repeat' constructor) rfl
  repeat (refine stp rfl ?_ ?_;·repeat' constructor)
  apply qst;exact rfl;exact rfl;exact q_callP rfl (h21) rfl (by repeat' constructor) rfl rfl
  repeat (refine stp rfl ?_ ?_;·repeat' constructor)
  exact end1b rfl rfl rfl
end Go.Pv
