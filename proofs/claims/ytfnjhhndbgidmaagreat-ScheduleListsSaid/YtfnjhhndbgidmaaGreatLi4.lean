/- Texts of one hand, gathered: SdR, SdS, SdT, SdU, SdW, SdX, GzA, GzB, SdY, SeA, SeB, SeD, SeG, PvX, SeC, SeH, SeI. -/
import Derived.Test.YtfnjhhndbgidmaaGreatLi3
import Derived.KernelRfl
import Derived.ProofKit
import Derived.OpenShut
import Derived.Carry
/- The check of slots: the document's. -/
set_option maxHeartbeats 2000000
namespace Go.Pv
attribute [local irreducible] PWP POps PQuiet PSem XThen XBlock RetPost InlPost
open Go.Proofs

/-- How many modes the item of a slot has. -/
def modesOf (w : SWork) (s : SSlot) : Int := match w.items[(idx w.items (·.name == s.item)).toNat]? with | some x => x.modes.length | none => 0
def slotE (w : SWork) (l : List SSlot) (i : Nat) (s : SSlot) : Int :=
  if idx w.items (·.name == s.item) < 0 then 6 else if (l.take i).any (·.item == s.item) then 5 else if inside s.mode 0 (modesOf w s - 1) && inside s.day 0 400 then 0 else 2
def slotsE (w : SWork) (l : List SSlot) : Int := if l.length = w.items.length then fstE l (slotE w l) else 11

theorem checkSlots_ref (w : SWork) (hw : Sane w) (hm : ∀ x ∈ w.items, x.modes.length ≤ 100000) (l : List SSlot) : Ret Tryz.prog .shared 12 [.agg (eWork w), .sl (l.map eSlot)] (I (slotsE w l)) := by
  have h1 := hw.items
  have hml : (w.items.map eItem).length = w.items.length := by simp
  have hll : (l.map eSlot).length = l.length := by simp
  refine Ret.of_pwp layOk mixed Go.Proofs.Tryz.func12 rfl (by decide) rfl rfl ?_
  repeat (refine stp rfl ?_ ?_;·repeat' constructor)
  refine pw_cond rfl (fun h => ?_) (fun h => ?_)
  · have hne : ¬ l.length = w.items.length := by intro e; simp [e] at h
    repeat (refine stp rfl ?_ ?_;·repeat' constructor)
    exact end1i rfl rfl (by rw [slotsE, if_neg hne])
  have hlen : l.length = w.items.length := by simp at h; omega
  have it : slotsE w l = fstE l (slotE w l) := by rw [slotsE, if_pos hlen]
  clear h
  repeat (refine stp rfl ?_ ?_;·repeat' constructor)
  refine pw_loop (ClearE l (slotE w l)) (fun k => [(1, .sl (l.map eSlot)), (2, .ptr 2 1 0 0), (5, I k)]) (fun _ => [(2, 1, ⟨28, 9, [eWork w], 2⟩)]) (fun k => l.length - k) 0 .zero' ⟨rfl, rfl, rfl, rfl, trivial⟩ ?_
  intro k s hk
  repeat (refine stp rfl ?_ ?_;·repeat' constructor)
  refine pw_cond rfl (fun h => ?_) (fun h => ?_)
  · have hlt : k < l.length := by simpa using h
    obtain ⟨x, hx⟩ := get_lt hlt
    clear h
    have bad : ∀ e, slotE w l k x = e → e ≠ 0 → slotsE w l = e := fun e hb he => by rw [it, hk.found (e := e) hx hb he]
    repeat (refine stp rfl ?_ ?_;·repeat' constructor)
    refine pw_draw 8 [20, 21, 22, 23, 24, 25, 26, 6] (by decide +kernel) ?_
    repeat (refine stp rfl ?_ ?_;·repeat' constructor)
    apply qst;exact rfl;exact rfl;exact q_idxm rfl rfl rfl rfl rfl (by omega) hx rfl
    repeat (refine stp rfl ?_ ?_;·repeat' constructor)
    apply qst;exact rfl;exact rfl;exact q_callP rfl (itemOf_ret w x.item (by omega)) rfl (by repeat' constructor) rfl rfl
    repeat (refine stp rfl ?_ ?_;·repeat' constructor)
    refine pw_cond rfl (fun h => ?_) (fun h => ?_)
    · have hneg := of_decide_eq_true h
      repeat (refine stp rfl ?_ ?_;·repeat' constructor)
      exact end1i rfl rfl (by rw [bad 6 (by rw [slotE, if_pos hneg]) (by omega)])
    have hn := of_decide_eq_false h
    clear h
    obtain ⟨y, hy, _⟩ := idx_lt (Int.not_lt.1 hn)
    have hym := hm y (List.mem_of_getElem? hy)
    have hmo : modesOf w x = y.modes.length := by rw [modesOf, hy]
    repeat (refine stp rfl ?_ ?_;·repeat' constructor)
    refine pw_loop (fun j => Clear (l.take k) (·.item == x.item) j) (fun j => [(1, .sl (l.map eSlot)), (2, .ptr 2 1 0 0), (5, I k), (6, I (idx w.items (·.name == x.item))), (7, I j)]) (fun _ => [(2, 1, ⟨28, 9, [eWork w], 2⟩)]) (fun j => k - j) 0 .zero ⟨rfl, rfl, rfl, rfl, rfl, rfl, trivial⟩ ?_
    intro j s' hj
    have htl : (l.take k).length = k := by rw [List.length_take]; omega
    repeat (refine stp rfl ?_ ?_;·repeat' constructor)
    refine pw_cond rfl (fun h => ?_) (fun h => ?_)
    · have hjk : j < k := by simpa using h
      clear h
      obtain ⟨z, hz⟩ := get_lt (show j < l.length by omega)
      have hzt : (l.take k)[j]? = some z := by rw [List.getElem?_take, if_pos hjk]; exact hz
      repeat (refine stp rfl ?_ ?_;·repeat' constructor)
      refine pw_draw 11 [34, 35, 36, 37, 38, 39, 40, 41, 42, 43, 44] (by decide +kernel) ?_
      repeat (refine stp rfl ?_ ?_;·repeat' constructor)
      apply qst;exact rfl;exact rfl;exact q_idxm rfl rfl rfl rfl rfl (by omega) hz rfl
      repeat (refine stp rfl ?_ ?_;·repeat' constructor)
      apply qst;exact rfl;exact rfl;exact q_idxm rfl rfl rfl rfl rfl (by omega) hx rfl
      repeat (refine stp rfl ?_ ?_;·repeat' constructor)
      refine pw_cond rfl (fun h => ?_) (fun h => ?_)
      · have he := of_decide_eq_true h
        repeat (refine stp rfl ?_ ?_;·repeat' constructor)
        exact end1i rfl rfl (by rw [bad 5 (by rw [slotE, if_neg hn, if_pos (any_of hzt (by simp [he]))]) (by omega)])
      · have hne := of_decide_eq_false h
        repeat (refine stp rfl ?_ ?_;·repeat' constructor)
        refine ⟨j + 1, hj.succ hzt (by simpa using hne), by omega, rfl, rfl, rfl, rfl, ?_, rfl, trivial⟩
        exact i64_next (by omega) (by omega)
    have hno : (l.take k).any (·.item == x.item) = false := hj.any (by simp at h; omega)
    clear h
    have own : slotE w l k x = if inside x.mode 0 (y.modes.length - 1) && inside x.day 0 400 then 0 else 2 := by rw [slotE, if_neg hn, hno, hmo]; rfl
    have hw1 : IntKind.i64.wrap (((y.modes.map eMode).length : Int) - 1) = y.modes.length - 1 := by rw [List.length_map, wrap_i64 (by omega) (by omega)]
    repeat (refine stp rfl ?_ ?_;·repeat' constructor)
    refine pw_draw 24 [45, 46, 47, 48, 49, 50, 51, 52, 53, 54, 55, 56, 57, 58, 59, 60, 61, 62, 63, 64, 65, 66, 67, 68] (by decide +kernel) ?_
    repeat (refine stp rfl ?_ ?_;·repeat' constructor)
    apply qst;exact rfl;exact rfl;exact q_idxm rfl rfl rfl rfl rfl (by omega) hx rfl
    repeat (refine stp rfl ?_ ?_;·repeat' constructor)
    apply qst;exact rfl;exact rfl;exact q_idxm rfl rfl rfl rfl rfl (by omega) hy rfl
    repeat (refine stp rfl ?_ ?_;·repeat' constructor)
    rw [hw1]
    apply qst;exact rfl;exact rfl;exact q_callP rfl (inside_ret x.mode 0 (y.modes.length - 1)) rfl (by repeat' constructor) rfl rfl
    repeat (refine stp rfl ?_ ?_;·repeat' constructor)
    (first | refine ps_split rfl rfl (fun h => ?_) (fun h => ?_) | refine pq_split rfl rfl (fun h => ?_) (fun h => ?_) | refine p3_split rfl rfl (fun h => ?_) (fun h => ?_))
    · have hb : inside x.mode 0 (y.modes.length - 1) = false := by simpa using h
      repeat (refine stp rfl ?_ ?_;·repeat' constructor)
      exact end1i rfl rfl (by rw [bad 2 (by rw [own, hb]; rfl) (by omega)])
    have hb : inside x.mode 0 (y.modes.length - 1) = true := by simpa using h
    clear h
    repeat (refine stp rfl ?_ ?_;·repeat' constructor)
    apply qst;exact rfl;exact rfl;exact q_idxm rfl rfl rfl rfl rfl (by omega) hx rfl
    repeat (refine stp rfl ?_ ?_;·repeat' constructor)
    apply qst;exact rfl;exact rfl;exact q_callP rfl (inside_ret x.day 0 400) rfl (by repeat' constructor) rfl rfl
    repeat (refine stp rfl ?_ ?_;·repeat' constructor)
    refine pw_cond rfl (fun h => ?_) (fun h => ?_)
    · have hb2 : inside x.day 0 400 = false := by simpa using h
      repeat (refine stp rfl ?_ ?_;·repeat' constructor)
      exact end1i rfl rfl (by rw [bad 2 (by rw [own, hb, hb2]; rfl) (by omega)])
    have hb2 : inside x.day 0 400 = true := by simpa using h
    clear h
    repeat (refine stp rfl ?_ ?_;·repeat' constructor)
    refine ⟨k + 1, hk.succ hx (by rw [own, hb, hb2]; rfl), by omega, rfl, rfl, ?_, rfl, trivial⟩
    exact i64_next (by omega) (by omega)
  · repeat (refine stp rfl ?_ ?_;·repeat' constructor)
    exact end1i rfl rfl (by rw [it, hk.none (by simpa using h)])
end Go.Pv

/- Slots, laid in the order of the work, or their error. -/
set_option maxHeartbeats 2000000
namespace Go.Pv
attribute [local irreducible] PWP POps PQuiet PSem XThen XBlock RetPost InlPost
open Go.Proofs

structure SPl where
  mode : Int
  day : Int
  on : Bool
def ePl (p : SPl) : List PV := [I p.mode, I p.day, .bool p.on]
def pl (s : List SSlot) (n : Str) : SPl := match s.find? (·.item == n) with | some sl => ⟨sl.mode, sl.day, true⟩ | none => ⟨0, 0, false⟩
def placed (w : SWork) (s : List SSlot) : List SPl := w.items.map fun x => pl s x.name
theorem pl_on (s : List SSlot) (n : Str) : (pl s n).on = s.any (·.item == n) := by
  unfold pl
  cases h : s.find? (·.item == n) with
  | none =>
    rw [List.find?_eq_none] at h
    symm
    rw [List.any_eq_false]
    exact h
  | some a =>
    symm
    rw [List.any_eq_true]
    exact ⟨a, List.mem_of_find?_eq_some h, by simpa using List.find?_some h⟩
theorem pl_snoc {s : List SSlot} {x : SSlot} {n : Str} (h : (pl s n).on = false) : pl (s ++ [x]) n = if x.item = n then ⟨x.mode, x.day, true⟩ else pl s n := by
  rw [pl_on] at h
  unfold pl
  have : s.find? (·.item == n) = none := by rw [List.find?_eq_none]; rw [List.any_eq_false] at h; exact h
  rw [List.find?_append, this]
  by_cases hx : x.item = n <;> simp [hx]
theorem pl_snoc_ne {s : List SSlot} {x : SSlot} {n : Str} (h : ¬ x.item = n) : pl (s ++ [x]) n = pl s n := by
  unfold pl
  rw [List.find?_append]
  cases s.find? (·.item == n) <;> simp [h]
theorem placed_set {w : SWork} (hg : Good1 w) {s : List SSlot} {x : SSlot} {i : Nat} {y : SItem} (hy : w.items[i]? = some y) (hn : y.name = x.item) (h : (pl s x.item).on = false) : (placed w s).set i ⟨x.mode, x.day, true⟩ = placed w (s ++ [x]) := by
  unfold placed
  apply List.ext_getElem?
  intro j
  by_cases hj : i = j
  · subst hj
    have hlt := (List.getElem?_eq_some_iff.1 hy).1
    rw [List.getElem?_set_self (by simpa using hlt), List.getElem?_map, hy]
    simp only [Option.map_some]
    rw [hn, pl_snoc h, if_pos rfl]
  · rw [List.getElem?_set_ne hj, List.getElem?_map, List.getElem?_map]
    cases hz : w.items[j]? with
    | none => rfl
    | some z =>
      simp only [Option.map_some]
      have hne : ¬ x.item = z.name := fun e => by
        have e1 := hg.uniq i y hy
        have e2 := hg.uniq j z hz
        rw [hn, e, e2] at e1
        omega
      rw [pl_snoc_ne hne]

theorem map_same {α β : Type} (l : List α) (b : β) : l.map (fun _ => b) = List.replicate l.length b := by
  induction l with
  | nil => rfl
  | cons a l ih => rw [List.map_cons, ih]; rfl

def slE (w : SWork) (l : List SSlot) : Int := if workE w = 0 then slotsE w l else workE w
def slotsR (w : SWork) (l : List SSlot) : PV := if slE w l = 0 then .tup [.sl ((placed w l).map ePl), I 0] else .tup [.nil, I (slE w l)]
theorem slotsR_bad {w : SWork} {l : List SSlot} {e : Int} (h : slE w l = e) (hne : e ≠ 0) : PV.tup [.nil, I e] = slotsR w l := by subst h; rw [slotsR, if_neg hne]
theorem workE_items {w : SWork} (h : workE w = 0) : itemsE w = 0 := by
  unfold workE at h
  split at h
  · split at h
    · split at h
      · assumption
      · rename_i h1; exact absurd h h1
    · rename_i h1; exact absurd h h1
  · rename_i h1; exact absurd h h1

theorem slotsErr_ret (w : SWork) (hw : Sane w) (l : List SSlot) : Ret Tryz.prog .shared 31 [.agg (eWork w), .sl (l.map eSlot)] (slotsR w l) := by
  have h1 := hw.items
  have hml : (w.items.map eItem).length = w.items.length := by simp
  have hll : (l.map eSlot).length = l.length := by simp
  have hn : ((w.items.map (·.name)).map eS).length = w.items.length := by simp
  refine Ret.of_pwp layOk mixed Go.Proofs.Tryz.func31 rfl (by decide) rfl rfl ?_
  repeat (refine stp rfl ?_ ?_;·repeat' constructor)
  apply qst;exact rfl;exact rfl;exact q_callP rfl (checkWork_ret w hw) rfl (by repeat' constructor) rfl rfl
  repeat (refine stp rfl ?_ ?_;·repeat' constructor)
  refine pw_cond rfl (fun h => ?_) (fun h => ?_)
  · have hne : ¬ workE w = 0 := by simpa using h
    repeat (refine stp rfl ?_ ?_;·repeat' constructor)
    exact end2 rfl rfl rfl rfl rfl trivial trivial (slotsR_bad (by rw [slE, if_neg hne]) hne)
  have hz : workE w = 0 := by simpa using h
  have hg := good_of (workE_items hz)
  have hsl : slE w l = slotsE w l := by rw [slE, if_pos hz]
  clear h
  repeat (refine stp rfl ?_ ?_;·repeat' constructor)
  refine pw_cond rfl (fun h => ?_) (fun h => ?_)
  · have hne : ¬ l.length = w.items.length := by intro e; simp [e] at h
    repeat (refine stp rfl ?_ ?_;·repeat' constructor)
    exact end2 rfl rfl rfl rfl rfl trivial trivial (slotsR_bad (by rw [hsl, slotsE, if_neg hne]) (by omega))
  have hlen : l.length = w.items.length := by simp at h; omega
  have it : slE w l = fstE l (slotE w l) := by rw [hsl, slotsE, if_pos hlen]
  clear h
  repeat (refine stp rfl ?_ ?_;·repeat' constructor)
  apply qst;exact rfl;exact rfl;exact q_call rfl (itemNames_ret w (by omega)) rfl (by repeat' constructor) rfl
  repeat (refine stp rfl ?_ ?_;·repeat' constructor)
  refine ps_run (o_make rfl rfl rfl rfl rfl rfl rfl rfl (by omega) (by rw [hn]; show ((24 : Nat) : Int) * _ ≤ _; omega) (by rw [hn]; omega) ?_)
  repeat (refine stp rfl ?_ ?_;·repeat' constructor)
  refine pw_loop (ClearE l (slotE w l)) (fun k => [(1, .sl (l.map eSlot)), (2, .ptr 2 1 0 0), (7, .sl ((w.items.map (·.name)).map eS)), (8, .als 27 1 0 w.items.length), (28, .sl (l.map eSlot)), (29, I l.length), (30, I k)]) (fun k => [(2, 1, ⟨28, 9, [eWork w], 2⟩), (27, 1, ⟨102, 3, (placed w (l.take k)).map ePl, 0⟩)]) (fun k => l.length - k) 0 .zero' ⟨rfl, rfl, rfl, ?_, rfl, ?_, rfl, rfl, ?_, trivial⟩ ?_
  · show PV.als 27 1 0 (List.length (List.replicate (Int.toNat ((w.items.map (·.name)).map eS).length) _)) = _
    simp
  · show I ((l.map eSlot).length) = _
    rw [hll]
  · show (1, some (Cont.mk 102 3 (List.replicate (Int.toNat ((w.items.map (·.name)).map eS).length) _) 0)) = _
    rw [hn, Int.toNat_natCast]
    have : (placed w (l.take 0)).map ePl = List.replicate w.items.length (ePl ⟨0, 0, false⟩) := by
      rw [placed, List.map_map]
      exact map_same w.items (ePl ⟨0, 0, false⟩)
    rw [this]
    rfl
  intro k s hk
  have hpl : ∀ (i : Nat) (y : SItem), w.items[i]? = some y → ((placed w (l.take k)).map ePl)[i]? = some (ePl (pl (l.take k) y.name)) := fun i y hy => by rw [placed, List.map_map, List.getElem?_map, hy]; rfl
  repeat (refine stp rfl ?_ ?_;·repeat' constructor)
  refine pw_cond rfl (fun h => ?_) (fun h => ?_)
  · have hlt : k < l.length := by simpa using h
    obtain ⟨x, hx⟩ := get_lt hlt
    clear h
    have bad : ∀ e, slotE w l k x = e → e ≠ 0 → PV.tup [.nil, I e] = slotsR w l := fun e hb he => slotsR_bad (by rw [it, hk.found (e := e) hx hb he]) he
    repeat (refine stp rfl ?_ ?_;·repeat' constructor)
    apply qst;exact rfl;exact rfl;exact q_idxm rfl rfl rfl rfl rfl (by omega) hx rfl
    repeat (refine stp rfl ?_ ?_;·repeat' constructor)
    apply qst;exact rfl;exact rfl;exact q_callP rfl (index_ret (w.items.map (·.name)) x.item (by simp; omega)) rfl (by repeat' constructor) rfl rfl
    have him : idx (w.items.map (·.name)) (· == x.item) = idx w.items (·.name == x.item) := idx_map _ _ _
    rw [him]
    repeat (refine stp rfl ?_ ?_;·repeat' constructor)
    refine pw_cond rfl (fun h => ?_) (fun h => ?_)
    · have hneg := of_decide_eq_true h
      repeat (refine stp rfl ?_ ?_;·repeat' constructor)
      exact end2 rfl rfl rfl rfl rfl trivial trivial (bad 6 (by rw [slotE, if_pos hneg]) (by omega))
    have hn0 := of_decide_eq_false h
    clear h
    obtain ⟨y, hy, hyn⟩ := idx_lt (Int.not_lt.1 hn0)
    have hyn : y.name = x.item := by simpa using hyn
    obtain ⟨i, hi⟩ : ∃ i : Nat, idx w.items (·.name == x.item) = i := ⟨_, (Int.toNat_of_nonneg (Int.not_lt.1 hn0)).symm⟩
    rw [hi, Int.toNat_natCast] at hy
    rw [hi] at him ⊢
    have hil := (List.getElem?_eq_some_iff.1 hy).1
    have hmo : modesOf w x = y.modes.length := by rw [modesOf, hi, Int.toNat_natCast, hy]
    have hrow := hpl i y hy
    rw [hyn] at hrow
    repeat (refine stp rfl ?_ ?_;·repeat' constructor)
    refine ps_q (q_idxA rfl rfl rfl rfl rfl rfl rfl (by omega) (by omega)) ?_
    rw [Int.toNat_natCast, Nat.zero_add i]
    repeat (refine stp rfl ?_ ?_;·repeat' constructor)
    refine ps_q (q_ldp rfl rfl rfl hrow rfl) ?_
    repeat (refine stp rfl ?_ ?_;·repeat' constructor)
    refine pw_cond rfl (fun h => ?_) (fun h => ?_)
    · have h : (pl (l.take k) x.item).on = true := h
      rw [pl_on] at h
      repeat (refine stp rfl ?_ ?_;·repeat' constructor)
      exact end2 rfl rfl rfl rfl rfl trivial trivial (bad 5 (by rw [slotE, if_neg hn0, if_pos h]) (by omega))
    have hoff : (pl (l.take k) x.item).on = false := h
    have hno := hoff
    rw [pl_on] at hno
    clear h
    have own : slotE w l k x = if inside x.mode 0 (y.modes.length - 1) && inside x.day 0 400 then 0 else 2 := by rw [slotE, if_neg hn0, hno, hmo]; rfl
    repeat (refine stp rfl ?_ ?_;·repeat' constructor)
    refine pw_draw 22 [48, 49, 50, 51, 52, 53, 54, 55, 56, 57, 58, 59, 60, 61, 62, 63, 64, 65, 66, 67, 68, 47] (by decide +kernel) ?_
    repeat (refine stp rfl ?_ ?_;·repeat' constructor)
    (first | refine ps_split rfl rfl (fun h => ?_) (fun h => ?_) | refine pq_split rfl rfl (fun h => ?_) (fun h => ?_) | refine p3_split rfl rfl (fun h => ?_) (fun h => ?_))
    · have hb : inside x.mode 0 (y.modes.length - 1) = false := by have := of_decide_eq_true h; rw [inside, decide_eq_false (by omega)]; rfl
      repeat (refine stp rfl ?_ ?_;·repeat' constructor)
      exact end2 rfl rfl rfl rfl rfl trivial trivial (bad 2 (by rw [own, hb]; rfl) (by omega))
    have hlo := of_decide_eq_false h
    clear h
    repeat (refine stp rfl ?_ ?_;·repeat' constructor)
    apply qst;exact rfl;exact rfl;exact q_idxm (n := (i : Int)) rfl rfl rfl rfl rfl (by omega) hy rfl
    repeat (refine stp rfl ?_ ?_;·repeat' constructor)
    (first | refine ps_split rfl rfl (fun h => ?_) (fun h => ?_) | refine pq_split rfl rfl (fun h => ?_) (fun h => ?_) | refine p3_split rfl rfl (fun h => ?_) (fun h => ?_))
    · have hb : inside x.mode 0 (y.modes.length - 1) = false := by have := of_decide_eq_true h; rw [List.length_map] at this; rw [inside, decide_eq_false (p := x.mode ≤ _) (by omega), Bool.and_false]
      repeat (refine stp rfl ?_ ?_;·repeat' constructor)
      exact end2 rfl rfl rfl rfl rfl trivial trivial (bad 2 (by rw [own, hb]; rfl) (by omega))
    have hb : inside x.mode 0 (y.modes.length - 1) = true := by have := of_decide_eq_false h; rw [List.length_map] at this; rw [inside, decide_eq_true (p := 0 ≤ x.mode) (by omega), decide_eq_true (p := x.mode ≤ _) (by omega)]; rfl
    clear h
    repeat (refine stp rfl ?_ ?_;·repeat' constructor)
    apply qst;exact rfl;exact rfl;exact q_callP rfl (within_ret x.day 400) rfl (by repeat' constructor) rfl rfl
    repeat (refine stp rfl ?_ ?_;·repeat' constructor)
    refine pw_cond rfl (fun h => ?_) (fun h => ?_)
    · have hb2 : inside x.day 0 400 = false := by simpa using h
      repeat (refine stp rfl ?_ ?_;·repeat' constructor)
      exact end2 rfl rfl rfl rfl rfl trivial trivial (bad 2 (by rw [own, hb, hb2]; rfl) (by omega))
    have hb2 : inside x.day 0 400 = true := by simpa using h
    clear h
    repeat (refine stp rfl ?_ ?_;·repeat' constructor)
    refine ps_q (q_idxA rfl rfl rfl rfl rfl rfl rfl (by omega) (by omega)) ?_
    rw [Int.toNat_natCast, Nat.zero_add i]
    refine ps_run0 (o_store (kd' := 0) rfl rfl rfl hrow rfl rfl (by repeat' constructor) rfl rfl rfl rfl ?_)
    repeat (refine stp rfl ?_ ?_;·repeat' constructor)
    refine ⟨k + 1, hk.succ hx (by rw [own, hb, hb2]; rfl), by omega, rfl, rfl, rfl, rfl, rfl, rfl, ?_, rfl, ?_, trivial⟩
    · exact i64_next (by omega) (by omega)
    · refine Eq.trans (b := (1, some (Cont.mk 102 3 (((placed w (l.take k)).map ePl).set i (ePl ⟨x.mode, x.day, true⟩)) 0))) rfl ?_
      rw [← List.map_set, placed_set hg hy hyn hoff, take_snoc hx]
  · have hE : slE w l = 0 := by rw [it, hk.none (by simpa using h)]
    have htk : l.take k = l := List.take_of_length_le (by have := of_decide_eq_false h; omega)
    rw [htk]
    clear h
    repeat (refine stp rfl ?_ ?_;·repeat' constructor)
    exact end2 rfl rfl rfl rfl rfl ⟨rfl, rfl, by simp [placed]⟩ trivial (by rw [slotsR, if_pos hE])
end Go.Pv

/- What holds of work without an error; ends, costs, outages. -/
set_option maxHeartbeats 2000000
namespace Go.Pv
attribute [local irreducible] PWP POps PQuiet PSem XThen XBlock RetPost InlPost
open Go.Proofs

def modeAt (x : SItem) (k : Int) : SMode := (x.modes[k.toNat]?).getD ⟨0, 0⟩
def endP (x : SItem) (p : SPl) : Int := p.day + (modeAt x p.mode).days
/-- A slot that its item can have. -/
structure PlOk (x : SItem) (p : SPl) : Prop where
  lo : 0 ≤ p.mode
  mode : x.modes[p.mode.toNat]? = some (modeAt x p.mode)
  day : 0 ≤ p.day ∧ p.day ≤ 400
  days : 1 ≤ (modeAt x p.mode).days ∧ (modeAt x p.mode).days ≤ 60
  crew : 0 ≤ (modeAt x p.mode).crew ∧ (modeAt x p.mode).crew ≤ 1000

theorem inside_iff {n a b : Int} : inside n a b = true ↔ a ≤ n ∧ n ≤ b := by simp [inside]

structure ItemOk (w : SWork) (x : SItem) : Prop where
  trade : 0 ≤ idx w.trades (·.name == x.trade)
  modes : 1 ≤ x.modes.length ∧ x.modes.length ≤ 3
  mode : ∀ m ∈ x.modes, (1 ≤ m.days ∧ m.days ≤ 60) ∧ (0 ≤ m.crew ∧ m.crew ≤ 1000) ∧ m.crew ≤ crewOf w x
  space : x.space ≠ [] → noSpace w x.space = false
  kind : -1 ≤ x.kind ∧ x.kind ≤ 5
  kspace : x.kind ≠ -1 → x.space ≠ []
structure Well (w : SWork) : Prop where
  n40 : w.items.length ≤ 40
  t6 : w.trades.length ≤ 6
  good : Good1 w
  item : ∀ x ∈ w.items, ItemOk w x
  trade : ∀ t ∈ w.trades, (0 ≤ t.crew ∧ t.crew ≤ 1000) ∧ 0 ≤ t.rate ∧ t.rate ≤ 1000000
  tuniq : ∀ (i : Nat) t, w.trades[i]? = some t → idx w.trades (·.name == t.name) = i
  excls : w.excls.length ≤ 30
  outs : w.outs.length ≤ 20
  excl : ∀ x ∈ w.excls, (0 ≤ x.a ∧ x.a ≤ 5) ∧ (0 ≤ x.b ∧ x.b ≤ 5) ∧ 0 ≤ x.reach ∧ x.reach ≤ 2
  out : ∀ o ∈ w.outs, (0 ≤ o.frm ∧ o.frm ≤ 400) ∧ 0 ≤ o.to ∧ o.to ≤ 400
  hire : 0 ≤ w.hire ∧ w.hire ≤ 1000000000
  late : 0 ≤ w.late ∧ w.late ≤ 1000000000
  due : 0 ≤ w.due ∧ w.due ≤ 400
  last : 0 ≤ w.last ∧ w.last ≤ 400
  full : ¬ (ordS w).length < w.items.length

theorem ite_zero {c : Prop} [Decidable c] {a e : Int} (h : (if c then a else e) = 0) (he : e ≠ 0) : c ∧ a = 0 := by
  split at h
  · exact ⟨‹_›, h⟩
  · exact absurd h he
theorem ite_zero' {c : Prop} [Decidable c] {a e : Int} (h : (if c then e else a) = 0) (he : e ≠ 0) : ¬ c ∧ a = 0 := by
  split at h
  · exact absurd h he
  · exact ⟨‹_›, h⟩
theorem ite_self_zero {a b : Int} (h : (if a = 0 then b else a) = 0) : a = 0 ∧ b = 0 := by
  split at h
  · exact ⟨‹_›, h⟩
  · exact absurd h ‹_›

theorem itemOk_of {w : SWork} {x : SItem} (h : itemE w x = 0) : ItemOk w x := by
  unfold itemE at h
  obtain ⟨h1, h⟩ := ite_zero' h (by omega)
  obtain ⟨h2, h⟩ := ite_zero' h (by omega)
  obtain ⟨h3, h⟩ := ite_self_zero h
  obtain ⟨h4, h⟩ := ite_zero' h (by omega)
  obtain ⟨h5, h⟩ := ite_zero h (by omega)
  obtain ⟨h6, h⟩ := ite_zero' h (by omega)
  have hm := fstE_zero h3
  refine ⟨by omega, ?_, fun m hm' => ?_, fun hs => ?_, inside_iff.1 h5, fun hk hs => h6 ⟨hk, hs⟩⟩
  · simp only [Bool.or_eq_true, decide_eq_true_eq, not_or] at h2
    omega
  · obtain ⟨i, hi, rfl⟩ := List.getElem_of_mem hm'
    have := hm i _ (List.getElem?_eq_getElem hi)
    unfold modeE at this
    obtain ⟨g1, g2⟩ := ite_zero this (by omega)
    obtain ⟨g3, _⟩ := ite_zero' g2 (by omega)
    simp only [Bool.and_eq_true, inside_iff] at g1
    exact ⟨g1.1, g1.2, by omega⟩
  · cases hb : noSpace w x.space with
    | false => rfl
    | true => exact absurd ⟨hs, hb⟩ h4

theorem well_of {w : SWork} (h : workE w = 0) : Well w := by
  unfold workE at h
  obtain ⟨h1, h⟩ := ite_self_zero h
  obtain ⟨h2, h⟩ := ite_self_zero h
  obtain ⟨h3, h⟩ := ite_self_zero h
  obtain ⟨h4, h⟩ := ite_zero h (by omega)
  obtain ⟨h5, _⟩ := ite_zero' h (by omega)
  have hg := good_of h3
  unfold tradesE at h1
  obtain ⟨t1, t2⟩ := ite_zero' h1 (by omega)
  have t3 := fstE_zero t2
  unfold roomE at h2
  obtain ⟨r1, r2⟩ := ite_self_zero h2
  unfold rulesE at r2
  obtain ⟨r3, r2⟩ := ite_zero' r2 (by omega)
  obtain ⟨r4, r2⟩ := ite_self_zero r2
  obtain ⟨r5, r2⟩ := ite_zero' r2 (by omega)
  have r6 := fstE_zero r4
  have r7 := fstE_zero r2
  unfold itemsE at h3
  obtain ⟨i1, i2⟩ := ite_zero' h3 (by omega)
  have i3 := fstE_zero i2
  simp only [figE, Bool.and_eq_true, inside_iff] at h4
  have tr : ∀ (i : Nat) t, w.trades[i]? = some t → idx w.trades (·.name == t.name) = i ∧ tradeE t = 0 := fun i t ht => by
    have := t3 i t ht
    obtain ⟨_, g2⟩ := ite_zero this (by omega)
    exact ite_zero g2 (by omega)
  refine ⟨by omega, by omega, hg, fun x hx => ?_, fun t ht => ?_, fun i t ht => (tr i t ht).1, by omega, by omega, fun x hx => ?_, fun o ho => ?_, h4.1.1.1, h4.1.1.2, h4.1.2, h4.2, h5⟩
  · obtain ⟨i, hi, rfl⟩ := List.getElem_of_mem hx
    have := i3 i _ (List.getElem?_eq_getElem hi)
    obtain ⟨_, g2⟩ := ite_zero this (by omega)
    obtain ⟨_, g3⟩ := ite_zero g2 (by omega)
    exact itemOk_of g3
  · obtain ⟨i, hi, rfl⟩ := List.getElem_of_mem ht
    have := (tr i _ (List.getElem?_eq_getElem hi)).2
    unfold tradeE at this
    obtain ⟨g, _⟩ := ite_zero this (by omega)
    simp only [Bool.and_eq_true, inside_iff] at g
    exact g
  · obtain ⟨i, hi, rfl⟩ := List.getElem_of_mem hx
    have := r6 i _ (List.getElem?_eq_getElem hi)
    unfold exclE at this
    obtain ⟨g, _⟩ := ite_zero this (by omega)
    simp only [Bool.and_eq_true, inside_iff] at g
    exact ⟨g.1.1, g.1.2, g.2⟩
  · obtain ⟨i, hi, rfl⟩ := List.getElem_of_mem ho
    have := r7 i _ (List.getElem?_eq_getElem hi)
    unfold outE at this
    obtain ⟨g, _⟩ := ite_zero this (by omega)
    simp only [Bool.and_eq_true, inside_iff] at g
    exact g

theorem plOk_of {w : SWork} (hw : Well w) {x : SItem} (hx : x ∈ w.items) {p : SPl} (h1 : 0 ≤ p.mode) (h2 : p.mode < x.modes.length) (h3 : 0 ≤ p.day ∧ p.day ≤ 400) : PlOk x p := by
  have hlt : p.mode.toNat < x.modes.length := by omega
  have hm : x.modes[p.mode.toNat]? = some (modeAt x p.mode) := by rw [modeAt, List.getElem?_eq_getElem hlt]; rfl
  have := (hw.item x hx).mode _ (List.mem_of_getElem? hm)
  exact ⟨h1, hm, h3, this.1, this.2.1⟩

theorem slot_of {w : SWork} {l : List SSlot} (hs : slotsE w l = 0) {k : Nat} {sl : SSlot} (hk : l[k]? = some sl) : 0 ≤ idx w.items (·.name == sl.item) ∧ (l.take k).any (·.item == sl.item) = false ∧ (0 ≤ sl.mode ∧ sl.mode ≤ modesOf w sl - 1) ∧ 0 ≤ sl.day ∧ sl.day ≤ 400 := by
  unfold slotsE at hs
  obtain ⟨_, hs⟩ := ite_zero hs (by omega)
  have := fstE_zero hs k sl hk
  unfold slotE at this
  obtain ⟨g1, this⟩ := ite_zero' this (by omega)
  obtain ⟨g2, this⟩ := ite_zero' this (by omega)
  obtain ⟨g3, _⟩ := ite_zero this (by omega)
  simp only [Bool.and_eq_true, inside_iff] at g3
  exact ⟨by omega, by simpa using g2, g3.1, g3.2⟩

theorem end_ret (x : SItem) (p : SPl) (h : PlOk x p) : Ret Tryz.prog .shared 60 [.agg (ePl p), .agg (eItem x)] (I (endP x p)) := by
  have hm := h.mode
  have hlo := h.lo
  have h1 := h.day
  have h2 := h.days
  refine Ret.of_pwp layOk mixed Go.Proofs.Tryz.func60 rfl (by decide) rfl rfl ?_
  repeat (refine stp rfl ?_ ?_;·repeat' constructor)
  refine pw_draw 11 [5, 6, 7, 8, 9, 10, 11, 12, 13, 14, 4] (by decide +kernel) ?_
  repeat (refine stp rfl ?_ ?_;·repeat' constructor)
  apply qst;exact rfl;exact rfl;exact q_idxm rfl rfl rfl rfl rfl (by omega) hm rfl
  repeat (refine stp rfl ?_ ?_;·repeat' constructor)
  exact end1i rfl rfl (by rw [wrap_i64 (by omega) (by omega)]; rfl)

/-- The items with their slots. -/
def prs (w : SWork) (l : List SPl) : List (SItem × SPl) := w.items.zip l
theorem prs_at {w : SWork} {l : List SPl} {k : Nat} {x : SItem} {p : SPl} (hx : w.items[k]? = some x) (hp : l[k]? = some p) : (prs w l)[k]? = some (x, p) := by
  rw [prs, List.getElem?_zip_eq_some]; exact ⟨hx, hp⟩
/-- Slots that the items can have, as far as they are laid. -/
structure Plan (w : SWork) (l : List SPl) : Prop where
  len : l.length = w.items.length
  ok : ∀ (i : Nat) x p, w.items[i]? = some x → l[i]? = some p → p.on = true → PlOk x p

def imax (a b : Int) : Int := if a < b then b else a
theorem imax_bound {a b N : Int} (h1 : 0 ≤ a) (h2 : a ≤ N) (h3 : 0 ≤ b) (h4 : b ≤ N) : 0 ≤ imax a b ∧ imax a b ≤ N := by
  unfold imax
  split <;> omega
def durF (n : Int) (q : SItem × SPl) : Int := if q.2.on then imax n (endP q.1 q.2) else n
def durP (w : SWork) (l : List SPl) : Int := (prs w l).foldl durF 0
theorem durF_bound {w : SWork} {l : List SPl} (h : Plan w l) (k : Nat) : 0 ≤ ((prs w l).take k).foldl durF 0 ∧ ((prs w l).take k).foldl durF 0 ≤ 460 := by
  induction k with
  | zero => simp
  | succ k ih =>
    cases hq : (prs w l)[k]? with
    | none => rw [List.take_of_length_le (by have := List.getElem?_eq_none_iff.1 hq; omega)] at ih ⊢; exact ih
    | some q =>
      rw [take_snoc hq, List.foldl_append]
      obtain ⟨x, p⟩ := q
      rw [prs, List.getElem?_zip_eq_some] at hq
      generalize List.foldl durF 0 ((prs w l).take k) = n at ih ⊢
      show 0 ≤ durF _ _ ∧ durF _ _ ≤ 460
      unfold durF
      cases hon : p.on with
      | false => simpa [hon] using ih
      | true =>
        have hok := h.ok k x p hq.1 hq.2 hon
        have h1 := hok.day
        have h2 := hok.days
        have := imax_bound (N := 460) ih.1 ih.2 (show 0 ≤ endP x p by unfold endP; omega) (show endP x p ≤ 460 by unfold endP; omega)
        simpa [hon] using this
theorem durP_bound {w : SWork} {l : List SPl} (h : Plan w l) : 0 ≤ durP w l ∧ durP w l ≤ 460 := by
  have := durF_bound h (prs w l).length
  rwa [List.take_length] at this

theorem duration_ret (w : SWork) (l : List SPl) (h : Plan w l) (hn : w.items.length ≤ 100000) : Ret Tryz.prog .shared 29 [.agg (eWork w), .sl (l.map ePl)] (I (durP w l)) := by
  have hl := h.len
  have hml : (l.map ePl).length = l.length := by simp
  refine Ret.of_pwp layOk mixed Go.Proofs.Tryz.func29 rfl (by decide) rfl rfl ?_
  repeat (refine stp rfl ?_ ?_;·repeat' constructor)
  refine pw_loop (fun k => k ≤ l.length) (fun k => [(1, .sl (l.map ePl)), (2, .ptr 2 1 0 0), (5, I (((prs w l).take k).foldl durF 0)), (8, .sl (l.map ePl)), (9, I l.length), (10, I k)]) (fun _ => [(2, 1, ⟨28, 9, [eWork w], 2⟩)]) (fun k => l.length - k) 0 (Nat.zero_le _) ⟨rfl, rfl, rfl, rfl, ?_, rfl, rfl, trivial⟩ ?_
  · show I ((l.map ePl).length) = _
    rw [hml]
  intro k s hk
  repeat (refine stp rfl ?_ ?_;·repeat' constructor)
  refine pw_cond rfl (fun h => ?_) (fun h => ?_)
  · have hlt : k < l.length := by simpa using h
    obtain ⟨p, hp⟩ := get_lt hlt
    obtain ⟨x, hx⟩ := get_lt (show k < w.items.length by omega)
    clear h
    have hb := durF_bound ‹Plan w l› k
    have hs := take_snoc (prs_at hx hp)
    have hok := ‹Plan w l›.ok k x p hx hp
    repeat (refine stp rfl ?_ ?_;·repeat' constructor)
    apply qst;exact rfl;exact rfl;exact q_idxm rfl rfl rfl rfl rfl (by omega) hp rfl
    repeat (refine stp rfl ?_ ?_;·repeat' constructor)
    refine pw_cond rfl (fun h => ?_) (fun h => ?_)
    · have hon : p.on = true := h
      have hok := hok hon
      clear h
      repeat (refine stp rfl ?_ ?_;·repeat' constructor)
      refine pw_draw 9 [17, 18, 19, 20, 21, 22, 23, 24, 25] (by decide +kernel) ?_
      repeat (refine stp rfl ?_ ?_;·repeat' constructor)
      apply qst;exact rfl;exact rfl;exact q_idxm rfl rfl rfl rfl rfl (by omega) hx rfl
      repeat (refine stp rfl ?_ ?_;·repeat' constructor)
      apply qst;exact rfl;exact rfl;exact q_callP rfl (end_ret x p hok) rfl (by repeat' constructor) rfl rfl
      repeat (refine stp rfl ?_ ?_;·repeat' constructor)
      refine ⟨k + 1, hlt, by omega, rfl, rfl, ?_, rfl, rfl, ?_, rfl, trivial⟩
      · rw [hs, List.foldl_append]
        show _ = I (durF _ _)
        rw [durF, hon, if_pos rfl, imax]
        rfl
      · exact i64_next (by omega) (by omega)
    · have hon : p.on = false := h
      clear h
      repeat (refine stp rfl ?_ ?_;·repeat' constructor)
      refine ⟨k + 1, hlt, by omega, rfl, rfl, ?_, rfl, rfl, ?_, rfl, trivial⟩
      · rw [hs, List.foldl_append]
        show _ = I (durF _ _)
        rw [durF, hon]
        rfl
      · exact i64_next (by omega) (by omega)
  · have hge : k = l.length := by have := of_decide_eq_false h; omega
    subst hge
    repeat (refine stp rfl ?_ ?_;·repeat' constructor)
    refine end1i rfl rfl ?_
    rw [List.take_of_length_le]
    · rfl
    · simp [prs]; omega

theorem mul_bound {a b A B : Int} (h1 : 0 ≤ a) (h2 : a ≤ A) (h3 : 0 ≤ b) (h4 : b ≤ B) : 0 ≤ a * b ∧ a * b ≤ A * B :=
  ⟨Int.mul_nonneg h1 h3, Int.mul_le_mul h2 h4 h3 (by omega)⟩
def rentP (w : SWork) (n : Int) : Int := w.hire * n + w.late * imax 0 (n - w.due)
theorem rent_bound {w : SWork} (hw : Well w) {n : Int} (h : 0 ≤ n ∧ n ≤ 1000) : (0 ≤ w.hire * n ∧ w.hire * n ≤ 1000000000000) ∧ (0 ≤ imax 0 (n - w.due) ∧ imax 0 (n - w.due) ≤ 1000) ∧ (0 ≤ w.late * imax 0 (n - w.due) ∧ w.late * imax 0 (n - w.due) ≤ 1000000000000) := by
  have h1 := hw.hire
  have h2 := hw.late
  have h3 := hw.due
  have hm : 0 ≤ imax 0 (n - w.due) ∧ imax 0 (n - w.due) ≤ 1000 := by unfold imax; split <;> omega
  exact ⟨mul_bound (A := 1000000000) (B := 1000) h1.1 h1.2 h.1 h.2, hm, mul_bound (A := 1000000000) (B := 1000) h2.1 h2.2 hm.1 hm.2⟩
theorem rent_ret (w : SWork) (hw : Well w) (n : Int) (h : 0 ≤ n ∧ n ≤ 1000) : Ret Tryz.prog .shared 61 [.agg (eWork w), I n] (I (rentP w n)) := by
  obtain ⟨h1, h2, h3⟩ := rent_bound hw h
  have h4 := hw.due
  refine Ret.of_pwp layOk mixed Go.Proofs.Tryz.func61 rfl (by decide) rfl rfl ?_
  repeat (refine stp rfl ?_ ?_;·repeat' constructor)
  refine end1i rfl rfl ?_
  show _ = I (w.hire * n + w.late * imax 0 (n - w.due))
  have e1 : IntKind.i64.wrap (n - w.due) = n - w.due := wrap_i64 (by omega) (by omega)
  rw [e1]
  show PV.int .i64 (IntKind.i64.wrap (IntKind.i64.wrap (w.hire * n) + IntKind.i64.wrap (w.late * imax 0 (n - w.due)))) = _
  rw [wrap_i64 (n := w.hire * n) (by omega) (by omega), wrap_i64 (n := w.late * _) (by omega) (by omega), wrap_i64 (by omega) (by omega)]
end Go.Pv

/- Which items exclude each other; outages. -/
set_option maxHeartbeats 2000000
namespace Go.Pv
attribute [local irreducible] PWP POps PQuiet PSem XThen XBlock RetPost InlPost
open Go.Proofs

def nearS (a b : Str) (s : SSpace) : Bool := (decide (s.name = a) && s.next.any (· == b)) || (decide (s.name = b) && s.next.any (· == a))
def nearP (w : SWork) (a b : Str) : Int := if a = b then 0 else if w.spaces.any (nearS a b) then 1 else 2

theorem near_ret (w : SWork) (hw : Sane w) (a b : Str) : Ret Tryz.prog .shared 113 [.agg (eWork w), .str a, .str b] (I (nearP w a b)) := by
  have h3 := hw.spaces
  refine Ret.of_pwp layOk mixed Go.Proofs.Tryz.func113 rfl (by decide) rfl rfl ?_
  repeat (refine stp rfl ?_ ?_;·repeat' constructor)
  refine pw_cond rfl (fun h => ?_) (fun h => ?_)
  · have he := of_decide_eq_true h
    repeat (refine stp rfl ?_ ?_;·repeat' constructor)
    exact end1i rfl rfl (by rw [nearP, if_pos he])
  have hne := of_decide_eq_false h
  clear h
  repeat (refine stp rfl ?_ ?_;·repeat' constructor)
  refine pw_loop (Clear w.spaces (nearS a b)) (fun k => [(1, .str a), (2, .str b), (13, .sl (w.spaces.map eSpace)), (14, I w.spaces.length), (15, I k)]) (fun _ => []) (fun k => w.spaces.length - k) 0 .zero ⟨rfl, rfl, rfl, ?_, rfl, trivial⟩ ?_
  · show I ((w.spaces.map eSpace).length) = _
    simp
  intro k s hk
  repeat (refine stp rfl ?_ ?_;·repeat' constructor)
  refine pw_cond rfl (fun h => ?_) (fun h => ?_)
  · have hlt : k < w.spaces.length := by simpa using h
    obtain ⟨x, hx⟩ := get_lt hlt
    have hax := hw.next x (List.mem_of_getElem? hx)
    clear h
    repeat (refine stp rfl ?_ ?_;·repeat' constructor)
    apply qst;exact rfl;exact rfl;exact q_idxm rfl rfl rfl rfl rfl (by omega) hx rfl
    have yes : nearS a b x = true → PV.int .i64 1 = I (nearP w a b) := fun hy => by rw [nearP, if_neg hne, if_pos (any_of hx hy)]
    have no : nearS a b x = false → Clear w.spaces (nearS a b) (k + 1) := fun hy => hk.succ hx hy
    repeat (refine stp rfl ?_ ?_;·repeat' constructor)
    (first | refine ps_split rfl rfl (fun h => ?_) (fun h => ?_) | refine pq_split rfl rfl (fun h => ?_) (fun h => ?_) | refine p3_split rfl rfl (fun h => ?_) (fun h => ?_))
    · have ha := of_decide_eq_true h
      clear h
      repeat (refine stp rfl ?_ ?_;·repeat' constructor)
      apply qst;exact rfl;exact rfl;exact q_callP rfl (contains_ret x.next b (by omega)) rfl (by repeat' constructor) rfl rfl
      repeat (refine stp rfl ?_ ?_;·repeat' constructor)
      (first | refine ps_split rfl rfl (fun h => ?_) (fun h => ?_) | refine pq_split rfl rfl (fun h => ?_) (fun h => ?_) | refine p3_split rfl rfl (fun h => ?_) (fun h => ?_))
      · have hb : x.next.any (· == b) = true := h
        repeat (refine stp rfl ?_ ?_;·repeat' constructor)
        exact end1i rfl rfl (yes (by simp [nearS, ha, hb]))
      have hb : x.next.any (· == b) = false := h
      clear h
      repeat (refine stp rfl ?_ ?_;·repeat' constructor)
      (first | refine ps_split rfl rfl (fun h => ?_) (fun h => ?_) | refine pq_split rfl rfl (fun h => ?_) (fun h => ?_) | refine p3_split rfl rfl (fun h => ?_) (fun h => ?_))
      · have hc := of_decide_eq_true h
        exact absurd (ha.symm.trans hc) hne
      have hc := of_decide_eq_false h
      clear h
      repeat (refine stp rfl ?_ ?_;·repeat' constructor)
      refine ⟨k + 1, no (by simp only [nearS, hb, hc, Bool.and_false, decide_false, Bool.false_and, Bool.or_false]), by omega, rfl, rfl, rfl, rfl, ?_, trivial⟩
      exact i64_next (by omega) (by omega)
    have ha := of_decide_eq_false h
    clear h
    repeat (refine stp rfl ?_ ?_;·repeat' constructor)
    (first | refine ps_split rfl rfl (fun h => ?_) (fun h => ?_) | refine pq_split rfl rfl (fun h => ?_) (fun h => ?_) | refine p3_split rfl rfl (fun h => ?_) (fun h => ?_))
    · have hc := of_decide_eq_true h
      clear h
      repeat (refine stp rfl ?_ ?_;·repeat' constructor)
      apply qst;exact rfl;exact rfl;exact q_callP rfl (contains_ret x.next a (by omega)) rfl (by repeat' constructor) rfl rfl
      repeat (refine stp rfl ?_ ?_;·repeat' constructor)
      refine pw_cond rfl (fun h => ?_) (fun h => ?_)
      · have hb : x.next.any (· == a) = true := h
        repeat (refine stp rfl ?_ ?_;·repeat' constructor)
        exact end1i rfl rfl (yes (by simp [nearS, hc, hb]))
      have hb : x.next.any (· == a) = false := h
      clear h
      repeat (refine stp rfl ?_ ?_;·repeat' constructor)
      refine ⟨k + 1, no (by simp only [nearS, hb, ha, Bool.and_false, decide_false, Bool.false_and, Bool.or_false]), by omega, rfl, rfl, rfl, rfl, ?_, trivial⟩
      exact i64_next (by omega) (by omega)
    have hc := of_decide_eq_false h
    clear h
    repeat (refine stp rfl ?_ ?_;·repeat' constructor)
    refine ⟨k + 1, no (by simp only [nearS, ha, hc, decide_false, Bool.false_and, Bool.or_false]), by omega, rfl, rfl, rfl, rfl, ?_, trivial⟩
    exact i64_next (by omega) (by omega)
  · have hno := hk.any (by simpa using h)
    repeat (refine stp rfl ?_ ?_;·repeat' constructor)
    exact end1i rfl rfl (by rw [nearP, if_neg hne, hno]; rfl)

def exclK (a b : SItem) (x : SExcl) : Bool := (decide (x.a = a.kind) && decide (x.b = b.kind)) || (decide (x.a = b.kind) && decide (x.b = a.kind))
def exclB (w : SWork) (a b : SItem) (x : SExcl) : Bool := exclK a b x && decide (nearP w a.space b.space ≤ x.reach)

theorem excl1_ret (w : SWork) (hw : Sane w) (a b : SItem) (x : SExcl) : Ret Tryz.prog .shared 112 [.agg (eExcl x), .dref (eItem a) 0, .dref (eItem b) 0, .dref (eWork w) 0] (.bool (exclB w a b x)) := by
  refine Ret.of_pwp layOk mixed Go.Proofs.Tryz.func112 rfl (by decide) rfl rfl ?_
  repeat (refine stp rfl ?_ ?_;·repeat' constructor)
  refine ps_cut 100 [(1, .dref (eItem a) 0), (2, .dref (eItem b) 0), (3, .dref (eWork w) 0), (4, .ptr 4 1 0 0), (6, .bool (exclK a b x))] [(4, 1, ⟨118, 3, [eExcl x], 2⟩)] ?_ ?_
  · repeat' (first|(refine stp rfl ?_ ?_;·repeat' constructor)|refine ps_split rfl rfl (fun h => ?_) (fun h => ?_)|refine pq_split rfl rfl (fun h => ?_) (fun h => ?_)|refine p3_split rfl rfl (fun h => ?_) (fun h => ?_))
    all_goals exact ⟨rfl, rfl, rfl, rfl, congrArg PV.bool (by simp_all [exclK]), rfl, trivial⟩
  intro s
  repeat (refine stp rfl ?_ ?_;·repeat' constructor)
  refine pw_draw 13 [33, 34, 35, 36, 37, 38, 39, 40, 41, 42, 43, 44, 5] (by decide +kernel) ?_
  repeat (refine stp rfl ?_ ?_;·repeat' constructor)
  (first | refine ps_split rfl rfl (fun h => ?_) (fun h => ?_) | refine pq_split rfl rfl (fun h => ?_) (fun h => ?_) | refine p3_split rfl rfl (fun h => ?_) (fun h => ?_))
  · have hk : exclK a b x = true := h
    repeat (refine stp rfl ?_ ?_;·repeat' constructor)
    apply qst;exact rfl;exact rfl;exact q_callP rfl (near_ret w hw a.space b.space) rfl (by repeat' constructor) rfl rfl
    repeat (refine stp rfl ?_ ?_;·repeat' constructor)
    exact end1b rfl rfl (by rw [exclB, hk]; rfl)
  · have hk : exclK a b x = false := h
    repeat (refine stp rfl ?_ ?_;·repeat' constructor)
    exact end1b rfl rfl (by rw [exclB, hk]; rfl)

theorem indexX_ret (l : List SExcl) (f : FuncId) (c0 c1 c2 : List PV) (p : SExcl → Bool) (hw : l.length ≤ 1000000) (hf : ∀ x, x ∈ l → Ret Tryz.prog .shared f (.agg (eExcl x) :: [.dref c0 0, .dref c1 0, .dref c2 0]) (.bool (p x))) : Ret Tryz.prog .shared 118 [.sl (l.map eExcl), .clo f [.dref c0 0, .dref c1 0, .dref c2 0]] (I (idx l p)) := by
  refine Ret.of_pwp layOk mixed Go.Proofs.Tryz.func118 rfl (by decide) rfl rfl ?_
  repeat (refine stp rfl ?_ ?_;·repeat' constructor)
  refine pw_loop (Clear l p) (fun k => [(0, .sl (l.map eExcl)), (1, .clo f [.dref c0 0, .dref c1 0, .dref c2 0]), (7, I l.length), (8, I k)]) (fun _ => []) (fun k => l.length - k) 0 .zero ⟨rfl, rfl, ?_, rfl, trivial⟩ ?_
  · show I ((l.map eExcl).length) = _
    simp
  intro k s hk
  repeat (refine stp rfl ?_ ?_;·repeat' constructor)
  refine pw_cond rfl (fun h => ?_) (fun h => ?_)
  · have hlt : k < l.length := by simpa using h
    obtain ⟨x, hx⟩ := get_lt hlt
    clear h
    repeat (refine stp rfl ?_ ?_;·repeat' constructor)
    apply qst;exact rfl;exact rfl;exact q_idxm rfl rfl rfl rfl rfl (by omega) hx rfl
    repeat (refine stp rfl ?_ ?_;·repeat' constructor)
    apply qst;exact rfl;exact rfl;exact q_callP rfl (hf x (List.mem_of_getElem? hx)) rfl (by repeat' constructor) rfl rfl
    repeat (refine stp rfl ?_ ?_;·repeat' constructor)
    refine pw_cond rfl (fun h => ?_) (fun h => ?_)
    · repeat (refine stp rfl ?_ ?_;·repeat' constructor)
      exact end1i rfl rfl (by rw [hk.found hx h])
    · repeat (refine stp rfl ?_ ?_;·repeat' constructor)
      refine ⟨k + 1, hk.succ hx h, by omega, rfl, rfl, rfl, ?_, trivial⟩
      exact i64_next (by omega) (by omega)
  · repeat (refine stp rfl ?_ ?_;·repeat' constructor)
    exact end1i rfl rfl (by rw [hk.none (by simpa using h)])
theorem containsX_ret (l : List SExcl) (f : FuncId) (c0 c1 c2 : List PV) (p : SExcl → Bool) (hw : l.length ≤ 1000000) (hf : ∀ x, x ∈ l → Ret Tryz.prog .shared f (.agg (eExcl x) :: [.dref c0 0, .dref c1 0, .dref c2 0]) (.bool (p x))) : Ret Tryz.prog .shared 111 [.sl (l.map eExcl), .clo f [.dref c0 0, .dref c1 0, .dref c2 0]] (.bool (l.any p)) := by
  refine Ret.of_pwp layOk mixed Go.Proofs.Tryz.func111 rfl (by decide) rfl rfl ?_
  repeat (refine stp rfl ?_ ?_;·repeat' constructor)
  apply qst;exact rfl;exact rfl;exact q_callP rfl (indexX_ret l f c0 c1 c2 p hw hf) rfl (by repeat' constructor) rfl rfl
  repeat (refine stp rfl ?_ ?_;·repeat' constructor)
  exact end1b rfl rfl (by rw [← idx_nonneg])

def exclP (w : SWork) (a b : SItem) : Bool := !(decide (a.name = b.name) || decide (a.kind < 0) || decide (b.kind < 0)) && w.excls.any (exclB w a b)
theorem excludes_ret (w : SWork) (hw : Sane w) (a b : SItem) : Ret Tryz.prog .shared 101 [.agg (eWork w), .agg (eItem a), .agg (eItem b)] (.bool (exclP w a b)) := by
  have h1 := hw.excls
  refine Ret.of_pwp layOk mixed Go.Proofs.Tryz.func101 rfl (by decide) rfl rfl ?_
  repeat (refine stp rfl ?_ ?_;·repeat' constructor)
  refine ps_cut 100 [(3, .ptr 3 1 0 0), (4, .ptr 4 1 0 0), (5, .ptr 5 1 0 0), (21, .bool (decide (a.name = b.name) || decide (a.kind < 0) || decide (b.kind < 0)))] [(3, 1, ⟨28, 9, [eWork w], 2⟩), (4, 1, ⟨69, 7, [eItem a], 2⟩), (5, 1, ⟨69, 7, [eItem b], 2⟩)] ?_ ?_
  · repeat' (first|(refine stp rfl ?_ ?_;·repeat' constructor)|refine ps_split rfl rfl (fun h => ?_) (fun h => ?_)|refine pq_split rfl rfl (fun h => ?_) (fun h => ?_)|refine p3_split rfl rfl (fun h => ?_) (fun h => ?_))
    all_goals exact ⟨rfl, rfl, rfl, congrArg PV.bool (by simp_all <;> omega), rfl, rfl, rfl, trivial⟩
  intro s
  repeat (refine stp rfl ?_ ?_;·repeat' constructor)
  refine pw_cond rfl (fun h => ?_) (fun h => ?_)
  · have hk : (decide (a.name = b.name) || decide (a.kind < 0) || decide (b.kind < 0)) = true := h
    repeat (refine stp rfl ?_ ?_;·repeat' constructor)
    exact end1b rfl rfl (by rw [exclP, hk]; rfl)
  · have hk : (decide (a.name = b.name) || decide (a.kind < 0) || decide (b.kind < 0)) = false := h
    repeat (refine stp rfl ?_ ?_;·repeat' constructor)
    apply qst;exact rfl;exact rfl;exact q_callP rfl (containsX_ret w.excls 112 (eItem a) (eItem b) (eWork w) (exclB w a b) (by omega) (fun x _ => excl1_ret w hw a b x)) rfl (by repeat' constructor) rfl rfl
    repeat (refine stp rfl ?_ ?_;·repeat' constructor)
    exact end1b rfl rfl (by rw [exclP, hk]; rfl)

def apartP (w : SWork) (a b : SItem) : Bool := (a.crane && b.crane) || exclP w a b
theorem apart_ret (w : SWork) (hw : Sane w) {i k : Nat} {a b : SItem} (ha : w.items[i]? = some a) (hb : w.items[k]? = some b) : Ret Tryz.prog .shared 80 [.agg (eWork w), I i, I k] (.bool (apartP w a b)) := by
  refine Ret.of_pwp layOk mixed Go.Proofs.Tryz.func80 rfl (by decide) rfl rfl ?_
  ((repeat (first | refine ps_nil ?_ | refine pq_nil ?_ | refine x_norm ?_ | refine pw_seq ?_)); refine pw_region ?_)
  refine ps_run (o_box rfl rfl rfl (by repeat' constructor) rfl ?_)
  refine ps_v rfl trivial ?_
  refine ps_nil ?_
  refine x_norm ?_
  refine pw_ghost (Ghost.data (k := 3) (t := 3) rfl rfl rfl rfl) ?_
  refine pw_seq ?_
  refine pw_draw2 10 2 [9, 10, 11, 12, 13, 14, 15, 16, 17, 18, 7, 8] [5,6,7,8,9] (by decide +kernel) rfl ?_
  repeat (refine stp rfl ?_ ?_;·repeat' constructor)
  apply qst;exact rfl;exact rfl;exact q_idxm rfl rfl rfl rfl rfl (by omega) ha rfl
  repeat (refine stp rfl ?_ ?_;·repeat' constructor)
  apply qst;exact rfl;exact rfl;exact q_idxm rfl rfl rfl rfl rfl (by omega) hb rfl
  repeat (refine stp rfl ?_ ?_;·repeat' constructor)
  (first | refine ps_split rfl rfl (fun h => ?_) (fun h => ?_) | refine pq_split rfl rfl (fun h => ?_) (fun h => ?_) | refine p3_split rfl rfl (fun h => ?_) (fun h => ?_))
  · have h1 : a.crane = true := h
    clear h
    repeat (refine stp rfl ?_ ?_;·repeat' constructor)
    (first | refine ps_split rfl rfl (fun h => ?_) (fun h => ?_) | refine pq_split rfl rfl (fun h => ?_) (fun h => ?_) | refine p3_split rfl rfl (fun h => ?_) (fun h => ?_))
    · have h2 : b.crane = true := h
      repeat (refine stp rfl ?_ ?_;·repeat' constructor)
      exact end1b rfl rfl (by rw [apartP, h1, h2]; rfl)
    · have h2 : b.crane = false := h
      repeat (refine stp rfl ?_ ?_;·repeat' constructor)
      apply qst;exact rfl;exact rfl;exact q_callP rfl (excludes_ret w hw a b) rfl (by repeat' constructor) rfl rfl
      repeat (refine stp rfl ?_ ?_;·repeat' constructor)
      exact end1b rfl rfl (by rw [apartP, h1, h2]; rfl)
  · have h1 : a.crane = false := h
    clear h
    repeat (refine stp rfl ?_ ?_;·repeat' constructor)
    apply qst;exact rfl;exact rfl;exact q_callP rfl (excludes_ret w hw a b) rfl (by repeat' constructor) rfl rfl
    repeat (refine stp rfl ?_ ?_;·repeat' constructor)
    exact end1b rfl rfl (by rw [apartP, h1]; rfl)

def outB (x : SItem) (p : SPl) (o : SOut) : Bool := decide (p.day < o.to) && decide (o.frm < endP x p)
theorem stop1_ret (x : SItem) (p : SPl) (hp : PlOk x p) (o : SOut) : Ret Tryz.prog .shared 115 [.agg (eOut o), .dref (ePl p) 0, .dref (eItem x) 0] (.bool (outB x p o)) := by
  refine Ret.of_pwp layOk mixed Go.Proofs.Tryz.func115 rfl (by decide) rfl rfl ?_
  repeat (refine stp rfl ?_ ?_;·repeat' constructor)
  refine pw_draw 14 [5, 6, 7, 8, 9, 10, 11, 12, 13, 14, 15, 16, 17, 4] (by decide +kernel) ?_
  repeat (refine stp rfl ?_ ?_;·repeat' constructor)
  (first | refine ps_split rfl rfl (fun h => ?_) (fun h => ?_) | refine pq_split rfl rfl (fun h => ?_) (fun h => ?_) | refine p3_split rfl rfl (fun h => ?_) (fun h => ?_))
  · have hk := of_decide_eq_true h
    repeat (refine stp rfl ?_ ?_;·repeat' constructor)
    apply qst;exact rfl;exact rfl;exact q_callP rfl (end_ret x p hp) rfl (by repeat' constructor) rfl rfl
    repeat (refine stp rfl ?_ ?_;·repeat' constructor)
    exact end1b rfl rfl (by rw [outB, decide_eq_true hk]; rfl)
  · have hk := of_decide_eq_false h
    repeat (refine stp rfl ?_ ?_;·repeat' constructor)
    exact end1b rfl rfl (by rw [outB, decide_eq_false hk]; rfl)
theorem indexO_ret (l : List SOut) (f : FuncId) (c0 c1 : List PV) (p : SOut → Bool) (hw : l.length ≤ 1000000) (hf : ∀ x, x ∈ l → Ret Tryz.prog .shared f (.agg (eOut x) :: [.dref c0 0, .dref c1 0]) (.bool (p x))) : Ret Tryz.prog .shared 119 [.sl (l.map eOut), .clo f [.dref c0 0, .dref c1 0]] (I (idx l p)) := by
  refine Ret.of_pwp layOk mixed Go.Proofs.Tryz.func119 rfl (by decide) rfl rfl ?_
  repeat (refine stp rfl ?_ ?_;·repeat' constructor)
  refine pw_loop (Clear l p) (fun k => [(0, .sl (l.map eOut)), (1, .clo f [.dref c0 0, .dref c1 0]), (7, I l.length), (8, I k)]) (fun _ => []) (fun k => l.length - k) 0 .zero ⟨rfl, rfl, ?_, rfl, trivial⟩ ?_
  · show I ((l.map eOut).length) = _
    simp
  intro k s hk
  repeat (refine stp rfl ?_ ?_;·repeat' constructor)
  refine pw_cond rfl (fun h => ?_) (fun h => ?_)
  · have hlt : k < l.length := by simpa using h
    obtain ⟨x, hx⟩ := get_lt hlt
    clear h
    repeat (refine stp rfl ?_ ?_;·repeat' constructor)
    apply qst;exact rfl;exact rfl;exact q_idxm rfl rfl rfl rfl rfl (by omega) hx rfl
    repeat (refine stp rfl ?_ ?_;·repeat' constructor)
    apply qst;exact rfl;exact rfl;exact q_callP rfl (hf x (List.mem_of_getElem? hx)) rfl (by repeat' constructor) rfl rfl
    repeat (refine stp rfl ?_ ?_;·repeat' constructor)
    refine pw_cond rfl (fun h => ?_) (fun h => ?_)
    · repeat (refine stp rfl ?_ ?_;·repeat' constructor)
      exact end1i rfl rfl (by rw [hk.found hx h])
    · repeat (refine stp rfl ?_ ?_;·repeat' constructor)
      refine ⟨k + 1, hk.succ hx h, by omega, rfl, rfl, rfl, ?_, trivial⟩
      exact i64_next (by omega) (by omega)
  · repeat (refine stp rfl ?_ ?_;·repeat' constructor)
    exact end1i rfl rfl (by rw [hk.none (by simpa using h)])
theorem containsO_ret (l : List SOut) (f : FuncId) (c0 c1 : List PV) (p : SOut → Bool) (hw : l.length ≤ 1000000) (hf : ∀ x, x ∈ l → Ret Tryz.prog .shared f (.agg (eOut x) :: [.dref c0 0, .dref c1 0]) (.bool (p x))) : Ret Tryz.prog .shared 114 [.sl (l.map eOut), .clo f [.dref c0 0, .dref c1 0]] (.bool (l.any p)) := by
  refine Ret.of_pwp layOk mixed Go.Proofs.Tryz.func114 rfl (by decide) rfl rfl ?_
  repeat (refine stp rfl ?_ ?_;·repeat' constructor)
  apply qst;exact rfl;exact rfl;exact q_callP rfl (indexO_ret l f c0 c1 p hw hf) rfl (by repeat' constructor) rfl rfl
  repeat (refine stp rfl ?_ ?_;·repeat' constructor)
  exact end1b rfl rfl (by rw [← idx_nonneg])
def stopP (w : SWork) (x : SItem) (p : SPl) : Bool := x.crane && w.outs.any (outB x p)
theorem stopped_ret (w : SWork) (hw : Sane w) (x : SItem) (p : SPl) (hp : PlOk x p) : Ret Tryz.prog .shared 102 [.agg (eWork w), .agg (eItem x), .agg (ePl p)] (.bool (stopP w x p)) := by
  have h1 := hw.outs
  refine Ret.of_pwp layOk mixed Go.Proofs.Tryz.func102 rfl (by decide) rfl rfl ?_
  repeat (refine stp rfl ?_ ?_;·repeat' constructor)
  (first | refine ps_split rfl rfl (fun h => ?_) (fun h => ?_) | refine pq_split rfl rfl (fun h => ?_) (fun h => ?_) | refine p3_split rfl rfl (fun h => ?_) (fun h => ?_))
  · have hk : x.crane = true := h
    repeat (refine stp rfl ?_ ?_;·repeat' constructor)
    apply qst;exact rfl;exact rfl;exact q_callP rfl (containsO_ret w.outs 115 (ePl p) (eItem x) (outB x p) (by omega) (fun o _ => stop1_ret x p hp o)) rfl (by repeat' constructor) rfl rfl
    repeat (refine stp rfl ?_ ?_;·repeat' constructor)
    exact end1b rfl rfl (by rw [stopP, hk]; rfl)
  · have hk : x.crane = false := h
    repeat (refine stp rfl ?_ ?_;·repeat' constructor)
    exact end1b rfl rfl (by rw [stopP, hk]; rfl)
theorem nearP_comm (w : SWork) (a b : Str) : nearP w a b = nearP w b a := by
  have h : (fun s => nearS a b s) = nearS b a := by funext s; unfold nearS; rw [Bool.or_comm]
  unfold nearP
  rw [show w.spaces.any (nearS a b) = w.spaces.any (nearS b a) from congrArg _ h]
  by_cases hab : a = b
  · rw [if_pos hab, if_pos hab.symm]
  · rw [if_neg hab, if_neg (Ne.symm hab)]
theorem exclP_comm (w : SWork) (x y : SItem) : exclP w x y = exclP w y x := by
  have h : exclB w x y = exclB w y x := by funext e; unfold exclB; rw [nearP_comm]; congr 1; unfold exclK; rw [Bool.or_comm]
  unfold exclP
  rw [h, show decide (x.name = y.name) = decide (y.name = x.name) from by rw [decide_eq_decide]; exact eq_comm]
  cases decide (y.name = x.name) <;> cases decide (x.kind < 0) <;> cases decide (y.kind < 0) <;> rfl

end Go.Pv

/- Wages, costs, and whether two slots meet. -/
set_option maxHeartbeats 2000000
namespace Go.Pv
attribute [local irreducible] PWP POps PQuiet PSem XThen XBlock RetPost InlPost
open Go.Proofs

def rateOf (w : SWork) (x : SItem) : Int := match w.trades[(idx w.trades (·.name == x.trade)).toNat]? with | some t => t.rate | none => 0
def wageP (w : SWork) (x : SItem) (k : Int) : Int := (modeAt x k).days * (modeAt x k).crew * rateOf w x
theorem wage_bound {w : SWork} (hw : Well w) {x : SItem} {p : SPl} (hp : PlOk x p) : (0 ≤ (modeAt x p.mode).days * (modeAt x p.mode).crew ∧ (modeAt x p.mode).days * (modeAt x p.mode).crew ≤ 60000) ∧ 0 ≤ wageP w x p.mode ∧ wageP w x p.mode ≤ 60000000000 := by
  have h1 := mul_bound (A := 60) (B := 1000) (by have := hp.days; omega) hp.days.2 hp.crew.1 hp.crew.2
  have hr : 0 ≤ rateOf w x ∧ rateOf w x ≤ 1000000 := by
    unfold rateOf
    split
    · rename_i t ht
      exact (hw.trade t (List.mem_of_getElem? ht)).2
    · omega
  exact ⟨h1, mul_bound (A := 60000) (B := 1000000) h1.1 h1.2 hr.1 hr.2⟩

theorem wages_ret (w : SWork) (hw : Sane w) (hv : Well w) {i : Nat} {x : SItem} (hx : w.items[i]? = some x) (p : SPl) (hp : PlOk x p) : Ret Tryz.prog .shared 62 [.agg (eWork w), I i, I p.mode] (I (wageP w x p.mode)) := by
  have hxm := List.mem_of_getElem? hx
  have ht0 := (hv.item x hxm).trade
  have ht1 := hw.trades
  have hm := hp.mode
  have hlo := hp.lo
  obtain ⟨b1, b2⟩ := wage_bound hv hp
  obtain ⟨t, ht, _⟩ := idx_lt ht0
  have hrate : rateOf w x = t.rate := by rw [rateOf, ht]
  obtain ⟨j, hj⟩ : ∃ j : Nat, idx w.trades (·.name == x.trade) = j := ⟨_, (Int.toNat_of_nonneg ht0).symm⟩
  rw [hj, Int.toNat_natCast] at ht
  refine Ret.of_pwp layOk mixed Go.Proofs.Tryz.func62 rfl (by decide) rfl rfl ?_
  repeat (refine stp rfl ?_ ?_;·repeat' constructor)
  apply qst;exact rfl;exact rfl;exact q_idxm rfl rfl rfl rfl rfl (by omega) hx rfl
  repeat (refine stp rfl ?_ ?_;·repeat' constructor)
  refine pw_draw2 9 1 [14, 15, 16, 17, 18, 19, 20, 21, 22, 8] [] (by decide +kernel) rfl ?_
  repeat (refine stp rfl ?_ ?_;·repeat' constructor)
  apply qst;exact rfl;exact rfl;exact q_call rfl (tradeNames_ret w (by omega)) rfl (by repeat' constructor) rfl
  repeat (refine stp rfl ?_ ?_;·repeat' constructor)
  apply qst;exact rfl;exact rfl;exact q_callP rfl (index_ret (w.trades.map (·.name)) x.trade (by simp; omega)) rfl (by repeat' constructor) rfl rfl
  have him : idx (w.trades.map (·.name)) (· == x.trade) = j := by rw [idx_map]; exact hj
  rw [him]
  repeat (refine stp rfl ?_ ?_;·repeat' constructor)
  apply qst;exact rfl;exact rfl;exact q_idxm (n := (j : Int)) rfl rfl rfl rfl rfl (by omega) ht rfl
  repeat (refine stp rfl ?_ ?_;·repeat' constructor)
  refine pw_draw 17 [23, 24, 25, 26, 27, 28, 29, 30, 31, 32, 33, 34, 35, 36, 37, 38, 6] (by decide +kernel) ?_
  repeat (refine stp rfl ?_ ?_;·repeat' constructor)
  apply qst;exact rfl;exact rfl;exact q_idxm rfl rfl rfl rfl rfl (by omega) hm rfl
  repeat (refine stp rfl ?_ ?_;·repeat' constructor)
  apply qst;exact rfl;exact rfl;exact q_idxm rfl rfl rfl rfl rfl (by omega) hm rfl
  repeat (refine stp rfl ?_ ?_;·repeat' constructor)
  refine end1i rfl rfl ?_
  show PV.int .i64 (IntKind.i64.wrap (IntKind.i64.wrap ((modeAt x p.mode).days * (modeAt x p.mode).crew) * t.rate)) = _
  rw [wrap_i64 (n := (modeAt x p.mode).days * _) (by omega) (by omega), ← hrate]
  show PV.int .i64 (IntKind.i64.wrap (wageP w x p.mode)) = _
  rw [wrap_i64 (by omega) (by omega)]

def costF (w : SWork) (n : Int) (q : SItem × SPl) : Int := if q.2.on then n + wageP w q.1 q.2.mode else n
def costP (w : SWork) (l : List SPl) : Int := (prs w l).foldl (costF w) (rentP w (durP w l))
theorem costF_bound {w : SWork} (hv : Well w) {l : List SPl} (h : Plan w l) (k : Nat) (hk : k ≤ l.length) : 0 ≤ ((prs w l).take k).foldl (costF w) (rentP w (durP w l)) ∧ ((prs w l).take k).foldl (costF w) (rentP w (durP w l)) ≤ 2000000000000 + 60000000000 * k := by
  induction k with
  | zero =>
    have hd := durP_bound h
    obtain ⟨h1, h2, h3⟩ := rent_bound hv (n := durP w l) (by omega)
    simp only [List.take_zero, List.foldl_nil, rentP]
    omega
  | succ k ih =>
    have ih := ih (by omega)
    obtain ⟨p, hp⟩ := get_lt (show k < l.length by omega)
    obtain ⟨x, hx⟩ := get_lt (show k < w.items.length by have := h.len; omega)
    rw [take_snoc (prs_at hx hp), List.foldl_append]
    generalize List.foldl (costF w) _ ((prs w l).take k) = n at ih ⊢
    show 0 ≤ costF w n (x, p) ∧ costF w n (x, p) ≤ _
    unfold costF
    cases hon : p.on with
    | false => simp; omega
    | true =>
      have := (wage_bound hv (h.ok k x p hx hp hon)).2
      simp; omega
theorem cost_ret (w : SWork) (hw : Sane w) (hv : Well w) (l : List SPl) (h : Plan w l) : Ret Tryz.prog .shared 30 [.agg (eWork w), .sl (l.map ePl)] (I (costP w l)) := by
  have hl := h.len
  have hn := hv.n40
  have hml : (l.map ePl).length = l.length := by simp
  have hd := durP_bound h
  refine Ret.of_pwp layOk mixed Go.Proofs.Tryz.func30 rfl (by decide) rfl rfl ?_
  repeat (refine stp rfl ?_ ?_;·repeat' constructor)
  refine pw_draw 6 [8, 9, 10, 11, 12, 5] (by decide +kernel) ?_
  repeat (refine stp rfl ?_ ?_;·repeat' constructor)
  apply qst;exact rfl;exact rfl;exact q_callP rfl (duration_ret w l h (by omega)) rfl (by repeat' constructor) rfl rfl
  repeat (refine stp rfl ?_ ?_;·repeat' constructor)
  apply qst;exact rfl;exact rfl;exact q_callP rfl (rent_ret w hv (durP w l) (by omega)) rfl (by repeat' constructor) rfl rfl
  repeat (refine stp rfl ?_ ?_;·repeat' constructor)
  refine pw_loop (fun k => k ≤ l.length) (fun k => [(1, .sl (l.map ePl)), (2, .ptr 2 1 0 0), (5, I (((prs w l).take k).foldl (costF w) (rentP w (durP w l)))), (13, .sl (l.map ePl)), (14, I l.length), (15, I k)]) (fun _ => [(2, 1, ⟨28, 9, [eWork w], 2⟩)]) (fun k => l.length - k) 0 (Nat.zero_le _) ⟨rfl, rfl, rfl, rfl, ?_, rfl, rfl, trivial⟩ ?_
  · show I ((l.map ePl).length) = _
    rw [hml]
  intro k s hk
  repeat (refine stp rfl ?_ ?_;·repeat' constructor)
  refine pw_cond rfl (fun h => ?_) (fun h => ?_)
  · have hlt : k < l.length := by simpa using h
    obtain ⟨p, hp⟩ := get_lt hlt
    obtain ⟨x, hx⟩ := get_lt (show k < w.items.length by omega)
    clear h
    have hb := costF_bound hv ‹Plan w l› (k + 1) hlt
    have hs := take_snoc (prs_at hx hp)
    have hok := ‹Plan w l›.ok k x p hx hp
    rw [hs, List.foldl_append] at hb
    repeat (refine stp rfl ?_ ?_;·repeat' constructor)
    apply qst;exact rfl;exact rfl;exact q_idxm rfl rfl rfl rfl rfl (by omega) hp rfl
    repeat (refine stp rfl ?_ ?_;·repeat' constructor)
    refine pw_cond rfl (fun h => ?_) (fun h => ?_)
    · have hon : p.on = true := h
      have hok := hok hon
      clear h
      repeat (refine stp rfl ?_ ?_;·repeat' constructor)
      apply qst;exact rfl;exact rfl;exact q_callP rfl (wages_ret w hw hv hx p hok) rfl (by repeat' constructor) rfl rfl
      repeat (refine stp rfl ?_ ?_;·repeat' constructor)
      refine ⟨k + 1, hlt, by omega, rfl, rfl, ?_, rfl, rfl, ?_, rfl, trivial⟩
      · rw [hs, List.foldl_append]
        generalize List.foldl (costF w) _ ((prs w l).take k) = n at hb ⊢
        replace hb : 0 ≤ costF w n (x, p) ∧ costF w n (x, p) ≤ _ := hb
        show PV.int .i64 (IntKind.i64.wrap (n + wageP w x p.mode)) = I (costF w n (x, p))
        have he : costF w n (x, p) = n + wageP w x p.mode := by simp [costF, hon]
        rw [he] at hb ⊢
        rw [wrap_i64 (by omega) (by omega)]
      · exact i64_next (by omega) (by omega)
    · have hon : p.on = false := h
      clear h
      repeat (refine stp rfl ?_ ?_;·repeat' constructor)
      refine ⟨k + 1, hlt, by omega, rfl, rfl, ?_, rfl, rfl, ?_, rfl, trivial⟩
      · rw [hs, List.foldl_append]
        show _ = I (costF w _ (x, p))
        simp [costF, hon]
        rfl
      · exact i64_next (by omega) (by omega)
  · have hge : k = l.length := by have := of_decide_eq_false h; omega
    subst hge
    repeat (refine stp rfl ?_ ?_;·repeat' constructor)
    refine end1i rfl rfl ?_
    rw [List.take_of_length_le]
    · rfl
    · simp [prs]; omega

def meetP (x : SItem) (p : SPl) (y : SItem) (q : SPl) : Bool := (p.on && q.on) && (decide (p.day < endP y q) && decide (q.day < endP x p))
theorem meet_ret (w : SWork) {l : List SPl} (h : Plan w l) {i k : Nat} {x y : SItem} {p q : SPl} (hx : w.items[i]? = some x) (hy : w.items[k]? = some y) (hp : l[i]? = some p) (hq : l[k]? = some q) : Ret Tryz.prog .shared 117 [.agg (eWork w), .sl (l.map ePl), I i, I k] (.bool (meetP x p y q)) := by
  have o1 := h.ok i x p hx hp
  have o2 := h.ok k y q hy hq
  refine Ret.of_pwp layOk mixed Go.Proofs.Tryz.func117 rfl (by decide) rfl rfl ?_
  repeat (refine stp rfl ?_ ?_;·repeat' constructor)
  refine pw_draw 49 [9, 10, 11, 12, 13, 14, 15, 16, 17, 18, 19, 20, 21, 22, 23, 24, 25, 26, 27, 28, 29, 30, 31, 32, 33, 34, 35, 36, 37, 38, 39, 40, 41, 42, 43, 44, 45, 46, 47, 48, 49, 50, 51, 52, 53, 54, 55, 56, 8] (by decide +kernel) ?_
  repeat (refine stp rfl ?_ ?_;·repeat' constructor)
  apply qst;exact rfl;exact rfl;exact q_idxm rfl rfl rfl rfl rfl (by omega) hp rfl
  repeat (refine stp rfl ?_ ?_;·repeat' constructor)
  (first | refine ps_split rfl rfl (fun h => ?_) (fun h => ?_) | refine pq_split rfl rfl (fun h => ?_) (fun h => ?_) | refine p3_split rfl rfl (fun h => ?_) (fun h => ?_))
  · have h1 : p.on = true := h
    clear h
    repeat (refine stp rfl ?_ ?_;·repeat' constructor)
    apply qst;exact rfl;exact rfl;exact q_idxm rfl rfl rfl rfl rfl (by omega) hq rfl
    repeat (refine stp rfl ?_ ?_;·repeat' constructor)
    (first | refine ps_split rfl rfl (fun h => ?_) (fun h => ?_) | refine pq_split rfl rfl (fun h => ?_) (fun h => ?_) | refine p3_split rfl rfl (fun h => ?_) (fun h => ?_))
    · have h2 : q.on = true := h
      clear h
      repeat (refine stp rfl ?_ ?_;·repeat' constructor)
      apply qst;exact rfl;exact rfl;exact q_idxm rfl rfl rfl rfl rfl (by omega) hp rfl
      repeat (refine stp rfl ?_ ?_;·repeat' constructor)
      apply qst;exact rfl;exact rfl;exact q_idxm rfl rfl rfl rfl rfl (by omega) hq rfl
      repeat (refine stp rfl ?_ ?_;·repeat' constructor)
      apply qst;exact rfl;exact rfl;exact q_idxm rfl rfl rfl rfl rfl (by omega) hy rfl
      repeat (refine stp rfl ?_ ?_;·repeat' constructor)
      apply qst;exact rfl;exact rfl;exact q_callP rfl (end_ret y q (o2 h2)) rfl (by repeat' constructor) rfl rfl
      repeat (refine stp rfl ?_ ?_;·repeat' constructor)
      (first | refine ps_split rfl rfl (fun h => ?_) (fun h => ?_) | refine pq_split rfl rfl (fun h => ?_) (fun h => ?_) | refine p3_split rfl rfl (fun h => ?_) (fun h => ?_))
      · have h3 := h
        clear h
        repeat (refine stp rfl ?_ ?_;·repeat' constructor)
        apply qst;exact rfl;exact rfl;exact q_idxm rfl rfl rfl rfl rfl (by omega) hq rfl
        repeat (refine stp rfl ?_ ?_;·repeat' constructor)
        apply qst;exact rfl;exact rfl;exact q_idxm rfl rfl rfl rfl rfl (by omega) hp rfl
        repeat (refine stp rfl ?_ ?_;·repeat' constructor)
        apply qst;exact rfl;exact rfl;exact q_idxm rfl rfl rfl rfl rfl (by omega) hx rfl
        repeat (refine stp rfl ?_ ?_;·repeat' constructor)
        apply qst;exact rfl;exact rfl;exact q_callP rfl (end_ret x p (o1 h1)) rfl (by repeat' constructor) rfl rfl
        repeat (refine stp rfl ?_ ?_;·repeat' constructor)
        exact end1b rfl rfl (by rw [meetP, h1, h2, h3]; rfl)
      · have h3 := h
        repeat (refine stp rfl ?_ ?_;·repeat' constructor)
        exact end1b rfl rfl (by rw [meetP, h1, h2, h3]; rfl)
    · have h2 : q.on = false := h
      repeat (refine stp rfl ?_ ?_;·repeat' constructor)
      exact end1b rfl rfl (by rw [meetP, h1, h2]; rfl)
  · have h1 : p.on = false := h
    repeat (refine stp rfl ?_ ?_;·repeat' constructor)
    exact end1b rfl rfl (by rw [meetP, h1]; rfl)
end Go.Pv

/- The breaches, kind by kind. -/
set_option maxHeartbeats 2000000
namespace Go.Pv
attribute [local irreducible] PWP POps PQuiet PSem XThen XBlock RetPost InlPost
open Go.Proofs

structure SBr where
  a : Str
  b : Str
  r : Int
  deriving DecidableEq
def eBr (x : SBr) : List PV := [.str x.a, .str x.b, I x.r]
/-- Slots that the items can have, all laid. -/
structure Full (w : SWork) (l : List SPl) : Prop extends Plan w l where
  on : ∀ (i : Nat) p, l[i]? = some p → p.on = true
theorem Full.at_ {w : SWork} {l : List SPl} (h : Full w l) {i : Nat} {x : SItem} {p : SPl} (hx : w.items[i]? = some x) (hp : l[i]? = some p) : PlOk x p := h.ok i x p hx hp (h.on i p hp)

def slP (l : List SPl) (k : Int) : SPl := l.getD k.toNat ⟨0, 0, false⟩
def itP (w : SWork) (k : Int) : SItem := w.items.getD k.toNat ⟨[], [], [], [], 0, false, []⟩
theorem slP_at {l : List SPl} {k : Nat} {p : SPl} (h : l[k]? = some p) : slP l k = p := by rw [slP, Int.toNat_natCast, List.getD_eq_getElem?_getD, h]; rfl
theorem itP_at {w : SWork} {k : Nat} {x : SItem} (h : w.items[k]? = some x) : itP w k = x := by rw [itP, Int.toNat_natCast, List.getD_eq_getElem?_getD, h]; rfl
theorem flatMap_len {α β : Type} {f : α → List β} {c : Nat} (hf : ∀ x, (f x).length ≤ c) : ∀ l : List α, (l.flatMap f).length ≤ l.length * c
  | [] => by simp
  | a :: l => by
    have := flatMap_len hf l
    have := hf a
    simp only [List.flatMap_cons, List.length_append, List.length_cons, Nat.add_mul, Nat.one_mul]
    omega
theorem range_flatMap {β : Type} (f : Nat → List β) (k : Nat) : (List.range (k + 1)).flatMap f = (List.range k).flatMap f ++ f k := by
  rw [List.range_succ, List.flatMap_append]; simp

theorem als_snoc {α : Type} (e : α → List PV) (k g : Nat) (l : List α) (a : α) : PV.als k (g + l.length + 1) 0 (l.map e ++ [e a]).length = PV.als k (g + (l ++ [a]).length) 0 ((l ++ [a]).map e).length := by simp [Nat.add_assoc]
theorem cont_snoc {α : Type} (e : α → List PV) (g T sz kd : Nat) (l : List α) (a : α) : (g + l.length + 1, some (Cont.mk T sz (l.map e ++ [e a]) kd)) = (g + (l ++ [a]).length, some (Cont.mk T sz ((l ++ [a]).map e) kd)) := by simp [Nat.add_assoc]

def earlyAt (w : SWork) (l : List SPl) (i : Nat) (k : Int) : List SBr := if (slP l i).day < endP (itP w k) (slP l k) then [⟨(itP w k).name, (itP w i).name, 10⟩] else []
def earlyN (w : SWork) (l : List SPl) (n : Nat) : List SBr := (List.range n).flatMap fun i => ((bef w).getD i []).flatMap (earlyAt w l i)
def earlyP (w : SWork) (l : List SPl) : List SBr := earlyN w l w.items.length
def earlyJ (w : SWork) (l : List SPl) (k : Nat) (row : List Int) (j : Nat) : List SBr := earlyN w l k ++ (row.take j).flatMap (earlyAt w l k)
theorem earlyAt_len (w : SWork) (l : List SPl) (i : Nat) (k : Int) : (earlyAt w l i k).length ≤ 1 := by unfold earlyAt; split <;> simp
theorem earlyN_len (w : SWork) (hw : Sane w) (l : List SPl) (n : Nat) : (earlyN w l n).length ≤ n * 100000 := by
  have := flatMap_len (f := fun i => ((bef w).getD i []).flatMap (earlyAt w l i)) (c := 100000) (fun i => by
    have h1 := flatMap_len (earlyAt_len w l i) ((bef w).getD i [])
    have h2 : ((bef w).getD i []).length ≤ 100000 := by
      rw [List.getD_eq_getElem?_getD, bef, List.getElem?_map]
      cases hx : w.items[i]? with
      | none => simp
      | some x => have := hw.after x (List.mem_of_getElem? hx); simp [aft]; omega
    omega) (List.range n)
  rw [List.length_range] at this
  exact this
theorem earlyJ_len (w : SWork) (hw : Sane w) (l : List SPl) (n : Nat) (row : List Int) (hr : row.length ≤ 100000) (j : Nat) : (earlyJ w l n row j).length ≤ (n + 1) * 100000 := by
  have h1 := earlyN_len w hw l n
  have h2 := flatMap_len (earlyAt_len w l n) (row.take j)
  have h3 : (row.take j).length ≤ 100000 := by rw [List.length_take]; omega
  rw [earlyJ, List.length_append]
  omega

theorem early_ret (w : SWork) (hw : Sane w) (hv : Well w) (l : List SPl) (hf : Full w l) : Ret Tryz.prog .shared 105 [.agg (eWork w), .sl (l.map ePl)] (.sl ((earlyP w l).map eBr)) := by
  have h1 := hw.items
  have hn := hv.n40
  have hl := hf.len
  have hbl : (bef w).length = w.items.length := by simp [bef]
  have hml : ((bef w).map eL).length = w.items.length := by rw [List.length_map, hbl]
  refine Ret.of_pwp layOk mixed Go.Proofs.Tryz.func105 rfl (by decide) rfl rfl ?_
  ((repeat (first | refine ps_nil ?_ | refine pq_nil ?_ | refine x_norm ?_ | refine pw_seq ?_)); refine pw_region ?_)
  refine ps_run (o_box rfl rfl rfl (by repeat' constructor) rfl ?_)
  refine ps_v rfl trivial ?_
  ((repeat (first | refine ps_nil ?_ | refine pq_nil ?_ | refine x_norm ?_ | refine pw_seq ?_)); refine pw_region ?_)
  (first | refine ps_run (o_nilm 84 3 0 rfl rfl ?_) | refine ps_run (o_nila 84 3 0 rfl rfl ?_))
  repeat (refine stp rfl ?_ ?_;·repeat' constructor)
  apply qst;exact rfl;exact rfl;exact q_call rfl (before_ret w h1 hw.after) rfl (by repeat' constructor) rfl
  repeat (refine stp rfl ?_ ?_;·repeat' constructor)
  refine pw_loop (fun k => k ≤ w.items.length) (fun k => [(1, .sl (l.map ePl)), (2, .ptr 2 1 0 0), (5, .als 5 (1 + (earlyN w l k).length) 0 ((earlyN w l k).map eBr).length), (11, .sl ((bef w).map eL)), (12, I w.items.length), (13, I k)])
    (fun k => [(2, 1, ⟨28, 9, [eWork w], 2⟩), (5, 1 + (earlyN w l k).length, ⟨84, 3, (earlyN w l k).map eBr, 0⟩)]) (fun k => w.items.length - k) 0 (Nat.zero_le _) ⟨rfl, rfl, rfl, rfl, ?_, rfl, rfl, rfl, trivial⟩ ?_
  · show I (((bef w).map eL).length) = _
    rw [hml]
  intro k s hk
  repeat (refine stp rfl ?_ ?_;·repeat' constructor)
  refine pw_cond rfl (fun h => ?_) (fun h => ?_)
  · have hlt : k < w.items.length := by simpa using h
    clear h
    obtain ⟨x, hx⟩ := get_lt hlt
    obtain ⟨p, hp⟩ := get_lt (show k < l.length by omega)
    have hax := hw.after x (List.mem_of_getElem? hx)
    have hbx : (bef w)[k]? = some (aft w x) := by rw [bef, List.getElem?_map, hx]; rfl
    have hal : (aft w x).length ≤ 100000 := by simp [aft]; omega
    have e0 : earlyJ w l k (aft w x) 0 = earlyN w l k := by simp [earlyJ]
    have hsucc : earlyN w l (k + 1) = earlyJ w l k (aft w x) (aft w x).length := by rw [earlyJ, List.take_length, earlyN, range_flatMap, List.getD_eq_getElem?_getD, hbx]; rfl
    repeat (refine stp rfl ?_ ?_;·repeat' constructor)
    apply qst;exact rfl;exact rfl;exact q_idxm rfl rfl rfl rfl rfl (by omega) hbx rfl
    repeat (refine stp rfl ?_ ?_;·repeat' constructor)
    refine pw_loop (fun j => j ≤ (aft w x).length) (fun j => [(1, .sl (l.map ePl)), (2, .ptr 2 1 0 0), (5, .als 5 (1 + (earlyJ w l k (aft w x) j).length) 0 ((earlyJ w l k (aft w x) j).map eBr).length), (6, I k), (11, .sl ((bef w).map eL)), (12, I w.items.length), (13, I k), (18, .sl ((aft w x).map eI)), (19, I (aft w x).length), (20, I j)])
      (fun j => [(2, 1, ⟨28, 9, [eWork w], 2⟩), (5, 1 + (earlyJ w l k (aft w x) j).length, ⟨84, 3, (earlyJ w l k (aft w x) j).map eBr, 0⟩)]) (fun j => (aft w x).length - j) 0 (Nat.zero_le _) ⟨rfl, rfl, ?_, rfl, rfl, rfl, rfl, rfl, ?_, rfl, rfl, ?_, trivial⟩ ?_
    · rw [e0]; rfl
    · show I (((aft w x).map eI).length) = _
      simp
    · rw [e0]; rfl
    intro j s' hj
    repeat (refine stp rfl ?_ ?_;·repeat' constructor)
    refine pw_cond rfl (fun h => ?_) (fun h => ?_)
    · have hlt' : j < (aft w x).length := by simpa using h
      clear h
      obtain ⟨nm, hnm⟩ := get_lt (show j < x.after.length by simpa [aft] using hlt')
      obtain ⟨jn, y, hy, hyn, hidx⟩ := known_at hv.good (List.mem_of_getElem? hx) (List.mem_of_getElem? hnm)
      have hz : (aft w x)[j]? = some (jn : Int) := by rw [aft, List.getElem?_map, hnm]; exact congrArg some hidx
      have hjl := (List.getElem?_eq_some_iff.1 hy).1
      obtain ⟨q, hq⟩ := get_lt (show jn < l.length by omega)
      have hb := earlyJ_len w hw l k (aft w x) hal j
      have hstep : earlyJ w l k (aft w x) (j + 1) = earlyJ w l k (aft w x) j ++ earlyAt w l k jn := by rw [earlyJ, take_snoc hz, List.flatMap_append, earlyJ, List.append_assoc]; simp
      have hat : earlyAt w l k jn = if p.day < endP y q then [⟨y.name, x.name, 10⟩] else [] := by rw [earlyAt, slP_at hp, slP_at hq, itP_at hy, itP_at hx]
      repeat (refine stp rfl ?_ ?_;·repeat' constructor)
      apply qst;exact rfl;exact rfl;exact q_idxm rfl rfl rfl rfl rfl (by omega) hz rfl
      repeat (refine stp rfl ?_ ?_;·repeat' constructor)
      refine pw_draw 16 [24, 25, 26, 27, 28, 29, 30, 31, 32, 33, 34, 35, 36, 37, 38, 39] (by decide +kernel) ?_
      repeat (refine stp rfl ?_ ?_;·repeat' constructor)
      apply qst;exact rfl;exact rfl;exact q_idxm (n := (jn : Int)) rfl rfl rfl rfl rfl (by omega) hq rfl
      repeat (refine stp rfl ?_ ?_;·repeat' constructor)
      apply qst;exact rfl;exact rfl;exact q_idxm (n := (jn : Int)) rfl rfl rfl rfl rfl (by omega) hy rfl
      repeat (refine stp rfl ?_ ?_;·repeat' constructor)
      apply qst;exact rfl;exact rfl;exact q_callP rfl (end_ret y q (hf.at_ hy hq)) rfl (by repeat' constructor) rfl rfl
      repeat (refine stp rfl ?_ ?_;·repeat' constructor)
      apply qst;exact rfl;exact rfl;exact q_idxm rfl rfl rfl rfl rfl (by omega) hp rfl
      repeat (refine stp rfl ?_ ?_;·repeat' constructor)
      refine pw_cond rfl (fun h => ?_) (fun h => ?_)
      · have hc := of_decide_eq_true h
        clear h
        have he : earlyJ w l k (aft w x) (j + 1) = earlyJ w l k (aft w x) j ++ [⟨y.name, x.name, 10⟩] := by rw [hstep, hat, if_pos hc]
        repeat (refine stp rfl ?_ ?_;·repeat' constructor)
        refine pw_draw 15 [40, 41, 42, 43, 44, 45, 46, 47, 48, 49, 50, 51, 52, 53, 54] (by decide +kernel) ?_
        repeat (refine stp rfl ?_ ?_;·repeat' constructor)
        apply qst;exact rfl;exact rfl;exact q_idxm (n := (jn : Int)) rfl rfl rfl rfl rfl (by omega) hy rfl
        repeat (refine stp rfl ?_ ?_;·repeat' constructor)
        apply qst;exact rfl;exact rfl;exact q_idxm rfl rfl rfl rfl rfl (by omega) hx rfl
        repeat (refine stp rfl ?_ ?_;·repeat' constructor)
        apply qst;exact rfl;exact rfl;exact q_slit rfl rfl rfl rfl rfl rfl rfl rfl rfl rfl (by repeat' constructor) rfl
        repeat (refine stp rfl ?_ ?_;·repeat' constructor)
        refine ps_run (o_app 0 rfl rfl rfl rfl rfl rfl rfl rfl rfl rfl rfl (by repeat' constructor) (by intro row hr; first | (simp at hr; subst hr; rfl) | simp at hr) rfl rfl (by simp; omega) (by simp; omega) ?_)
        repeat (refine stp rfl ?_ ?_;·repeat' constructor)
        refine ⟨j + 1, hlt', by omega, rfl, rfl, ?_, rfl, rfl, rfl, rfl, rfl, rfl, ?_, rfl, ?_, trivial⟩
        · rw [he]; exact als_snoc eBr 5 1 (earlyJ w l k (aft w x) j) ⟨y.name, x.name, 10⟩
        · exact i64_next (by omega) (by omega)
        · rw [he]; exact cont_snoc eBr 1 84 3 0 (earlyJ w l k (aft w x) j) ⟨y.name, x.name, 10⟩
      · have hc := of_decide_eq_false h
        clear h
        have he : earlyJ w l k (aft w x) (j + 1) = earlyJ w l k (aft w x) j := by rw [hstep, hat, if_neg hc, List.append_nil]
        repeat (refine stp rfl ?_ ?_;·repeat' constructor)
        refine ⟨j + 1, hlt', by omega, rfl, rfl, ?_, rfl, rfl, rfl, rfl, rfl, rfl, ?_, rfl, ?_, trivial⟩
        · rw [he]; rfl
        · exact i64_next (by omega) (by omega)
        · rw [he]; rfl
    · have hge : j = (aft w x).length := by have := of_decide_eq_false h; omega
      subst hge
      clear h
      repeat (refine stp rfl ?_ ?_;·repeat' constructor)
      refine ⟨k + 1, hlt, by omega, rfl, rfl, ?_, rfl, rfl, ?_, rfl, ?_, trivial⟩
      · rw [hsucc]; rfl
      · exact i64_next (by omega) (by omega)
      · rw [hsucc]; rfl
  · have hge : k = w.items.length := by have := of_decide_eq_false h; omega
    subst hge
    repeat (refine stp rfl ?_ ?_;·repeat' constructor)
    exact end1 rfl rfl rfl ⟨rfl, rfl, rfl⟩ rfl
end Go.Pv

/- The board: people at work on a day. -/
set_option maxHeartbeats 2000000
namespace Go.Pv
attribute [local irreducible] PWP POps PQuiet PSem XThen XBlock RetPost InlPost
open Go.Proofs

def crewP (x : SItem) (p : SPl) (d : Int) : Int := if p.on && (decide (p.day ≤ d) && decide (d < endP x p)) then (modeAt x p.mode).crew else 0
theorem crew_ret (x : SItem) (p : SPl) (d : Int) (h : p.on = true → PlOk x p) : Ret Tryz.prog .shared 116 [.agg (ePl p), .agg (eItem x), I d] (I (crewP x p d)) := by
  obtain ⟨pm, pd, po⟩ := p
  cases po with
  | false =>
    refine Ret.of_pwp layOk mixed Go.Proofs.Tryz.func116 rfl (by decide) rfl rfl ?_
    repeat (refine stp rfl ?_ ?_;·repeat' constructor)
    exact end1i rfl rfl rfl
  | true =>
    have hok := h rfl
    have hm := hok.mode
    have hlo := hok.lo
    have he := end_ret x _ hok
    unfold crewP
    generalize hen : endP x ⟨pm, pd, true⟩ = en at *
    refine Ret.of_pwp layOk mixed Go.Proofs.Tryz.func116 rfl (by decide) rfl rfl ?_
    repeat (refine stp rfl ?_ ?_;·repeat' constructor)
    (first | refine ps_split rfl rfl (fun h => ?_) (fun h => ?_) | refine pq_split rfl rfl (fun h => ?_) (fun h => ?_) | refine p3_split rfl rfl (fun h => ?_) (fun h => ?_))
    · have h1 : d < pd := of_decide_eq_true h
      clear h
      repeat (refine stp rfl ?_ ?_;·repeat' constructor)
      exact end1i rfl rfl (by
        rw [if_neg]
        simp; omega)
    · have h1 : ¬ d < pd := of_decide_eq_false h
      clear h
      repeat (refine stp rfl ?_ ?_;·repeat' constructor)
      apply qst;exact rfl;exact rfl;exact q_callP rfl (he) rfl (by repeat' constructor) rfl rfl
      repeat (refine stp rfl ?_ ?_;·repeat' constructor)
      refine pw_cond rfl (fun h => ?_) (fun h => ?_)
      · have h2 : en ≤ d := of_decide_eq_true h
        clear h
        repeat (refine stp rfl ?_ ?_;·repeat' constructor)
        exact end1i rfl rfl (by rw [if_neg]; simp; omega)
      · have h2 : ¬ en ≤ d := of_decide_eq_false h
        clear h
        repeat (refine stp rfl ?_ ?_;·repeat' constructor)
        apply qst;exact rfl;exact rfl;exact q_idxm rfl rfl rfl rfl rfl (by omega) hm rfl
        repeat (refine stp rfl ?_ ?_;·repeat' constructor)
        exact end1i rfl rfl (by rw [if_pos]; simp; omega)
/-- The board as it lies in memory. -/
def apM (w : SWork) : List (List Bool) := (List.range w.items.length).map fun (i : Nat) => (List.range w.items.length).map fun (k : Nat) => decide (i ≠ k) && apartP w (itP w i) (itP w k)
def eB (b : Bool) : List PV := [.bool b]
def eLB (l : List Bool) : List PV := [.sl (l.map eB)]
def bd (w : SWork) (fi : List Int) (l : List SPl) : List PV := eWork w ++ [.sl ((bef w).map eL), .sl ((apM w).map eLB), .sl (fi.map eI), .sl (l.map ePl)]
def manF (w : SWork) (l : List SPl) (i : Nat) (x : SItem) (d a : Int) (k : Nat) : Int := if decide (k ≠ i) && decide ((itP w k).trade = x.trade) then a + crewP (itP w k) (slP l k) d else a
def manN (w : SWork) (l : List SPl) (i : Nat) (x : SItem) (p : SPl) (d : Int) (k : Nat) : Int := (List.range k).foldl (manF w l i x d) (modeAt x p.mode).crew
def manB (w : SWork) (l : List SPl) (i : Nat) (x : SItem) (p : SPl) : Bool := !((List.range (modeAt x p.mode).days.toNat).any fun j => decide (crewOf w x < manN w l i x p (p.day + j) w.items.length))
theorem crewP_bound {x : SItem} {p : SPl} {d : Int} (h : p.on = true → PlOk x p) : 0 ≤ crewP x p d ∧ crewP x p d ≤ 1000 := by
  unfold crewP
  split
  · rename_i hc
    simp only [Bool.and_eq_true] at hc
    exact (h hc.1).crew
  · omega
theorem man_bound {w : SWork} {l : List SPl} (hp : Plan w l) {i : Nat} {x : SItem} {p : SPl} (h : PlOk x p) (d : Int) (k : Nat) (hk : k ≤ w.items.length) : 0 ≤ manN w l i x p d k ∧ manN w l i x p d k ≤ 1000 + 1000 * k := by
  induction k with
  | zero => exact ⟨h.crew.1, by have := h.crew.2; show (modeAt x p.mode).crew ≤ _; omega⟩
  | succ k ih =>
    have ih := ih (by omega)
    obtain ⟨y, hy⟩ := get_lt (show k < w.items.length by omega)
    obtain ⟨q, hq⟩ := get_lt (show k < l.length by have := hp.len; omega)
    have hc := crewP_bound (d := d) (hp.ok k y q hy hq)
    rw [manN, List.range_succ, List.foldl_append]
    rw [manN] at ih
    generalize List.foldl (manF w l i x d) (modeAt x p.mode).crew (List.range k) = n at ih ⊢
    show 0 ≤ manF w l i x d n k ∧ manF w l i x d n k ≤ _
    unfold manF
    rw [itP_at hy, slP_at hq]
    split <;> omega
set_option maxRecDepth 20000 in
theorem manned_ret (w : SWork) (hw : Sane w) (hv : Well w) (fi : List Int) (l : List SPl) (hp : Plan w l) {i : Nat} {x : SItem} (hx : w.items[i]? = some x) (p : SPl) (hok : PlOk x p) :
    Ret Tryz.prog .shared 103 [.dref (bd w fi l) 0, I i, .agg (ePl p)] (.bool (manB w l i x p)) := by
  have htl := hw.trades
  have hn := hv.n40
  have hlo := hok.lo
  have hm := hok.mode
  have hday := hok.day
  have hdays := hok.days
  have hio := hv.item x (List.mem_of_getElem? hx)
  have ht0 := hio.trade
  obtain ⟨t, ht, _⟩ := idx_lt ht0
  have hco : crewOf w x = t.crew := by rw [crewOf, ht]
  have hix := index_ret (w.trades.map (·.name)) x.trade (by simp; omega)
  rw [idx_map, show idx w.trades (fun a => a.name == x.trade) = idx w.trades (·.name == x.trade) from rfl] at hix
  have hll : ((l.map ePl).length : Int) = w.items.length := by rw [List.length_map, hp.len]
  have he := end_ret x p hok
  have hend : endP x p = p.day + (modeAt x p.mode).days := rfl
  generalize idx w.trades (·.name == x.trade) = ix at *
  unfold manB
  rw [hco]
  refine Ret.of_pwp layOk mixed Go.Proofs.Tryz.func103 rfl (by decide) rfl rfl ?_
  repeat (refine stp rfl ?_ ?_;·repeat' constructor)
  apply qst;exact rfl;exact rfl;exact q_idxm rfl rfl rfl rfl rfl (by omega) hx rfl
  repeat (refine stp rfl ?_ ?_;·repeat' constructor)
  refine pw_draw 17 [21, 22, 23, 24, 25, 26, 27, 28, 29, 30, 31, 32, 33, 34, 35, 36, 8] (by decide +kernel) ?_
  repeat (refine stp rfl ?_ ?_;·repeat' constructor)
  apply qst;exact rfl;exact rfl;exact q_call rfl (tradeNames_ret w (by omega)) rfl (by repeat' constructor) rfl
  repeat (refine stp rfl ?_ ?_;·repeat' constructor)
  apply qst;exact rfl;exact rfl;exact q_callP rfl (hix) rfl (by repeat' constructor) rfl rfl
  repeat (refine stp rfl ?_ ?_;·repeat' constructor)
  apply qst;exact rfl;exact rfl;exact q_idxm rfl rfl rfl rfl rfl (by omega) ht rfl
  repeat (refine stp rfl ?_ ?_;·repeat' constructor)
  refine pw_loop (fun j => Clear (List.range (modeAt x p.mode).days.toNat) (fun j => decide (t.crew < manN w l i x p (p.day + (j : Nat)) w.items.length)) j) (fun j => [(0, .dref (bd w fi l) 0), (1, I i), (5, .ptr 5 1 0 0), (7, .ptr 7 1 0 0), (8, I t.crew), (9, I (p.day + (j : Nat)))])
    (fun _ => [(5, 1, ⟨102, 3, [ePl p], 2⟩), (7, 1, ⟨69, 7, [eItem x], 2⟩)]) (fun j => (modeAt x p.mode).days.toNat - j) 0 .zero ⟨rfl, rfl, rfl, rfl, rfl, ?_, rfl, rfl, trivial⟩ ?_
  · show I p.day = I (p.day + ((0 : Nat) : Int))
    rw [Int.natCast_zero, Int.add_zero]
  intro j s hj
  have hjl := hj.1
  rw [List.length_range] at hjl
  repeat (refine stp rfl ?_ ?_;·repeat' constructor)
  apply qst;exact rfl;exact rfl;exact q_callP rfl (he) rfl (by repeat' constructor) rfl rfl
  repeat (refine stp rfl ?_ ?_;·repeat' constructor)
  refine pw_cond rfl (fun h => ?_) (fun h => ?_)
  · have hlt : j < (modeAt x p.mode).days.toNat := by have := of_decide_eq_true h; omega
    clear h
    have hrj : (List.range (modeAt x p.mode).days.toNat)[j]? = some j := List.getElem?_range hlt
    repeat (refine stp rfl ?_ ?_;·repeat' constructor)
    apply qst;exact rfl;exact rfl;exact q_idxm rfl rfl rfl rfl rfl (by omega) hm rfl
    repeat (refine stp rfl ?_ ?_;·repeat' constructor)
    refine pw_loop (fun k => k ≤ w.items.length) (fun k => [(0, .dref (bd w fi l) 0), (1, I i), (5, .ptr 5 1 0 0), (7, .ptr 7 1 0 0), (8, I t.crew), (9, I (p.day + (j : Nat))), (10, I (manN w l i x p (p.day + (j : Nat)) k)), (56, .sl (l.map ePl)), (57, I w.items.length), (58, I k)])
      (fun _ => [(5, 1, ⟨102, 3, [ePl p], 2⟩), (7, 1, ⟨69, 7, [eItem x], 2⟩)]) (fun k => w.items.length - k) 0 (Nat.zero_le _) ⟨rfl, rfl, rfl, rfl, rfl, rfl, rfl, rfl, ?_, rfl, rfl, rfl, trivial⟩ ?_
    · show I (l.map ePl).length = _
      rw [hll]
    intro k s2 hk
    repeat (refine stp rfl ?_ ?_;·repeat' constructor)
    refine pw_cond rfl (fun h => ?_) (fun h => ?_)
    · have hklt : k < w.items.length := by have := of_decide_eq_true h; omega
      clear h
      obtain ⟨y, hy⟩ := get_lt hklt
      obtain ⟨q, hq⟩ := get_lt (show k < l.length by have := hp.len; omega)
      have hb := man_bound (i := i) hp hok (p.day + (j : Nat)) (k + 1) hklt
      have hb0 := man_bound (i := i) hp hok (p.day + (j : Nat)) k (by omega)
      have hcr := crew_ret y q (p.day + (j : Nat)) (hp.ok k y q hy hq)
      have hcb := crewP_bound (d := p.day + (j : Nat)) (hp.ok k y q hy hq)
      have hstep : manN w l i x p (p.day + (j : Nat)) (k + 1) = manF w l i x (p.day + (j : Nat)) (manN w l i x p (p.day + (j : Nat)) k) k := by rw [manN, List.range_succ, List.foldl_append]; rfl
      unfold manF at hstep
      rw [itP_at hy, slP_at hq] at hstep
      generalize manN w l i x p (p.day + (j : Nat)) k = a at *
      generalize crewP y q (p.day + (j : Nat)) = cr at *
      repeat (refine stp rfl ?_ ?_;·repeat' constructor)
      apply qst;exact rfl;exact rfl;exact q_idxm rfl rfl rfl rfl rfl (by omega) hq rfl
      repeat (refine stp rfl ?_ ?_;·repeat' constructor)
      refine pw_draw 17 [63, 64, 65, 66, 67, 68, 69, 70, 71, 72, 73, 74, 75, 76, 77, 78, 79] (by decide +kernel) ?_
      repeat (refine stp rfl ?_ ?_;·repeat' constructor)
      (first | refine ps_split rfl rfl (fun h => ?_) (fun h => ?_) | refine pq_split rfl rfl (fun h => ?_) (fun h => ?_) | refine p3_split rfl rfl (fun h => ?_) (fun h => ?_))
      · have hne : k ≠ i := by rintro rfl; simp at h
        clear h
        rw [decide_eq_true hne, Bool.true_and] at hstep
        repeat (refine stp rfl ?_ ?_;·repeat' constructor)
        apply qst;exact rfl;exact rfl;exact q_idxm rfl rfl rfl rfl rfl (by omega) hy rfl
        repeat (refine stp rfl ?_ ?_;·repeat' constructor)
        refine pw_cond rfl (fun h => ?_) (fun h => ?_)
        · have hte : y.trade = x.trade := of_decide_eq_true h
          clear h
          rw [decide_eq_true hte, if_pos rfl] at hstep
          repeat (refine stp rfl ?_ ?_;·repeat' constructor)
          refine pw_draw 13 [80, 81, 82, 83, 84, 85, 86, 87, 88, 89, 90, 91, 92] (by decide +kernel) ?_
          repeat (refine stp rfl ?_ ?_;·repeat' constructor)
          apply qst;exact rfl;exact rfl;exact q_idxm rfl rfl rfl rfl rfl (by omega) hy rfl
          repeat (refine stp rfl ?_ ?_;·repeat' constructor)
          apply qst;exact rfl;exact rfl;exact q_callP rfl (hcr) rfl (by repeat' constructor) rfl rfl
          repeat (refine stp rfl ?_ ?_;·repeat' constructor)
          refine ⟨k + 1, hklt, by omega, rfl, rfl, rfl, rfl, rfl, rfl, ?_, rfl, rfl, i64_next (by omega) (by omega), rfl, rfl, trivial⟩
          show PV.int .i64 (IntKind.i64.wrap (a + cr)) = _
          rw [hstep, wrap_i64 (by omega) (by omega)]
        · have hte : ¬ y.trade = x.trade := of_decide_eq_false h
          clear h
          rw [decide_eq_false hte, if_neg (by simp)] at hstep
          repeat (refine stp rfl ?_ ?_;·repeat' constructor)
          exact ⟨k + 1, hklt, by omega, rfl, rfl, rfl, rfl, rfl, rfl, congrArg I hstep.symm, rfl, rfl, i64_next (by omega) (by omega), rfl, rfl, trivial⟩
      · have hne : k = i := by
          have : (k : Int) = i := by simpa using h
          omega
        clear h
        rw [decide_eq_false (by omega), Bool.false_and, if_neg (by simp)] at hstep
        repeat (refine stp rfl ?_ ?_;·repeat' constructor)
        exact ⟨k + 1, hklt, by omega, rfl, rfl, rfl, rfl, rfl, rfl, congrArg I hstep.symm, rfl, rfl, i64_next (by omega) (by omega), rfl, rfl, trivial⟩
    · have hge : k = w.items.length := by have := of_decide_eq_false h; omega
      subst hge
      clear h
      have hb0 := man_bound (i := i) hp hok (p.day + (j : Nat)) w.items.length (Nat.le_refl _)
      repeat (refine stp rfl ?_ ?_;·repeat' constructor)
      refine pw_cond rfl (fun h => ?_) (fun h => ?_)
      · have hc : t.crew < manN w l i x p (p.day + (j : Nat)) w.items.length := of_decide_eq_true h
        clear h
        have hany : ((List.range (modeAt x p.mode).days.toNat).any fun j => decide (t.crew < manN w l i x p (p.day + (j : Nat)) w.items.length)) = true := any_of hrj (decide_eq_true hc)
        rw [hany]
        repeat (refine stp rfl ?_ ?_;·repeat' constructor)
        exact end1b rfl rfl rfl
      · have hc : ¬ t.crew < manN w l i x p (p.day + (j : Nat)) w.items.length := of_decide_eq_false h
        clear h
        repeat (refine stp rfl ?_ ?_;·repeat' constructor)
        refine ⟨j + 1, hj.succ hrj (decide_eq_false hc), by omega, rfl, rfl, rfl, rfl, rfl, ?_, rfl, rfl, trivial⟩
        show PV.int .i64 (IntKind.i64.wrap (p.day + (j : Nat) + 1)) = _
        rw [wrap_i64 (by omega) (by omega)]
        exact congrArg I (by omega)
  · have hge : j = (modeAt x p.mode).days.toNat := by have := of_decide_eq_false h; omega
    subst hge
    clear h
    rw [hj.any (by simp)]
    repeat (refine stp rfl ?_ ?_;·repeat' constructor)
    exact end1b rfl rfl rfl
end Go.Pv

/- The board: what fits. -/
set_option maxHeartbeats 2000000
namespace Go.Pv
attribute [local irreducible] PWP POps PQuiet PSem XThen XBlock RetPost InlPost
open Go.Proofs

def badF (w : SWork) (l : List SPl) (i : Nat) (x : SItem) (p : SPl) (k : Nat) : Bool :=
  ((slP l k).on && decide (k ≠ i)) && ((((bef w).getD i []).any (· == (k : Int)) && decide (p.day < endP (itP w k) (slP l k))) || (((bef w).getD k []).any (· == (i : Int)) && decide ((slP l k).day < endP x p)) ||
    (apartP w x (itP w k) && decide (p.day < endP (itP w k) (slP l k)) && decide ((slP l k).day < endP x p)))
def fitP (w : SWork) (fi : List Int) (l : List SPl) (i : Nat) (x : SItem) (p : SPl) : Bool :=
  !(decide (p.day < fi.getD i 0) || decide (w.last < endP x p) || stopP w x p) && (!((List.range w.items.length).any (badF w l i x p)) && manB w l i x p)
theorem apM_at {w : SWork} {i k : Nat} {x y : SItem} (hx : w.items[i]? = some x) (hy : w.items[k]? = some y) : ∃ r, (apM w)[i]? = some r ∧ r[k]? = some (decide (i ≠ k) && apartP w x y) := by
  have hi := (List.getElem?_eq_some_iff.1 hx).1
  have hk := (List.getElem?_eq_some_iff.1 hy).1
  refine ⟨_, by rw [apM, List.getElem?_map, List.getElem?_range hi]; rfl, ?_⟩
  rw [List.getElem?_map, List.getElem?_range hk, itP_at hx]
  show some (decide (i ≠ k) && apartP w x (itP w k)) = _
  rw [itP_at hy]
set_option maxRecDepth 20000 in
theorem fits_ret (w : SWork) (hw : Sane w) (hv : Well w) (fi : List Int) (hfi : fi.length = w.items.length) (l : List SPl) (hp : Plan w l) {i : Nat} {x : SItem} (hx : w.items[i]? = some x) (p : SPl) (hok : PlOk x p) :
    Ret Tryz.prog .shared 85 [.dref (bd w fi l) 0, I i, .agg (ePl p)] (.bool (fitP w fi l i x p)) := by
  have hn := hv.n40
  have hi := (List.getElem?_eq_some_iff.1 hx).1
  have hll : ((l.map ePl).length : Int) = w.items.length := by rw [List.length_map, hp.len]
  have he := end_ret x p hok
  have hst := stopped_ret w hw x p hok
  have hman := manned_ret w hw hv fi l hp hx p hok
  obtain ⟨f0, hf0⟩ := get_lt (show i < fi.length by omega)
  have hfd : fi.getD i 0 = f0 := by rw [List.getD_eq_getElem?_getD, hf0]; rfl
  have hbi : (bef w)[i]? = some (aft w x) := by rw [bef, List.getElem?_map, hx]; rfl
  have hbd : (bef w).getD i [] = aft w x := by rw [List.getD_eq_getElem?_getD, hbi]; rfl
  have hax := hw.after x (List.mem_of_getElem? hx)
  rw [fitP, hfd]
  refine Ret.of_pwp layOk mixed Go.Proofs.Tryz.func85 rfl (by decide) rfl rfl ?_
  repeat (refine stp rfl ?_ ?_;·repeat' constructor)
  apply qst;exact rfl;exact rfl;exact q_idxm rfl rfl rfl rfl rfl (by omega) hx rfl
  repeat (refine stp rfl ?_ ?_;·repeat' constructor)
  refine pw_draw 30 [19, 20, 21, 22, 23, 24, 25, 26, 27, 28, 29, 30, 31, 32, 33, 34, 35, 36, 37, 38, 39, 40, 41, 42, 43, 44, 45, 46, 47, 48] (by decide +kernel) ?_
  repeat (refine stp rfl ?_ ?_;·repeat' constructor)
  apply qst;exact rfl;exact rfl;exact q_idxm rfl rfl rfl rfl rfl (by omega) hf0 rfl
  repeat (refine stp rfl ?_ ?_;·repeat' constructor)
  (first | refine ps_split rfl rfl (fun h => ?_) (fun h => ?_) | refine pq_split rfl rfl (fun h => ?_) (fun h => ?_) | refine p3_split rfl rfl (fun h => ?_) (fun h => ?_))
  · have h1 : p.day < f0 := of_decide_eq_true h
    clear h
    repeat (refine stp rfl ?_ ?_;·repeat' constructor)
    exact end1b rfl rfl (by rw [decide_eq_true h1]; rfl)
  have h1 : ¬ p.day < f0 := of_decide_eq_false h
  clear h
  rw [decide_eq_false h1, Bool.false_or]
  repeat (refine stp rfl ?_ ?_;·repeat' constructor)
  apply qst;exact rfl;exact rfl;exact q_callP rfl (he) rfl (by repeat' constructor) rfl rfl
  repeat (refine stp rfl ?_ ?_;·repeat' constructor)
  (first | refine ps_split rfl rfl (fun h => ?_) (fun h => ?_) | refine pq_split rfl rfl (fun h => ?_) (fun h => ?_) | refine p3_split rfl rfl (fun h => ?_) (fun h => ?_))
  · have h2 : w.last < endP x p := of_decide_eq_true h
    clear h
    repeat (refine stp rfl ?_ ?_;·repeat' constructor)
    exact end1b rfl rfl (by rw [decide_eq_true h2]; rfl)
  have h2 : ¬ w.last < endP x p := of_decide_eq_false h
  clear h
  rw [decide_eq_false h2, Bool.false_or]
  cases hsp : stopP w x p with
  | true =>
    rw [hsp] at hst
    repeat (refine stp rfl ?_ ?_;·repeat' constructor)
    apply qst;exact rfl;exact rfl;exact q_callP rfl (hst) rfl (by repeat' constructor) rfl rfl
    repeat (refine stp rfl ?_ ?_;·repeat' constructor)
    exact end1b rfl rfl rfl
  | false =>
  rw [hsp] at hst
  rw [Bool.not_false, Bool.true_and]
  repeat (refine stp rfl ?_ ?_;·repeat' constructor)
  apply qst;exact rfl;exact rfl;exact q_callP rfl (hst) rfl (by repeat' constructor) rfl rfl
  repeat (refine stp rfl ?_ ?_;·repeat' constructor)
  refine pw_loop (fun k => Clear (List.range w.items.length) (badF w l i x p) k) (fun k => [(0, .dref (bd w fi l) 0), (1, I i), (5, .ptr 5 1 0 0), (7, .ptr 7 1 0 0), (52, .sl (l.map ePl)), (53, I w.items.length), (54, I k)])
    (fun _ => [(5, 1, ⟨102, 3, [ePl p], 2⟩), (7, 1, ⟨69, 7, [eItem x], 2⟩)]) (fun k => w.items.length - k) 0 .zero ⟨rfl, rfl, rfl, rfl, rfl, ?_, rfl, rfl, rfl, trivial⟩ ?_
  · show I (l.map ePl).length = _
    rw [hll]
  intro k s hk
  have hkl := hk.1
  rw [List.length_range] at hkl
  repeat (refine stp rfl ?_ ?_;·repeat' constructor)
  refine pw_cond rfl (fun h => ?_) (fun h => ?_)
  · have hklt : k < w.items.length := by have := of_decide_eq_true h; omega
    clear h
    have hrk : (List.range w.items.length)[k]? = some k := List.getElem?_range hklt
    obtain ⟨y, hy⟩ := get_lt hklt
    obtain ⟨q, hq⟩ := get_lt (show k < l.length by have := hp.len; omega)
    have hbad : badF w l i x p k = ((q.on && decide (k ≠ i)) && ((((bef w).getD i []).any (· == (k : Int)) && decide (p.day < endP y q)) || (((bef w).getD k []).any (· == (i : Int)) && decide (q.day < endP x p)) || (apartP w x y && decide (p.day < endP y q) && decide (q.day < endP x p)))) := by
      rw [badF, itP_at hy, slP_at hq]
    have hbk : (bef w)[k]? = some (aft w y) := by rw [bef, List.getElem?_map, hy]; rfl
    rw [hbd, show (bef w).getD k [] = aft w y by rw [List.getD_eq_getElem?_getD, hbk]; rfl] at hbad
    have hay := hw.after y (List.mem_of_getElem? hy)
    have hc1 := containsI_ret (aft w x) k (by simp [aft]; omega)
    have hc2 := containsI_ret (aft w y) i (by simp [aft]; omega)
    obtain ⟨ra, hra, hrb⟩ := apM_at hx hy
    obtain ⟨qm, qd, qo⟩ := q
    cases qo with
    | false =>
      repeat (refine stp rfl ?_ ?_;·repeat' constructor)
      apply qst;exact rfl;exact rfl;exact q_idxm rfl rfl rfl rfl rfl (by omega) hq rfl
      repeat (refine stp rfl ?_ ?_;·repeat' constructor)
      exact ⟨k + 1, hk.succ hrk hbad, by omega, rfl, rfl, rfl, rfl, rfl, rfl, i64_next (by omega) (by omega), rfl, rfl, trivial⟩
    | true =>
    have hqok := hp.ok k y _ hy hq rfl
    have hqe := end_ret y _ hqok
    rw [show (SPl.mk qm qd true).on = true from rfl, Bool.true_and, show (SPl.mk qm qd true).day = qd from rfl] at hbad
    generalize endP y ⟨qm, qd, true⟩ = eq at *
    generalize endP x p = ep at *
    repeat (refine stp rfl ?_ ?_;·repeat' constructor)
    apply qst;exact rfl;exact rfl;exact q_idxm rfl rfl rfl rfl rfl (by omega) hq rfl
    repeat (refine stp rfl ?_ ?_;·repeat' constructor)
    refine pw_cond rfl (fun h => ?_) (fun h => ?_)
    · have hki : k = i := by have := of_decide_eq_true h; omega
      clear h
      rw [decide_eq_false (by omega), Bool.false_and] at hbad
      repeat (refine stp rfl ?_ ?_;·repeat' constructor)
      exact ⟨k + 1, hk.succ hrk hbad, by omega, rfl, rfl, rfl, rfl, rfl, rfl, i64_next (by omega) (by omega), rfl, rfl, trivial⟩
    have hki : ¬ k = i := by have := of_decide_eq_false h; omega
    clear h
    rw [decide_eq_true hki, Bool.true_and] at hbad
    rw [decide_eq_true (by omega), Bool.true_and] at hrb
    repeat (refine stp rfl ?_ ?_;·repeat' constructor)
    apply qst;exact rfl;exact rfl;exact q_idxm rfl rfl rfl rfl rfl (by omega) hy rfl
    repeat (refine stp rfl ?_ ?_;·repeat' constructor)
    refine pw_draw 36 [75, 76, 77, 78, 79, 80, 81, 82, 83, 84, 85, 86, 87, 88, 89, 90, 91, 92, 93, 94, 95, 96, 97, 98, 99, 100, 101, 102, 103, 104, 105, 106, 107, 108, 109, 110] (by decide +kernel) ?_
    repeat (refine stp rfl ?_ ?_;·repeat' constructor)
    apply qst;exact rfl;exact rfl;exact q_idxm rfl rfl rfl rfl rfl (by omega) hbi rfl
    repeat (refine stp rfl ?_ ?_;·repeat' constructor)
    generalize (aft w x).any (· == (k : Int)) = a1 at *
    generalize (aft w y).any (· == (i : Int)) = a2 at *
    generalize apartP w x y = ap at *
    cases a1 with
    | false =>
      apply qst;exact rfl;exact rfl;exact q_callP rfl (hc1) rfl (by repeat' constructor) rfl rfl
      repeat (refine stp rfl ?_ ?_;·repeat' constructor)
      cases a2 with
      | false =>
        repeat (refine stp rfl ?_ ?_;·repeat' constructor)
        apply qst;exact rfl;exact rfl;exact q_idxm rfl rfl rfl rfl rfl (by omega) hbk rfl
        repeat (refine stp rfl ?_ ?_;·repeat' constructor)
        apply qst;exact rfl;exact rfl;exact q_callP rfl (hc2) rfl (by repeat' constructor) rfl rfl
        repeat (refine stp rfl ?_ ?_;·repeat' constructor)
        refine pw_draw 26 [111, 112, 113, 114, 115, 116, 117, 118, 119, 120, 121, 122, 123, 124, 125, 126, 127, 128, 129, 130, 131, 132, 133, 134, 135, 136] (by decide +kernel) ?_
        repeat (refine stp rfl ?_ ?_;·repeat' constructor)
        apply qst;exact rfl;exact rfl;exact q_idxm rfl rfl rfl rfl rfl (by omega) hra rfl
        repeat (refine stp rfl ?_ ?_;·repeat' constructor)
        apply qst;exact rfl;exact rfl;exact q_idxm rfl rfl rfl rfl rfl (by omega) hrb rfl
        repeat (refine stp rfl ?_ ?_;·repeat' constructor)
        cases ap with
        | false =>
          repeat (refine stp rfl ?_ ?_;·repeat' constructor)
          replace hbad : badF w l i x p k = false := by rw [hbad]; first | rfl | (simp; done) | (simp; omega)
          exact ⟨k + 1, hk.succ hrk hbad, by omega, rfl, rfl, rfl, rfl, rfl, rfl, i64_next (by omega) (by omega), rfl, rfl, trivial⟩
        | true =>
          repeat (refine stp rfl ?_ ?_;·repeat' constructor)
          apply qst;exact rfl;exact rfl;exact q_callP rfl (hqe) rfl (by repeat' constructor) rfl rfl
          repeat (refine stp rfl ?_ ?_;·repeat' constructor)
          (first | refine ps_split rfl rfl (fun h => ?_) (fun h => ?_) | refine pq_split rfl rfl (fun h => ?_) (fun h => ?_) | refine p3_split rfl rfl (fun h => ?_) (fun h => ?_))
          · have h5 : p.day < eq := of_decide_eq_true h
            clear h
            repeat (refine stp rfl ?_ ?_;·repeat' constructor)
            apply qst;exact rfl;exact rfl;exact q_callP rfl (he) rfl (by repeat' constructor) rfl rfl
            repeat (refine stp rfl ?_ ?_;·repeat' constructor)
            refine pw_cond rfl (fun h => ?_) (fun h => ?_)
            · have h6 : qd < ep := of_decide_eq_true h
              clear h
              replace hbad : badF w l i x p k = true := by rw [hbad]; first | rfl | (simp; done) | (simp; omega)
              rw [any_of hrk hbad]
              repeat (refine stp rfl ?_ ?_;·repeat' constructor)
              exact end1b rfl rfl rfl
            · have h6 : ¬ qd < ep := of_decide_eq_false h
              clear h
              repeat (refine stp rfl ?_ ?_;·repeat' constructor)
              replace hbad : badF w l i x p k = false := by rw [hbad]; first | rfl | (simp; done) | (simp; omega)
              exact ⟨k + 1, hk.succ hrk hbad, by omega, rfl, rfl, rfl, rfl, rfl, rfl, i64_next (by omega) (by omega), rfl, rfl, trivial⟩
          · have h5 : ¬ p.day < eq := of_decide_eq_false h
            clear h
            repeat (refine stp rfl ?_ ?_;·repeat' constructor)
            replace hbad : badF w l i x p k = false := by rw [hbad]; first | rfl | (simp; done) | (simp; omega)
            exact ⟨k + 1, hk.succ hrk hbad, by omega, rfl, rfl, rfl, rfl, rfl, rfl, i64_next (by omega) (by omega), rfl, rfl, trivial⟩
      | true =>
        repeat (refine stp rfl ?_ ?_;·repeat' constructor)
        apply qst;exact rfl;exact rfl;exact q_idxm rfl rfl rfl rfl rfl (by omega) hbk rfl
        repeat (refine stp rfl ?_ ?_;·repeat' constructor)
        apply qst;exact rfl;exact rfl;exact q_callP rfl (hc2) rfl (by repeat' constructor) rfl rfl
        repeat (refine stp rfl ?_ ?_;·repeat' constructor)
        apply qst;exact rfl;exact rfl;exact q_callP rfl (he) rfl (by repeat' constructor) rfl rfl
        repeat (refine stp rfl ?_ ?_;·repeat' constructor)
        refine pw_cond rfl (fun h => ?_) (fun h => ?_)
        · have h4 : qd < ep := of_decide_eq_true h
          clear h
          replace hbad : badF w l i x p k = true := by rw [hbad]; first | rfl | (simp; done) | (simp; omega)
          rw [any_of hrk hbad]
          repeat (refine stp rfl ?_ ?_;·repeat' constructor)
          exact end1b rfl rfl rfl
        · have h4 : ¬ qd < ep := of_decide_eq_false h
          clear h
          repeat (refine stp rfl ?_ ?_;·repeat' constructor)
          refine pw_draw 26 [111, 112, 113, 114, 115, 116, 117, 118, 119, 120, 121, 122, 123, 124, 125, 126, 127, 128, 129, 130, 131, 132, 133, 134, 135, 136] (by decide +kernel) ?_
          repeat (refine stp rfl ?_ ?_;·repeat' constructor)
          apply qst;exact rfl;exact rfl;exact q_idxm rfl rfl rfl rfl rfl (by omega) hra rfl
          repeat (refine stp rfl ?_ ?_;·repeat' constructor)
          apply qst;exact rfl;exact rfl;exact q_idxm rfl rfl rfl rfl rfl (by omega) hrb rfl
          repeat (refine stp rfl ?_ ?_;·repeat' constructor)
          cases ap with
          | false =>
            repeat (refine stp rfl ?_ ?_;·repeat' constructor)
            replace hbad : badF w l i x p k = false := by rw [hbad]; first | rfl | (simp; done) | (simp; omega)
            exact ⟨k + 1, hk.succ hrk hbad, by omega, rfl, rfl, rfl, rfl, rfl, rfl, i64_next (by omega) (by omega), rfl, rfl, trivial⟩
          | true =>
            repeat (refine stp rfl ?_ ?_;·repeat' constructor)
            apply qst;exact rfl;exact rfl;exact q_callP rfl (hqe) rfl (by repeat' constructor) rfl rfl
            repeat (refine stp rfl ?_ ?_;·repeat' constructor)
            (first | refine ps_split rfl rfl (fun h => ?_) (fun h => ?_) | refine pq_split rfl rfl (fun h => ?_) (fun h => ?_) | refine p3_split rfl rfl (fun h => ?_) (fun h => ?_))
            · have h5 : p.day < eq := of_decide_eq_true h
              clear h
              repeat (refine stp rfl ?_ ?_;·repeat' constructor)
              apply qst;exact rfl;exact rfl;exact q_callP rfl (he) rfl (by repeat' constructor) rfl rfl
              repeat (refine stp rfl ?_ ?_;·repeat' constructor)
              refine pw_cond rfl (fun h => ?_) (fun h => ?_)
              · have h6 : qd < ep := of_decide_eq_true h
                clear h
                replace hbad : badF w l i x p k = true := by rw [hbad]; first | rfl | (simp; done) | (simp; omega)
                rw [any_of hrk hbad]
                repeat (refine stp rfl ?_ ?_;·repeat' constructor)
                exact end1b rfl rfl rfl
              · have h6 : ¬ qd < ep := of_decide_eq_false h
                clear h
                repeat (refine stp rfl ?_ ?_;·repeat' constructor)
                replace hbad : badF w l i x p k = false := by rw [hbad]; first | rfl | (simp; done) | (simp; omega)
                exact ⟨k + 1, hk.succ hrk hbad, by omega, rfl, rfl, rfl, rfl, rfl, rfl, i64_next (by omega) (by omega), rfl, rfl, trivial⟩
            · have h5 : ¬ p.day < eq := of_decide_eq_false h
              clear h
              repeat (refine stp rfl ?_ ?_;·repeat' constructor)
              replace hbad : badF w l i x p k = false := by rw [hbad]; first | rfl | (simp; done) | (simp; omega)
              exact ⟨k + 1, hk.succ hrk hbad, by omega, rfl, rfl, rfl, rfl, rfl, rfl, i64_next (by omega) (by omega), rfl, rfl, trivial⟩
    | true =>
      apply qst;exact rfl;exact rfl;exact q_callP rfl (hc1) rfl (by repeat' constructor) rfl rfl
      repeat (refine stp rfl ?_ ?_;·repeat' constructor)
      apply qst;exact rfl;exact rfl;exact q_callP rfl (hqe) rfl (by repeat' constructor) rfl rfl
      repeat (refine stp rfl ?_ ?_;·repeat' constructor)
      (first | refine ps_split rfl rfl (fun h => ?_) (fun h => ?_) | refine pq_split rfl rfl (fun h => ?_) (fun h => ?_) | refine p3_split rfl rfl (fun h => ?_) (fun h => ?_))
      · have h3 : p.day < eq := of_decide_eq_true h
        clear h
        replace hbad : badF w l i x p k = true := by rw [hbad]; first | rfl | (simp; done) | (simp; omega)
        rw [any_of hrk hbad]
        repeat (refine stp rfl ?_ ?_;·repeat' constructor)
        exact end1b rfl rfl rfl
      · have h3 : ¬ p.day < eq := of_decide_eq_false h
        clear h
        repeat (refine stp rfl ?_ ?_;·repeat' constructor)
        cases a2 with
        | false =>
          repeat (refine stp rfl ?_ ?_;·repeat' constructor)
          apply qst;exact rfl;exact rfl;exact q_idxm rfl rfl rfl rfl rfl (by omega) hbk rfl
          repeat (refine stp rfl ?_ ?_;·repeat' constructor)
          apply qst;exact rfl;exact rfl;exact q_callP rfl (hc2) rfl (by repeat' constructor) rfl rfl
          repeat (refine stp rfl ?_ ?_;·repeat' constructor)
          refine pw_draw 26 [111, 112, 113, 114, 115, 116, 117, 118, 119, 120, 121, 122, 123, 124, 125, 126, 127, 128, 129, 130, 131, 132, 133, 134, 135, 136] (by decide +kernel) ?_
          repeat (refine stp rfl ?_ ?_;·repeat' constructor)
          apply qst;exact rfl;exact rfl;exact q_idxm rfl rfl rfl rfl rfl (by omega) hra rfl
          repeat (refine stp rfl ?_ ?_;·repeat' constructor)
          apply qst;exact rfl;exact rfl;exact q_idxm rfl rfl rfl rfl rfl (by omega) hrb rfl
          repeat (refine stp rfl ?_ ?_;·repeat' constructor)
          cases ap with
          | false =>
            repeat (refine stp rfl ?_ ?_;·repeat' constructor)
            replace hbad : badF w l i x p k = false := by rw [hbad]; first | rfl | (simp; done) | (simp; omega)
            exact ⟨k + 1, hk.succ hrk hbad, by omega, rfl, rfl, rfl, rfl, rfl, rfl, i64_next (by omega) (by omega), rfl, rfl, trivial⟩
          | true =>
            repeat (refine stp rfl ?_ ?_;·repeat' constructor)
            apply qst;exact rfl;exact rfl;exact q_callP rfl (hqe) rfl (by repeat' constructor) rfl rfl
            repeat (refine stp rfl ?_ ?_;·repeat' constructor)
            (first | refine ps_split rfl rfl (fun h => ?_) (fun h => ?_) | refine pq_split rfl rfl (fun h => ?_) (fun h => ?_) | refine p3_split rfl rfl (fun h => ?_) (fun h => ?_))
            · have h5 : p.day < eq := of_decide_eq_true h
              clear h
              repeat (refine stp rfl ?_ ?_;·repeat' constructor)
              apply qst;exact rfl;exact rfl;exact q_callP rfl (he) rfl (by repeat' constructor) rfl rfl
              repeat (refine stp rfl ?_ ?_;·repeat' constructor)
              refine pw_cond rfl (fun h => ?_) (fun h => ?_)
              · have h6 : qd < ep := of_decide_eq_true h
                clear h
                replace hbad : badF w l i x p k = true := by rw [hbad]; first | rfl | (simp; done) | (simp; omega)
                rw [any_of hrk hbad]
                repeat (refine stp rfl ?_ ?_;·repeat' constructor)
                exact end1b rfl rfl rfl
              · have h6 : ¬ qd < ep := of_decide_eq_false h
                clear h
                repeat (refine stp rfl ?_ ?_;·repeat' constructor)
                replace hbad : badF w l i x p k = false := by rw [hbad]; first | rfl | (simp; done) | (simp; omega)
                exact ⟨k + 1, hk.succ hrk hbad, by omega, rfl, rfl, rfl, rfl, rfl, rfl, i64_next (by omega) (by omega), rfl, rfl, trivial⟩
            · have h5 : ¬ p.day < eq := of_decide_eq_false h
              clear h
              repeat (refine stp rfl ?_ ?_;·repeat' constructor)
              replace hbad : badF w l i x p k = false := by rw [hbad]; first | rfl | (simp; done) | (simp; omega)
              exact ⟨k + 1, hk.succ hrk hbad, by omega, rfl, rfl, rfl, rfl, rfl, rfl, i64_next (by omega) (by omega), rfl, rfl, trivial⟩
        | true =>
          repeat (refine stp rfl ?_ ?_;·repeat' constructor)
          apply qst;exact rfl;exact rfl;exact q_idxm rfl rfl rfl rfl rfl (by omega) hbk rfl
          repeat (refine stp rfl ?_ ?_;·repeat' constructor)
          apply qst;exact rfl;exact rfl;exact q_callP rfl (hc2) rfl (by repeat' constructor) rfl rfl
          repeat (refine stp rfl ?_ ?_;·repeat' constructor)
          apply qst;exact rfl;exact rfl;exact q_callP rfl (he) rfl (by repeat' constructor) rfl rfl
          repeat (refine stp rfl ?_ ?_;·repeat' constructor)
          refine pw_cond rfl (fun h => ?_) (fun h => ?_)
          · have h4 : qd < ep := of_decide_eq_true h
            clear h
            replace hbad : badF w l i x p k = true := by rw [hbad]; first | rfl | (simp; done) | (simp; omega)
            rw [any_of hrk hbad]
            repeat (refine stp rfl ?_ ?_;·repeat' constructor)
            exact end1b rfl rfl rfl
          · have h4 : ¬ qd < ep := of_decide_eq_false h
            clear h
            repeat (refine stp rfl ?_ ?_;·repeat' constructor)
            refine pw_draw 26 [111, 112, 113, 114, 115, 116, 117, 118, 119, 120, 121, 122, 123, 124, 125, 126, 127, 128, 129, 130, 131, 132, 133, 134, 135, 136] (by decide +kernel) ?_
            repeat (refine stp rfl ?_ ?_;·repeat' constructor)
            apply qst;exact rfl;exact rfl;exact q_idxm rfl rfl rfl rfl rfl (by omega) hra rfl
            repeat (refine stp rfl ?_ ?_;·repeat' constructor)
            apply qst;exact rfl;exact rfl;exact q_idxm rfl rfl rfl rfl rfl (by omega) hrb rfl
            repeat (refine stp rfl ?_ ?_;·repeat' constructor)
            cases ap with
            | false =>
              repeat (refine stp rfl ?_ ?_;·repeat' constructor)
              replace hbad : badF w l i x p k = false := by rw [hbad]; first | rfl | (simp; done) | (simp; omega)
              exact ⟨k + 1, hk.succ hrk hbad, by omega, rfl, rfl, rfl, rfl, rfl, rfl, i64_next (by omega) (by omega), rfl, rfl, trivial⟩
            | true =>
              repeat (refine stp rfl ?_ ?_;·repeat' constructor)
              apply qst;exact rfl;exact rfl;exact q_callP rfl (hqe) rfl (by repeat' constructor) rfl rfl
              repeat (refine stp rfl ?_ ?_;·repeat' constructor)
              (first | refine ps_split rfl rfl (fun h => ?_) (fun h => ?_) | refine pq_split rfl rfl (fun h => ?_) (fun h => ?_) | refine p3_split rfl rfl (fun h => ?_) (fun h => ?_))
              · have h5 : p.day < eq := of_decide_eq_true h
                clear h
                repeat (refine stp rfl ?_ ?_;·repeat' constructor)
                apply qst;exact rfl;exact rfl;exact q_callP rfl (he) rfl (by repeat' constructor) rfl rfl
                repeat (refine stp rfl ?_ ?_;·repeat' constructor)
                refine pw_cond rfl (fun h => ?_) (fun h => ?_)
                · have h6 : qd < ep := of_decide_eq_true h
                  clear h
                  replace hbad : badF w l i x p k = true := by rw [hbad]; first | rfl | (simp; done) | (simp; omega)
                  rw [any_of hrk hbad]
                  repeat (refine stp rfl ?_ ?_;·repeat' constructor)
                  exact end1b rfl rfl rfl
                · have h6 : ¬ qd < ep := of_decide_eq_false h
                  clear h
                  repeat (refine stp rfl ?_ ?_;·repeat' constructor)
                  replace hbad : badF w l i x p k = false := by rw [hbad]; first | rfl | (simp; done) | (simp; omega)
                  exact ⟨k + 1, hk.succ hrk hbad, by omega, rfl, rfl, rfl, rfl, rfl, rfl, i64_next (by omega) (by omega), rfl, rfl, trivial⟩
              · have h5 : ¬ p.day < eq := of_decide_eq_false h
                clear h
                repeat (refine stp rfl ?_ ?_;·repeat' constructor)
                replace hbad : badF w l i x p k = false := by rw [hbad]; first | rfl | (simp; done) | (simp; omega)
                exact ⟨k + 1, hk.succ hrk hbad, by omega, rfl, rfl, rfl, rfl, rfl, rfl, i64_next (by omega) (by omega), rfl, rfl, trivial⟩
  · have hge : k = w.items.length := by have := of_decide_eq_false h; omega
    subst hge
    clear h
    rw [hk.any (by simp), Bool.not_false, Bool.true_and]
    repeat (refine stp rfl ?_ ?_;·repeat' constructor)
    apply qst;exact rfl;exact rfl;exact q_callP rfl (hman) rfl (by repeat' constructor) rfl rfl
    repeat (refine stp rfl ?_ ?_;·repeat' constructor)
    exact end1b rfl rfl rfl
end Go.Pv

/- The breaches, kind by kind, continued. -/
set_option maxHeartbeats 2000000
namespace Go.Pv
attribute [local irreducible] PWP POps PQuiet PSem XThen XBlock RetPost InlPost
open Go.Proofs

/-- One breach at most for each place. -/
def atN (f : Nat → List SBr) (n : Nat) : List SBr := (List.range n).flatMap f
theorem atN_succ (f : Nat → List SBr) (n : Nat) : atN f (n + 1) = atN f n ++ f n := range_flatMap f n
theorem atN_len {f : Nat → List SBr} {c : Nat} (h : ∀ i, (f i).length ≤ c) (n : Nat) : (atN f n).length ≤ n * c := by
  have := flatMap_len h (List.range n)
  rw [List.length_range] at this
  exact this

def lateAt (w : SWork) (l : List SPl) (i : Nat) : List SBr := if w.last < endP (itP w i) (slP l i) then [⟨(itP w i).name, [], 16⟩] else []
def lateP (w : SWork) (l : List SPl) : List SBr := atN (lateAt w l) w.items.length
def haltAt (w : SWork) (l : List SPl) (i : Nat) : List SBr := if stopP w (itP w i) (slP l i) = true then [⟨(itP w i).name, [], 18⟩] else []
def haltP (w : SWork) (l : List SPl) : List SBr := atN (haltAt w l) w.items.length
theorem lateAt_len (w : SWork) (l : List SPl) (i : Nat) : (lateAt w l i).length ≤ 1 := by unfold lateAt; split <;> simp
theorem haltAt_len (w : SWork) (l : List SPl) (i : Nat) : (haltAt w l i).length ≤ 1 := by unfold haltAt; split <;> simp

theorem late_ret (w : SWork) (hv : Well w) (l : List SPl) (hf : Full w l) : Ret Tryz.prog .shared 109 [.agg (eWork w), .sl (l.map ePl)] (.sl ((lateP w l).map eBr)) := by
  have hn := hv.n40
  have hl := hf.len
  have hml : (l.map ePl).length = w.items.length := by simp [hl]
  refine Ret.of_pwp layOk mixed Go.Proofs.Tryz.func109 rfl (by decide) rfl rfl ?_
  ((repeat (first | refine ps_nil ?_ | refine pq_nil ?_ | refine x_norm ?_ | refine pw_seq ?_)); refine pw_region ?_)
  refine ps_run (o_box rfl rfl rfl (by repeat' constructor) rfl ?_)
  refine ps_v rfl trivial ?_
  ((repeat (first | refine ps_nil ?_ | refine pq_nil ?_ | refine x_norm ?_ | refine pw_seq ?_)); refine pw_region ?_)
  (first | refine ps_run (o_nilm 84 3 0 rfl rfl ?_) | refine ps_run (o_nila 84 3 0 rfl rfl ?_))
  repeat (refine stp rfl ?_ ?_;·repeat' constructor)
  refine pw_loop (fun k => k ≤ w.items.length) (fun k => [(1, .sl (l.map ePl)), (2, .ptr 2 1 0 0), (5, .als 5 (1 + (atN (lateAt w l) k).length) 0 ((atN (lateAt w l) k).map eBr).length), (8, .sl (l.map ePl)), (9, I w.items.length), (10, I k)])
    (fun k => [(2, 1, ⟨28, 9, [eWork w], 2⟩), (5, 1 + (atN (lateAt w l) k).length, ⟨84, 3, (atN (lateAt w l) k).map eBr, 0⟩)]) (fun k => w.items.length - k) 0 (Nat.zero_le _) ⟨rfl, rfl, rfl, rfl, ?_, rfl, rfl, rfl, trivial⟩ ?_
  · show I ((l.map ePl).length) = _
    rw [hml]
  intro k s hk
  repeat (refine stp rfl ?_ ?_;·repeat' constructor)
  refine pw_cond rfl (fun h => ?_) (fun h => ?_)
  · have hlt : k < w.items.length := by simpa using h
    clear h
    obtain ⟨x, hx⟩ := get_lt hlt
    obtain ⟨p, hp⟩ := get_lt (show k < l.length by omega)
    have hb := atN_len (lateAt_len w l) k
    have hat : lateAt w l k = if w.last < endP x p then [⟨x.name, [], 16⟩] else [] := by rw [lateAt, slP_at hp, itP_at hx]
    repeat (refine stp rfl ?_ ?_;·repeat' constructor)
    apply qst;exact rfl;exact rfl;exact q_idxm rfl rfl rfl rfl rfl (by omega) hp rfl
    repeat (refine stp rfl ?_ ?_;·repeat' constructor)
    refine pw_draw 10 [15, 16, 17, 18, 19, 20, 21, 22, 23, 24] (by decide +kernel) ?_
    repeat (refine stp rfl ?_ ?_;·repeat' constructor)
    apply qst;exact rfl;exact rfl;exact q_idxm rfl rfl rfl rfl rfl (by omega) hx rfl
    repeat (refine stp rfl ?_ ?_;·repeat' constructor)
    apply qst;exact rfl;exact rfl;exact q_callP rfl (end_ret x p (hf.at_ hx hp)) rfl (by repeat' constructor) rfl rfl
    repeat (refine stp rfl ?_ ?_;·repeat' constructor)
    refine pw_cond rfl (fun h => ?_) (fun h => ?_)
    · have hc := of_decide_eq_true h
      clear h
      have he : atN (lateAt w l) (k + 1) = atN (lateAt w l) k ++ [⟨x.name, [], 16⟩] := by rw [atN_succ, hat, if_pos hc]
      repeat (refine stp rfl ?_ ?_;·repeat' constructor)
      apply qst;exact rfl;exact rfl;exact q_idxm rfl rfl rfl rfl rfl (by omega) hx rfl
      repeat (refine stp rfl ?_ ?_;·repeat' constructor)
      apply qst;exact rfl;exact rfl;exact q_slit rfl rfl rfl rfl rfl rfl rfl rfl rfl rfl (by repeat' constructor) rfl
      repeat (refine stp rfl ?_ ?_;·repeat' constructor)
      refine ps_run (o_app 0 rfl rfl rfl rfl rfl rfl rfl rfl rfl rfl rfl (by repeat' constructor) (by intro row hr; first | (simp at hr; subst hr; rfl) | simp at hr) rfl rfl (by simp; omega) (by simp; omega) ?_)
      repeat (refine stp rfl ?_ ?_;·repeat' constructor)
      refine ⟨k + 1, hlt, by omega, rfl, rfl, ?_, rfl, rfl, ?_, rfl, ?_, trivial⟩
      · rw [he]; exact als_snoc eBr 5 1 (atN (lateAt w l) k) ⟨x.name, [], 16⟩
      · exact i64_next (by omega) (by omega)
      · rw [he]; exact cont_snoc eBr 1 84 3 0 (atN (lateAt w l) k) ⟨x.name, [], 16⟩
    · have hc := of_decide_eq_false h
      clear h
      have he : atN (lateAt w l) (k + 1) = atN (lateAt w l) k := by rw [atN_succ, hat, if_neg hc, List.append_nil]
      repeat (refine stp rfl ?_ ?_;·repeat' constructor)
      refine ⟨k + 1, hlt, by omega, rfl, rfl, ?_, rfl, rfl, ?_, rfl, ?_, trivial⟩
      · rw [he]; rfl
      · exact i64_next (by omega) (by omega)
      · rw [he]; rfl
  · have hge : k = w.items.length := by have := of_decide_eq_false h; omega
    subst hge
    repeat (refine stp rfl ?_ ?_;·repeat' constructor)
    exact end1 rfl rfl rfl ⟨rfl, rfl, rfl⟩ rfl

theorem halted_ret (w : SWork) (hw : Sane w) (hv : Well w) (l : List SPl) (hf : Full w l) : Ret Tryz.prog .shared 108 [.agg (eWork w), .sl (l.map ePl)] (.sl ((haltP w l).map eBr)) := by
  have hn := hv.n40
  have hl := hf.len
  have hml : (l.map ePl).length = w.items.length := by simp [hl]
  refine Ret.of_pwp layOk mixed Go.Proofs.Tryz.func108 rfl (by decide) rfl rfl ?_
  ((repeat (first | refine ps_nil ?_ | refine pq_nil ?_ | refine x_norm ?_ | refine pw_seq ?_)); refine pw_region ?_)
  refine ps_run (o_box rfl rfl rfl (by repeat' constructor) rfl ?_)
  refine ps_v rfl trivial ?_
  ((repeat (first | refine ps_nil ?_ | refine pq_nil ?_ | refine x_norm ?_ | refine pw_seq ?_)); refine pw_region ?_)
  (first | refine ps_run (o_nilm 84 3 0 rfl rfl ?_) | refine ps_run (o_nila 84 3 0 rfl rfl ?_))
  repeat (refine stp rfl ?_ ?_;·repeat' constructor)
  refine pw_loop (fun k => k ≤ w.items.length) (fun k => [(1, .sl (l.map ePl)), (2, .ptr 2 1 0 0), (5, .als 5 (1 + (atN (haltAt w l) k).length) 0 ((atN (haltAt w l) k).map eBr).length), (8, .sl (l.map ePl)), (9, I w.items.length), (10, I k)])
    (fun k => [(2, 1, ⟨28, 9, [eWork w], 2⟩), (5, 1 + (atN (haltAt w l) k).length, ⟨84, 3, (atN (haltAt w l) k).map eBr, 0⟩)]) (fun k => w.items.length - k) 0 (Nat.zero_le _) ⟨rfl, rfl, rfl, rfl, ?_, rfl, rfl, rfl, trivial⟩ ?_
  · show I ((l.map ePl).length) = _
    rw [hml]
  intro k s hk
  repeat (refine stp rfl ?_ ?_;·repeat' constructor)
  refine pw_cond rfl (fun h => ?_) (fun h => ?_)
  · have hlt : k < w.items.length := by simpa using h
    clear h
    obtain ⟨x, hx⟩ := get_lt hlt
    obtain ⟨p, hp⟩ := get_lt (show k < l.length by omega)
    have hb := atN_len (haltAt_len w l) k
    have hat : haltAt w l k = if stopP w x p = true then [⟨x.name, [], 18⟩] else [] := by rw [haltAt, slP_at hp, itP_at hx]
    repeat (refine stp rfl ?_ ?_;·repeat' constructor)
    apply qst;exact rfl;exact rfl;exact q_idxm rfl rfl rfl rfl rfl (by omega) hp rfl
    repeat (refine stp rfl ?_ ?_;·repeat' constructor)
    refine pw_draw 8 [15, 16, 17, 18, 19, 20, 21, 22] (by decide +kernel) ?_
    repeat (refine stp rfl ?_ ?_;·repeat' constructor)
    apply qst;exact rfl;exact rfl;exact q_idxm rfl rfl rfl rfl rfl (by omega) hx rfl
    repeat (refine stp rfl ?_ ?_;·repeat' constructor)
    apply qst;exact rfl;exact rfl;exact q_callP rfl (stopped_ret w hw x p (hf.at_ hx hp)) rfl (by repeat' constructor) rfl rfl
    repeat (refine stp rfl ?_ ?_;·repeat' constructor)
    refine pw_cond rfl (fun h => ?_) (fun h => ?_)
    · have hc : stopP w x p = true := h
      clear h
      have he : atN (haltAt w l) (k + 1) = atN (haltAt w l) k ++ [⟨x.name, [], 18⟩] := by rw [atN_succ, hat, if_pos hc]
      repeat (refine stp rfl ?_ ?_;·repeat' constructor)
      apply qst;exact rfl;exact rfl;exact q_idxm rfl rfl rfl rfl rfl (by omega) hx rfl
      repeat (refine stp rfl ?_ ?_;·repeat' constructor)
      apply qst;exact rfl;exact rfl;exact q_slit rfl rfl rfl rfl rfl rfl rfl rfl rfl rfl (by repeat' constructor) rfl
      repeat (refine stp rfl ?_ ?_;·repeat' constructor)
      refine ps_run (o_app 0 rfl rfl rfl rfl rfl rfl rfl rfl rfl rfl rfl (by repeat' constructor) (by intro row hr; first | (simp at hr; subst hr; rfl) | simp at hr) rfl rfl (by simp; omega) (by simp; omega) ?_)
      repeat (refine stp rfl ?_ ?_;·repeat' constructor)
      refine ⟨k + 1, hlt, by omega, rfl, rfl, ?_, rfl, rfl, ?_, rfl, ?_, trivial⟩
      · rw [he]; exact als_snoc eBr 5 1 (atN (haltAt w l) k) ⟨x.name, [], 18⟩
      · exact i64_next (by omega) (by omega)
      · rw [he]; exact cont_snoc eBr 1 84 3 0 (atN (haltAt w l) k) ⟨x.name, [], 18⟩
    · have hc : ¬ stopP w x p = true := by rw [show stopP w x p = false from h]; simp
      clear h
      have he : atN (haltAt w l) (k + 1) = atN (haltAt w l) k := by rw [atN_succ, hat, if_neg hc, List.append_nil]
      repeat (refine stp rfl ?_ ?_;·repeat' constructor)
      refine ⟨k + 1, hlt, by omega, rfl, rfl, ?_, rfl, rfl, ?_, rfl, ?_, trivial⟩
      · rw [he]; rfl
      · exact i64_next (by omega) (by omega)
      · rw [he]; rfl
  · have hge : k = w.items.length := by have := of_decide_eq_false h; omega
    subst hge
    repeat (refine stp rfl ?_ ?_;·repeat' constructor)
    exact end1 rfl rfl rfl ⟨rfl, rfl, rfl⟩ rfl

def clashAt (w : SWork) (l : List SPl) (i k : Nat) : List SBr := if (meetP (itP w i) (slP l i) (itP w k) (slP l k) && apartP w (itP w i) (itP w k)) = true then [⟨(itP w i).name, (itP w k).name, 17⟩] else []
def clashRow (w : SWork) (l : List SPl) (i j : Nat) : List SBr := (List.range' (i + 1) j).flatMap (clashAt w l i)
def clashP (w : SWork) (l : List SPl) : List SBr := atN (fun i => clashRow w l i (w.items.length - (i + 1))) w.items.length
theorem clashAt_len (w : SWork) (l : List SPl) (i k : Nat) : (clashAt w l i k).length ≤ 1 := by unfold clashAt; split <;> simp
theorem clashRow_len (w : SWork) (l : List SPl) (i j : Nat) : (clashRow w l i j).length ≤ j := by
  have := flatMap_len (clashAt_len w l i) (List.range' (i + 1) j)
  simpa [clashRow] using this
theorem clashRow_succ (w : SWork) (l : List SPl) (i j : Nat) : clashRow w l i (j + 1) = clashRow w l i j ++ clashAt w l i (i + 1 + j) := by
  rw [clashRow, List.range'_1_concat, List.flatMap_append, clashRow]; simp
def clashJ (w : SWork) (l : List SPl) (i j : Nat) : List SBr := atN (fun i => clashRow w l i (w.items.length - (i + 1))) i ++ clashRow w l i j

theorem clashing_ret (w : SWork) (hw : Sane w) (hv : Well w) (l : List SPl) (hf : Full w l) : Ret Tryz.prog .shared 107 [.agg (eWork w), .sl (l.map ePl)] (.sl ((clashP w l).map eBr)) := by
  have hn := hv.n40
  have hl := hf.len
  have hml : (l.map ePl).length = w.items.length := by simp [hl]
  have hlen : ∀ n, (atN (fun i => clashRow w l i (w.items.length - (i + 1))) n).length ≤ n * 40 := fun n => atN_len (fun i => by have := clashRow_len w l i (w.items.length - (i + 1)); omega) n
  refine Ret.of_pwp layOk mixed Go.Proofs.Tryz.func107 rfl (by decide) rfl rfl ?_
  ((repeat (first | refine ps_nil ?_ | refine pq_nil ?_ | refine x_norm ?_ | refine pw_seq ?_)); refine pw_region ?_)
  refine ps_run (o_box rfl rfl rfl (by repeat' constructor) rfl ?_)
  refine ps_v rfl trivial ?_
  ((repeat (first | refine ps_nil ?_ | refine pq_nil ?_ | refine x_norm ?_ | refine pw_seq ?_)); refine pw_region ?_)
  (first | refine ps_run (o_nilm 84 3 0 rfl rfl ?_) | refine ps_run (o_nila 84 3 0 rfl rfl ?_))
  repeat (refine stp rfl ?_ ?_;·repeat' constructor)
  refine pw_loop (fun k => k ≤ w.items.length) (fun k => [(1, .sl (l.map ePl)), (2, .ptr 2 1 0 0), (5, .als 5 (1 + (clashJ w l k 0).length) 0 ((clashJ w l k 0).map eBr).length), (9, I w.items.length), (10, I k)])
    (fun k => [(2, 1, ⟨28, 9, [eWork w], 2⟩), (5, 1 + (clashJ w l k 0).length, ⟨84, 3, (clashJ w l k 0).map eBr, 0⟩)]) (fun k => w.items.length - k) 0 (Nat.zero_le _) ⟨rfl, rfl, rfl, ?_, rfl, rfl, rfl, trivial⟩ ?_
  · show I ((l.map ePl).length) = _
    rw [hml]
  intro k s hk
  repeat (refine stp rfl ?_ ?_;·repeat' constructor)
  refine pw_cond rfl (fun h => ?_) (fun h => ?_)
  · have hlt : k < w.items.length := by simpa using h
    clear h
    obtain ⟨x, hx⟩ := get_lt hlt
    obtain ⟨p, hp⟩ := get_lt (show k < l.length by omega)
    have hsucc : clashJ w l (k + 1) 0 = clashJ w l k (w.items.length - (k + 1)) := by rw [clashJ, atN_succ, clashJ]; simp [clashRow]
    repeat (refine stp rfl ?_ ?_;·repeat' constructor)
    refine pw_loop (fun j => k + 1 + j ≤ w.items.length) (fun j => [(1, .sl (l.map ePl)), (2, .ptr 2 1 0 0), (5, .als 5 (1 + (clashJ w l k j).length) 0 ((clashJ w l k j).map eBr).length), (6, I k), (7, I ((k + 1 + j : Nat) : Int)), (9, I w.items.length), (10, I k)])
      (fun j => [(2, 1, ⟨28, 9, [eWork w], 2⟩), (5, 1 + (clashJ w l k j).length, ⟨84, 3, (clashJ w l k j).map eBr, 0⟩)]) (fun j => w.items.length - j) 0 (by omega) ⟨rfl, rfl, rfl, rfl, ?_, rfl, rfl, rfl, rfl, trivial⟩ ?_
    · exact (i64_next (by omega) (by omega)).trans (congrArg I (by omega))
    intro j s' hj
    repeat (refine stp rfl ?_ ?_;·repeat' constructor)
    refine pw_cond rfl (fun h => ?_) (fun h => ?_)
    · have hlt' : k + 1 + j < w.items.length := by have := of_decide_eq_true h; rw [hml] at this; omega
      clear h
      obtain ⟨y, hy⟩ := get_lt hlt'
      obtain ⟨q, hq⟩ := get_lt (show k + 1 + j < l.length by omega)
      have hb : (clashJ w l k j).length ≤ 40 * 40 + 40 := by
        have h1 := hlen k
        have h2 := clashRow_len w l k j
        rw [clashJ, List.length_append]; omega
      have hstep : clashJ w l k (j + 1) = clashJ w l k j ++ clashAt w l k (k + 1 + j) := by rw [clashJ, clashRow_succ, clashJ, List.append_assoc]
      have hat : clashAt w l k (k + 1 + j) = if (meetP x p y q && apartP w x y) = true then [⟨x.name, y.name, 17⟩] else [] := by rw [clashAt, slP_at hp, slP_at hq, itP_at hx, itP_at hy]
      have hno : (meetP x p y q && apartP w x y) = false → clashJ w l k (j + 1) = clashJ w l k j := fun h => by rw [hstep, hat, if_neg (by rw [h]; simp), List.append_nil]
      have hnext : PV.int .i64 (IntKind.i64.wrap (((k + 1 + j : Nat) : Int) + 1)) = I ((k + 1 + (j + 1) : Nat) : Int) := (i64_next (by omega) (by omega)).trans (congrArg I (by omega))
      repeat (refine stp rfl ?_ ?_;·repeat' constructor)
      apply qst;exact rfl;exact rfl;exact q_callP rfl (meet_ret w hf.toPlan hx hy hp hq) rfl (by repeat' constructor) rfl rfl
      repeat (refine stp rfl ?_ ?_;·repeat' constructor)
      (first | refine ps_split rfl rfl (fun h => ?_) (fun h => ?_) | refine pq_split rfl rfl (fun h => ?_) (fun h => ?_) | refine p3_split rfl rfl (fun h => ?_) (fun h => ?_))
      · have hm : meetP x p y q = true := h
        clear h
        repeat (refine stp rfl ?_ ?_;·repeat' constructor)
        apply qst;exact rfl;exact rfl;exact q_callP rfl (apart_ret w hw hx hy) rfl (by repeat' constructor) rfl rfl
        repeat (refine stp rfl ?_ ?_;·repeat' constructor)
        refine pw_cond rfl (fun h => ?_) (fun h => ?_)
        · have ha : apartP w x y = true := h
          clear h
          have he : clashJ w l k (j + 1) = clashJ w l k j ++ [⟨x.name, y.name, 17⟩] := by rw [hstep, hat, hm, ha]; rfl
          repeat (refine stp rfl ?_ ?_;·repeat' constructor)
          refine pw_draw 15 [32, 33, 34, 35, 36, 37, 38, 39, 40, 41, 42, 43, 44, 45, 46] (by decide +kernel) ?_
          repeat (refine stp rfl ?_ ?_;·repeat' constructor)
          apply qst;exact rfl;exact rfl;exact q_idxm rfl rfl rfl rfl rfl (by omega) hx rfl
          repeat (refine stp rfl ?_ ?_;·repeat' constructor)
          apply qst;exact rfl;exact rfl;exact q_idxm (n := (((k+1+j:Nat):Int) : Int)) rfl rfl rfl rfl rfl (by omega) hy rfl
          repeat (refine stp rfl ?_ ?_;·repeat' constructor)
          apply qst;exact rfl;exact rfl;exact q_slit rfl rfl rfl rfl rfl rfl rfl rfl rfl rfl (by repeat' constructor) rfl
          repeat (refine stp rfl ?_ ?_;·repeat' constructor)
          refine ps_run (o_app 0 rfl rfl rfl rfl rfl rfl rfl rfl rfl rfl rfl (by repeat' constructor) (by intro row hr; first | (simp at hr; subst hr; rfl) | simp at hr) rfl rfl (by simp; omega) (by simp; omega) ?_)
          repeat (refine stp rfl ?_ ?_;·repeat' constructor)
          refine ⟨j + 1, hlt', by omega, rfl, rfl, ?_, rfl, hnext, rfl, rfl, rfl, ?_, trivial⟩
          · rw [he]; exact als_snoc eBr 5 1 (clashJ w l k j) ⟨x.name, y.name, 17⟩
          · rw [he]; exact cont_snoc eBr 1 84 3 0 (clashJ w l k j) ⟨x.name, y.name, 17⟩
        · have ha : apartP w x y = false := h
          clear h
          have he := hno (by rw [ha, Bool.and_false])
          repeat (refine stp rfl ?_ ?_;·repeat' constructor)
          refine ⟨j + 1, hlt', by omega, rfl, rfl, ?_, rfl, hnext, rfl, rfl, rfl, ?_, trivial⟩
          · rw [he]; rfl
          · rw [he]; rfl
      · have hm : meetP x p y q = false := h
        clear h
        have he := hno (by rw [hm, Bool.false_and])
        repeat (refine stp rfl ?_ ?_;·repeat' constructor)
        refine ⟨j + 1, hlt', by omega, rfl, rfl, ?_, rfl, hnext, rfl, rfl, rfl, ?_, trivial⟩
        · rw [he]; rfl
        · rw [he]; rfl
    · have hge : j = w.items.length - (k + 1) := by have := of_decide_eq_false h; rw [hml] at this; omega
      subst hge
      clear h
      repeat (refine stp rfl ?_ ?_;·repeat' constructor)
      refine ⟨k + 1, hlt, by omega, rfl, rfl, ?_, rfl, ?_, rfl, ?_, trivial⟩
      · rw [hsucc]; rfl
      · exact i64_next (by omega) (by omega)
      · rw [hsucc]; rfl
  · have hge : k = w.items.length := by have := of_decide_eq_false h; omega
    subst hge
    have hfin : clashJ w l w.items.length 0 = clashP w l := by rw [clashJ, clashP]; simp [clashRow]
    rw [hfin]
    repeat (refine stp rfl ?_ ?_;·repeat' constructor)
    exact end1 rfl rfl rfl ⟨rfl, rfl, rfl⟩ rfl
end Go.Pv

/- The people at work on each day. -/
set_option maxHeartbeats 2000000
namespace Go.Pv
attribute [local irreducible] PWP POps PQuiet PSem XThen XBlock RetPost InlPost
open Go.Proofs

def aget : List (Int × Int) → Int → Int
  | [], _ => 0
  | (d, c) :: m, k => if d = k then c else aget m k
def aput (k v : Int) : List (Int × Int) → List (Int × Int)
  | [] => [(k, v)]
  | (d, c) :: m => if d = k then (d, v) :: m else (d, c) :: aput k v m
def eKV (e : Int × Int) : List PV := [I e.1, I e.2]

theorem mval_cons (z key : PV) (row : List PV) (rows : List (List PV)) : mval z key (row :: rows) = bif mhd key row then row.getD 1 z else mval z key rows := by
  unfold mval
  cases h : mhd key row with
  | true => simp [mix, h]
  | false =>
    simp only [mix, h, cond_false]
    cases mix key rows <;> simp
theorem mput_cons (key v : PV) (row : List PV) (rows : List (List PV)) : mput key v (row :: rows) = bif mhd key row then row.set 1 v :: rows else row :: mput key v rows := by
  unfold mput
  cases h : mhd key row with
  | true => simp [mix, h]
  | false =>
    simp only [mix, h, cond_false]
    cases hm : mix key rows with
    | none => simp
    | some i =>
      have hi := mix_lt hm
      simp [List.getElem?_eq_getElem hi]
theorem mval_kv (d : Int) : ∀ m : List (Int × Int), mval (I 0) (I d) (m.map eKV) = I (aget m d)
  | [] => rfl
  | (e, c) :: m => by
    rw [List.map_cons, mval_cons, mval_kv d m]
    have : mhd (I d) (eKV (e, c)) = decide (e = d) := rfl
    rw [this, aget]
    by_cases h : e = d
    · rw [if_pos h, decide_eq_true h]; rfl
    · rw [if_neg h, decide_eq_false h]; rfl
theorem mput_kv (d v : Int) : ∀ m : List (Int × Int), mput (I d) (I v) (m.map eKV) = (aput d v m).map eKV
  | [] => rfl
  | (e, c) :: m => by
    rw [List.map_cons, mput_cons, mput_kv d v m]
    have : mhd (I d) (eKV (e, c)) = decide (e = d) := rfl
    rw [this, aput]
    by_cases h : e = d
    · rw [if_pos h, decide_eq_true h]; rfl
    · rw [if_neg h, decide_eq_false h]; rfl
theorem keyed_kv (m : List (Int × Int)) : keyed (.int .i64) (m.map eKV) = true := by
  induction m with
  | nil => rfl
  | cons e m ih => rw [List.map_cons]; exact ih
theorem zone3 : zone Tryz.prog 3 = true := by kernel_rfl

def addM (m : List (Int × Int)) (d c : Int) : List (Int × Int) := aput d (aget m d + c) m
def BndM (m : List (Int × Int)) (B : Int) : Prop := ∀ e ∈ m, 0 ≤ e.2 ∧ e.2 ≤ B
theorem BndM.get {m : List (Int × Int)} {B : Int} (h : BndM m B) (hB : 0 ≤ B) (d : Int) : 0 ≤ aget m d ∧ aget m d ≤ B := by
  induction m with
  | nil => exact ⟨Int.le_refl _, hB⟩
  | cons e m ih =>
    obtain ⟨a, c⟩ := e
    unfold aget
    split
    · exact h (a, c) (by simp)
    · exact ih fun e he => h e (by simp [he])
theorem BndM.put {m : List (Int × Int)} {B : Int} (h : BndM m B) {d v : Int} (hv : 0 ≤ v ∧ v ≤ B) : BndM (aput d v m) B := by
  induction m with
  | nil => intro e he; simp [aput] at he; subst he; exact hv
  | cons e m ih =>
    obtain ⟨a, c⟩ := e
    have ih := ih fun e he => h e (by simp [he])
    unfold aput
    split
    · intro e he
      rcases List.mem_cons.1 he with rfl | he
      · exact hv
      · exact h e (by simp [he])
    · intro e he
      rcases List.mem_cons.1 he with rfl | he
      · exact h _ (by simp)
      · exact ih e he
theorem BndM.add {m : List (Int × Int)} {B : Int} (h : BndM m B) (hB : 0 ≤ B) {d c : Int} (hc : 0 ≤ c ∧ c ≤ 1000) : BndM (addM m d c) (B + 1000) := by
  have := h.get hB d
  exact BndM.put (fun e he => by have := h e he; omega) (by omega)
def pplJ (m : List (Int × Int)) (d c : Int) (j : Nat) : List (Int × Int) := (List.range j).foldl (fun m i => addM m (d + (i : Nat)) c) m
theorem pplJ_succ (m : List (Int × Int)) (d c : Int) (j : Nat) : pplJ m d c (j + 1) = addM (pplJ m d c j) (d + j) c := by
  rw [pplJ, List.range_succ, List.foldl_append]; rfl
theorem pplJ_bound {m : List (Int × Int)} {B : Int} (h : BndM m B) (hB : 0 ≤ B) {d c : Int} (hc : 0 ≤ c ∧ c ≤ 1000) (j : Nat) : BndM (pplJ m d c j) (B + 1000 * j) := by
  induction j with
  | zero => simpa [pplJ] using h
  | succ j ih =>
    rw [pplJ_succ]
    have := ih.add (by omega) (d := d + j) hc
    intro e he
    have := this e he
    omega
def peopleF (t : Str) (m : List (Int × Int)) (q : SItem × SPl) : List (Int × Int) :=
  if q.2.on && decide (q.1.trade = t) then pplJ m q.2.day (modeAt q.1 q.2.mode).crew (modeAt q.1 q.2.mode).days.toNat else m
def peopleK (w : SWork) (l : List SPl) (t : Str) (k : Nat) : List (Int × Int) := ((prs w l).take k).foldl (peopleF t) []
def peopleP (w : SWork) (l : List SPl) (t : Str) : List (Int × Int) := (prs w l).foldl (peopleF t) []
theorem peopleK_succ {w : SWork} {l : List SPl} {t : Str} {k : Nat} {x : SItem} {p : SPl} (hx : w.items[k]? = some x) (hp : l[k]? = some p) : peopleK w l t (k + 1) = peopleF t (peopleK w l t k) (x, p) := by
  rw [peopleK, take_snoc (prs_at hx hp), List.foldl_append]; rfl
theorem peopleK_bound {w : SWork} {l : List SPl} (h : Plan w l) (t : Str) (k : Nat) (hk : k ≤ l.length) : BndM (peopleK w l t k) (60000 * k) := by
  induction k with
  | zero => intro e he; simp [peopleK] at he
  | succ k ih =>
    have ih := ih (by omega)
    obtain ⟨p, hp⟩ := get_lt (show k < l.length by omega)
    obtain ⟨x, hx⟩ := get_lt (show k < w.items.length by have := h.len; omega)
    rw [peopleK_succ hx hp]
    unfold peopleF
    split
    · rename_i hc
      simp only [Bool.and_eq_true] at hc
      have hok := h.ok k x p hx hp hc.1
      have h1 := hok.crew
      have h2 := hok.days
      have := pplJ_bound ih (by omega) (d := p.day) h1 (modeAt x p.mode).days.toNat
      intro e he
      have := this e he
      omega
    · intro e he
      have := ih e he
      omega

theorem people_ret (w : SWork) (hn : w.items.length ≤ 40) (l : List SPl) (hf : Plan w l) (t : Str) : Ret Tryz.prog .shared 34 [.agg (eWork w), .sl (l.map ePl), .str t] (.mapd ((peopleP w l t).map eKV)) := by
  have hl := hf.len
  have hml : (l.map ePl).length = l.length := by simp
  refine Ret.of_pwp layOk mixed Go.Proofs.Tryz.func34 rfl (by decide) rfl rfl ?_
  repeat (refine stp rfl ?_ ?_;·repeat' constructor)
  refine ps_run (o_mkmap rfl ?_)
  repeat (refine stp rfl ?_ ?_;·repeat' constructor)
  refine pw_loop (fun k => k ≤ l.length) (fun k => [(1, .sl (l.map ePl)), (2, .str t), (3, .ptr 3 1 0 0), (7, .mp 12 1), (13, .sl (l.map ePl)), (14, I l.length), (15, I k)])
    (fun k => [(3, 1, ⟨28, 9, [eWork w], 2⟩), (12, 1, ⟨76, 0, (peopleK w l t k).map eKV, 0⟩)]) (fun k => l.length - k) 0 (Nat.zero_le _) ⟨rfl, rfl, rfl, rfl, rfl, ?_, rfl, rfl, rfl, trivial⟩ ?_
  · show I ((l.map ePl).length) = _
    rw [hml]
  intro k s hk
  repeat (refine stp rfl ?_ ?_;·repeat' constructor)
  refine pw_cond rfl (fun h => ?_) (fun h => ?_)
  · have hlt : k < l.length := by simpa using h
    clear h
    obtain ⟨p, hp⟩ := get_lt hlt
    obtain ⟨x, hx⟩ := get_lt (show k < w.items.length by omega)
    have hok := hf.ok k x p hx hp
    have hsk := peopleK_succ (t := t) hx hp
    have hno : (p.on && decide (x.trade = t)) = false → peopleK w l t (k + 1) = peopleK w l t k := fun h => by rw [hsk, peopleF, h]; rfl
    have hbk := peopleK_bound hf t k hk
    repeat (refine stp rfl ?_ ?_;·repeat' constructor)
    apply qst;exact rfl;exact rfl;exact q_idxm rfl rfl rfl rfl rfl (by omega) hp rfl
    repeat (refine stp rfl ?_ ?_;·repeat' constructor)
    apply qst;exact rfl;exact rfl;exact q_idxm rfl rfl rfl rfl rfl (by omega) hx rfl
    repeat (refine stp rfl ?_ ?_;·repeat' constructor)
    (first | refine ps_split rfl rfl (fun h => ?_) (fun h => ?_) | refine pq_split rfl rfl (fun h => ?_) (fun h => ?_) | refine p3_split rfl rfl (fun h => ?_) (fun h => ?_))
    · have hon : p.on = false := by simpa using h
      clear h
      have he := hno (by rw [hon]; rfl)
      repeat (refine stp rfl ?_ ?_;·repeat' constructor)
      refine ⟨k + 1, hlt, by omega, rfl, rfl, rfl, rfl, rfl, rfl, ?_, rfl, ?_, trivial⟩
      · exact i64_next (by omega) (by omega)
      · rw [he]; rfl
    have hon : p.on = true := by simpa using h
    have hok := hok hon
    clear h
    repeat (refine stp rfl ?_ ?_;·repeat' constructor)
    refine pw_cond rfl (fun h => ?_) (fun h => ?_)
    · have ht : ¬ x.trade = t := by simpa using h
      clear h
      have he := hno (by rw [decide_eq_false ht, Bool.and_false])
      repeat (refine stp rfl ?_ ?_;·repeat' constructor)
      refine ⟨k + 1, hlt, by omega, rfl, rfl, rfl, rfl, rfl, rfl, ?_, rfl, ?_, trivial⟩
      · exact i64_next (by omega) (by omega)
      · rw [he]; rfl
    have ht : x.trade = t := by simpa using h
    clear h
    have h1 := hok.day
    have h2 := hok.days
    have h3 := hok.crew
    have hm := hok.mode
    have hlo := hok.lo
    have he : peopleK w l t (k + 1) = pplJ (peopleK w l t k) p.day (modeAt x p.mode).crew (modeAt x p.mode).days.toNat := by rw [hsk, peopleF, hon, decide_eq_true ht]; rfl
    repeat (refine stp rfl ?_ ?_;·repeat' constructor)
    refine pw_loop (fun j => j ≤ (modeAt x p.mode).days.toNat) (fun j => [(1, .sl (l.map ePl)), (2, .str t), (3, .ptr 3 1 0 0), (7, .mp 12 1), (9, .ptr 9 ((s.own 9).1 + 1) 0 0), (10, .ptr 10 ((s.own 10).1 + 1) 0 0), (11, I (p.day + j)), (13, .sl (l.map ePl)), (14, I l.length), (15, I k)])
      (fun j => [(3, 1, ⟨28, 9, [eWork w], 2⟩), (9, (s.own 9).1 + 1, ⟨102, 3, [ePl p], 2⟩), (10, (s.own 10).1 + 1, ⟨69, 7, [eItem x], 2⟩), (12, 1, ⟨76, 0, (pplJ (peopleK w l t k) p.day (modeAt x p.mode).crew j).map eKV, 0⟩)]) (fun j => (modeAt x p.mode).days.toNat - j) 0 (Nat.zero_le _)
      ⟨rfl, rfl, rfl, rfl, rfl, rfl, ?_, rfl, rfl, rfl, rfl, rfl, rfl, rfl, trivial⟩ ?_
    · show I p.day = I (p.day + ((0 : Nat) : Int))
      simp
    intro j s' hj
    have hbj := pplJ_bound hbk (by omega) (d := p.day) h3 j
    repeat (refine stp rfl ?_ ?_;·repeat' constructor)
    apply qst;exact rfl;exact rfl;exact q_callP rfl (end_ret x p hok) rfl (by repeat' constructor) rfl rfl
    repeat (refine stp rfl ?_ ?_;·repeat' constructor)
    refine pw_cond rfl (fun h => ?_) (fun h => ?_)
    · have hlt' : j < (modeAt x p.mode).days.toNat := by have := of_decide_eq_true h; rw [endP] at this; omega
      clear h
      have hg := hbj.get (by omega) (p.day + j)
      repeat (refine stp rfl ?_ ?_;·repeat' constructor)
      refine pw_draw 11 [43, 44, 45, 46, 47, 48, 49, 50, 51, 52, 53] (by decide +kernel) ?_
      repeat (refine stp rfl ?_ ?_;·repeat' constructor)
      refine pq_q (q_look rfl rfl rfl rfl rfl zone3 rfl rfl rfl rfl rfl (keyed_kv _)) ?_
      rw [show mval (PV.int .i64 0) (PV.int .i64 (p.day + j)) ((pplJ (peopleK w l t k) p.day (modeAt x p.mode).crew j).map eKV) = I (aget (pplJ (peopleK w l t k) p.day (modeAt x p.mode).crew j) (p.day + j)) from mval_kv _ _]
      repeat (refine stp rfl ?_ ?_;·repeat' constructor)
      apply qst;exact rfl;exact rfl;exact q_idxm rfl rfl rfl rfl rfl (by omega) hm rfl
      repeat (refine stp rfl ?_ ?_;·repeat' constructor)
      refine ps_run0 (o_mset 0 rfl rfl rfl rfl rfl rfl rfl rfl rfl (keyed_kv _) rfl rfl ?_)
      repeat (refine stp rfl ?_ ?_;·repeat' constructor)
      refine ⟨j + 1, hlt', by omega, rfl, rfl, rfl, rfl, rfl, rfl, ?_, rfl, rfl, rfl, rfl, rfl, rfl, ?_, trivial⟩
      · exact (i64_next (by omega) (by omega)).trans (congrArg I (by omega))
      · rw [pplJ_succ, addM, ← mput_kv]
        refine Eq.trans (b := (1, some (Cont.mk 76 0 (mput (I (p.day + j)) (PV.int .i64 (IntKind.i64.wrap (aget (pplJ (peopleK w l t k) p.day (modeAt x p.mode).crew j) (p.day + j) + (modeAt x p.mode).crew))) ((pplJ (peopleK w l t k) p.day (modeAt x p.mode).crew j).map eKV)) 0))) rfl ?_
        rw [wrap_i64 (by omega) (by omega)]
    · have hge : j = (modeAt x p.mode).days.toNat := by have := of_decide_eq_false h; rw [endP] at this; omega
      subst hge
      clear h
      repeat (refine stp rfl ?_ ?_;·repeat' constructor)
      refine ⟨k + 1, hlt, by omega, rfl, rfl, rfl, rfl, rfl, rfl, ?_, rfl, ?_, trivial⟩
      · exact i64_next (by omega) (by omega)
      · rw [he]; rfl
  · have hge : k = l.length := by have := of_decide_eq_false h; omega
    subst hge
    have hfin : peopleK w l t l.length = peopleP w l t := by
      rw [peopleK, List.take_of_length_le, peopleP]
      simp [prs]; omega
    repeat (refine stp rfl ?_ ?_;·repeat' constructor)
    exact end1 rfl rfl rfl rfl (by rw [hfin])
end Go.Pv

/- Breaches, plans and their cost. -/
set_option maxHeartbeats 2000000
namespace Go.Pv
attribute [local irreducible] PWP POps PQuiet PSem XThen XBlock RetPost InlPost
open Go.Proofs

/-- A nil slice in a register, as an empty site of its own. -/
theorem Ghost.nilreg {s : St} {k gk t : Nat} {oc : Option Cont} (T : TypeId) (sz kd : Nat) (ho : s.own k = (gk, oc)) (hr : s.reg t = .nil) : Ghost s ((s.setOwn k (gk + 1) (some ⟨T, sz, [], kd⟩)).putR t (.als k (gk + 1) 0 0)) := by
  intro C a w hX ⟨γ, h⟩
  have ht : Turn C γ s w w k none := ⟨rfl, rfl, rfl, Nat.le_refl _, fun b _ => .inl rfl, fun b hb => by cases hb⟩
  have h1 := ht.sim h (c := ⟨T, sz, [], kd⟩) (.none_ rfl)
  have hfin : s.fin k ⟨T, sz, [], kd⟩ = s.setOwn k (gk + 1) (some ⟨T, sz, [], kd⟩) := by rw [St.fin, ho]
  rw [hfin] at h1
  refine ⟨_, h1.defers, h1.size, fun r => ?_, h1.sites, h1.inj, h1.base, h1.below, h1.top, h1.kept⟩
  show Rep _ (bif Nat.beq r t then _ else s.reg r) _
  by_cases hrt : r = t
  · subst hrt
    have hv := h.regs r
    rw [hr] at hv
    rw [hv.nil_inv]
    simp only [Nat.beq_refl, cond_true]
    refine .als ?_ fun _ l hl => ?_
    · show _ ≤ ((s.setOwn k (gk + 1) (some ⟨T, sz, [], kd⟩)).own k).1
      rw [setOwn_same]; exact Nat.le_refl _
    · have hl : (((s.setOwn k (gk + 1) (some ⟨T, sz, [], kd⟩)).own k).2.map fun c => (⟨upg γ k none k, c.ty, c.sz, c.rows.length⟩ : SLoc)) = some l := hl
      rw [setOwn_same, upg_same] at hl
      have hl := Option.some.inj hl
      subst hl
      exact .inl ⟨rfl, rfl, rfl, rfl⟩
  · rw [nbeq_ne hrt]; exact h1.regs r

def mostF (a : Int) (e : Int × Int) : Int := imax a e.2
def mostP (m : List (Int × Int)) : Int := m.foldl mostF 0
theorem imax_comm (a b c : Int) : imax (imax a b) c = imax (imax a c) b := by unfold imax; (repeat' split) <;> omega
theorem most_erase : ∀ (m : List (Int × Int)) (a : Int) (i : Nat) (e : Int × Int), m[i]? = some e → (m.eraseIdx i).foldl mostF (mostF a e) = m.foldl mostF a
  | [], _, _, _, h => by simp at h
  | q :: m, a, 0, e, h => by simp at h; subst h; rfl
  | q :: m, a, i + 1, e, h => by
    rw [List.eraseIdx_cons_succ, List.foldl_cons, List.foldl_cons, ← most_erase m (mostF a q) i e (by simpa using h)]
    congr 1
    exact imax_comm _ _ _

def crowdAt (w : SWork) (l : List SPl) (i : Nat) : List SBr := match w.trades[i]? with | some t => if t.crew < mostP (peopleP w l t.name) then [⟨t.name, [], 23⟩] else [] | none => []
def crowdP (w : SWork) (l : List SPl) : List SBr := atN (crowdAt w l) w.trades.length
theorem crowdAt_len (w : SWork) (l : List SPl) (i : Nat) : (crowdAt w l i).length ≤ 1 := by
  unfold crowdAt
  split
  · split <;> simp
  · simp

theorem crowded_ret (w : SWork) (hv : Well w) (l : List SPl) (hf : Full w l) : Ret Tryz.prog .shared 106 [.agg (eWork w), .sl (l.map ePl)] (.sl ((crowdP w l).map eBr)) := by
  have hn := hv.n40
  have ht6 := hv.t6
  have hl := hf.len
  refine Ret.of_pwp layOk mixed Go.Proofs.Tryz.func106 rfl (by decide) rfl rfl ?_
  ((repeat (first | refine ps_nil ?_ | refine pq_nil ?_ | refine x_norm ?_ | refine pw_seq ?_)); refine pw_region ?_)
  refine ps_run (o_box rfl rfl rfl (by repeat' constructor) rfl ?_)
  refine ps_v rfl trivial ?_
  ((repeat (first | refine ps_nil ?_ | refine pq_nil ?_ | refine x_norm ?_ | refine pw_seq ?_)); refine pw_region ?_)
  (first | refine ps_run (o_nilm 84 3 0 rfl rfl ?_) | refine ps_run (o_nila 84 3 0 rfl rfl ?_))
  repeat (refine stp rfl ?_ ?_;·repeat' constructor)
  refine pw_loop (fun k => k ≤ w.trades.length) (fun k => [(1, .sl (l.map ePl)), (2, .ptr 2 1 0 0), (5, .als 5 (1 + (atN (crowdAt w l) k).length) 0 ((atN (crowdAt w l) k).map eBr).length), (12, .sl (w.trades.map eTrade)), (13, I w.trades.length), (14, I k)])
    (fun k => [(2, 1, ⟨28, 9, [eWork w], 2⟩), (5, 1 + (atN (crowdAt w l) k).length, ⟨84, 3, (atN (crowdAt w l) k).map eBr, 0⟩)]) (fun k => w.trades.length - k) 0 (Nat.zero_le _) ⟨rfl, rfl, rfl, rfl, ?_, rfl, rfl, rfl, trivial⟩ ?_
  · show I ((w.trades.map eTrade).length) = _
    simp
  intro k s hk
  repeat (refine stp rfl ?_ ?_;·repeat' constructor)
  refine pw_cond rfl (fun h => ?_) (fun h => ?_)
  · have hlt : k < w.trades.length := by simpa using h
    clear h
    obtain ⟨t, ht⟩ := get_lt hlt
    have hb := atN_len (crowdAt_len w l) k
    have hat : crowdAt w l k = if t.crew < mostP (peopleP w l t.name) then [⟨t.name, [], 23⟩] else [] := by rw [crowdAt, ht]
    repeat (refine stp rfl ?_ ?_;·repeat' constructor)
    apply qst;exact rfl;exact rfl;exact q_idxm rfl rfl rfl rfl rfl (by omega) ht rfl
    repeat (refine stp rfl ?_ ?_;·repeat' constructor)
    apply qst;exact rfl;exact rfl;exact q_call rfl (people_ret w hn l hf.toPlan t.name) rfl (by repeat' constructor) rfl
    refine ps_run (o_range rfl rfl rfl rfl ?_)
    repeat (refine stp rfl ?_ ?_;·repeat' constructor)
    refine pw_loop (fun q : PV × List (Int × Int) × Int => q.2.1.foldl mostF q.2.2 = mostP (peopleP w l t.name)) (fun q => [(1, .sl (l.map ePl)), (2, .ptr 2 1 0 0), (5, .als 5 (1 + (atN (crowdAt w l) k).length) 0 ((atN (crowdAt w l) k).map eBr).length), (7, .ptr 7 ((s.own 7).1 + 1) 0 0), (8, I q.2.2), (12, .sl (w.trades.map eTrade)), (13, I w.trades.length), (14, I k), (23, .mi 23 ((s.own 23).1 + 1))])
      (fun q => [(2, 1, ⟨28, 9, [eWork w], 2⟩), (5, 1 + (atN (crowdAt w l) k).length, ⟨84, 3, (atN (crowdAt w l) k).map eBr, 0⟩), (7, (s.own 7).1 + 1, ⟨45, 3, [eTrade t], 2⟩), (23, (s.own 23).1 + 1, ⟨76, 0, [q.1 :: q.2.1.map (fun e => PV.agg (eKV e))], 3⟩)]) (fun q => q.2.1.length) (.nil, peopleP w l t.name, 0) rfl
      ⟨rfl, rfl, rfl, rfl, rfl, rfl, rfl, rfl, rfl, rfl, rfl, rfl, ?_, trivial⟩ ?_
    · show ((s.own 23).1 + 1, some (Cont.mk 76 0 [PV.nil :: ((peopleP w l t.name).map eKV).map PV.agg] 3)) = _
      rw [List.map_map]; rfl
    rintro ⟨last, rem, most⟩ s' hrem
    ((repeat (first | refine ps_nil ?_ | refine pq_nil ?_ | refine x_norm ?_ | refine pw_seq ?_)); refine pw_region ?_)
    refine ps_run (o_next rfl rfl (fun h0 => ?_) (fun i ck cv hi => ?_))
    · have hnil : rem = [] := by simpa using h0
      subst hnil
      have hmost : most = mostP (peopleP w l t.name) := hrem
      repeat (refine stp rfl ?_ ?_;·repeat' constructor)
      refine pw_cond rfl (fun h => ?_) (fun h => ?_)
      · have hc : t.crew < most := of_decide_eq_true h
        clear h
        have he : atN (crowdAt w l) (k + 1) = atN (crowdAt w l) k ++ [⟨t.name, [], 23⟩] := by rw [atN_succ, hat, if_pos (by omega)]
        repeat (refine stp rfl ?_ ?_;·repeat' constructor)
        apply qst;exact rfl;exact rfl;exact q_slit rfl rfl rfl rfl rfl rfl rfl rfl rfl rfl (by repeat' constructor) rfl
        repeat (refine stp rfl ?_ ?_;·repeat' constructor)
        refine ps_run (o_app 0 rfl rfl rfl rfl rfl rfl rfl rfl rfl rfl rfl (by repeat' constructor) (by intro row hr; first | (simp at hr; subst hr; rfl) | simp at hr) rfl rfl (by simp; omega) (by simp; omega) ?_)
        repeat (refine stp rfl ?_ ?_;·repeat' constructor)
        refine ⟨k + 1, hlt, by omega, rfl, rfl, ?_, rfl, rfl, ?_, rfl, ?_, trivial⟩
        · rw [he]; exact als_snoc eBr 5 1 (atN (crowdAt w l) k) ⟨t.name, [], 23⟩
        · exact i64_next (by omega) (by omega)
        · rw [he]; exact cont_snoc eBr 1 84 3 0 (atN (crowdAt w l) k) ⟨t.name, [], 23⟩
      · have hc : ¬ t.crew < most := of_decide_eq_false h
        clear h
        have he : atN (crowdAt w l) (k + 1) = atN (crowdAt w l) k := by rw [atN_succ, hat, if_neg (by omega), List.append_nil]
        repeat (refine stp rfl ?_ ?_;·repeat' constructor)
        refine ⟨k + 1, hlt, by omega, rfl, rfl, ?_, rfl, rfl, ?_, rfl, ?_, trivial⟩
        · rw [he]; rfl
        · exact i64_next (by omega) (by omega)
        · rw [he]; rfl
    · obtain ⟨e, hei, hee⟩ : ∃ e, rem[i]? = some e ∧ eKV e = [ck, cv] := by
        rw [List.getElem?_map] at hi
        cases hq : rem[i]? with
        | none => rw [hq] at hi; simp at hi
        | some e => rw [hq] at hi; simp at hi; exact ⟨e, rfl, hi⟩
      have h1 : ck = I e.1 := by simp [eKV] at hee; exact hee.1.symm
      have h2 : cv = I e.2 := by simp [eKV] at hee; exact hee.2.symm
      subst h1; subst h2
      have hlen := (List.getElem?_eq_some_iff.1 hei).1
      repeat (refine stp rfl ?_ ?_;·repeat' constructor)
      refine ps_q (q_entry rfl rfl) ?_
      repeat (refine stp rfl ?_ ?_;·repeat' constructor)
      refine ⟨(.agg [I e.1, I e.2], rem.eraseIdx i, mostF most e), ?_, ?_, rfl, rfl, rfl, rfl, rfl, rfl, rfl, rfl, rfl, rfl, rfl, rfl, ?_, trivial⟩
      · rw [← hrem]; exact most_erase rem most i e hei
      · show (rem.eraseIdx i).length < rem.length
        rw [List.length_eraseIdx, if_pos hlen]; omega
      · refine Eq.trans (b := ((s.own 23).1 + 1, some (Cont.mk 76 0 [PV.agg [I e.1, I e.2] :: (rem.map (fun e => PV.agg (eKV e))).eraseIdx i] 3))) rfl ?_
        rw [← Go.ChangeMaps.map_eraseIdx]
  · have hge : k = w.trades.length := by have := of_decide_eq_false h; omega
    subst hge
    repeat (refine stp rfl ?_ ?_;·repeat' constructor)
    exact end1 rfl rfl rfl ⟨rfl, rfl, rfl⟩ rfl
def cols : List FuncId := [105, 106, 107, 108, 109]
def eClo (f : FuncId) : List PV := [.clo f []]
theorem collectors_ret : Ret Tryz.prog .shared 89 [] (.sl (cols.map eClo)) := by
  refine Ret.of_pwp layOk mixed Go.Proofs.Tryz.func89 rfl (by decide) rfl rfl ?_
  repeat (refine stp rfl ?_ ?_;·repeat' constructor)
  apply qst;exact rfl;exact rfl;exact q_slit rfl rfl rfl rfl rfl rfl rfl rfl rfl rfl (by repeat' constructor) rfl
  repeat (refine stp rfl ?_ ?_;·repeat' constructor)
  exact end1 rfl rfl rfl trivial rfl

def partsP (w : SWork) (l : List SPl) : List (List SBr) := [earlyP w l, crowdP w l, clashP w l, haltP w l, lateP w l]
def breachP (w : SWork) (l : List SPl) : List SBr := (partsP w l).flatten
theorem parts_ret (w : SWork) (hw : Sane w) (hv : Well w) (l : List SPl) (hf : Full w l) (k : Nat) (f : FuncId) (p : List SBr) (h1 : cols[k]? = some f) (h2 : (partsP w l)[k]? = some p) : Ret Tryz.prog .shared f [.agg (eWork w), .sl (l.map ePl)] (.sl (p.map eBr)) := by
  match k, h1, h2 with
  | 0, h1, h2 => simp [cols] at h1; simp [partsP] at h2; subst h1; subst h2; exact early_ret w hw hv l hf
  | 1, h1, h2 => simp [cols] at h1; simp [partsP] at h2; subst h1; subst h2; exact crowded_ret w hv l hf
  | 2, h1, h2 => simp [cols] at h1; simp [partsP] at h2; subst h1; subst h2; exact clashing_ret w hw hv l hf
  | 3, h1, h2 => simp [cols] at h1; simp [partsP] at h2; subst h1; subst h2; exact halted_ret w hw hv l hf
  | 4, h1, h2 => simp [cols] at h1; simp [partsP] at h2; subst h1; subst h2; exact late_ret w hv l hf
  | k + 5, h1, _ => simp [cols] at h1
theorem parts_len (w : SWork) (hw : Sane w) (hv : Well w) (l : List SPl) : ∀ p ∈ partsP w l, p.length ≤ 4000000 := by
  have hn := hv.n40
  have ht := hv.t6
  have h1 := earlyN_len w hw l w.items.length
  have h2 := atN_len (crowdAt_len w l) w.trades.length
  have h3 := atN_len (f := fun i => clashRow w l i (w.items.length - (i + 1))) (c := 40) (fun i => by have := clashRow_len w l i (w.items.length - (i + 1)); omega) w.items.length
  have h4 := atN_len (haltAt_len w l) w.items.length
  have h5 := atN_len (lateAt_len w l) w.items.length
  intro p hp
  simp only [partsP, List.mem_cons, List.not_mem_nil, or_false] at hp
  rcases hp with rfl | rfl | rfl | rfl | rfl
  · rw [earlyP]; omega
  · rw [crowdP]; omega
  · rw [clashP]; omega
  · rw [haltP]; omega
  · rw [lateP]; omega
theorem flatten_len {α : Type} {c : Nat} : ∀ {l : List (List α)}, (∀ p ∈ l, p.length ≤ c) → l.flatten.length ≤ l.length * c
  | [], _ => by simp
  | a :: l, h => by
    have := flatten_len (l := l) fun p hp => h p (by simp [hp])
    have := h a (by simp)
    simp only [List.flatten_cons, List.length_append, List.length_cons, Nat.add_mul, Nat.one_mul]
    omega

theorem nodup_cover {α : Type} [DecidableEq α] : ∀ (A B : List α), A.Nodup → (∀ x ∈ A, x ∈ B) → B.length ≤ A.length → ∀ y ∈ B, y ∈ A
  | [], B, _, _, hl, y, hy => by
    have : B = [] := List.eq_nil_of_length_eq_zero (by simpa using hl)
    rw [this] at hy; exact hy
  | a :: A, B, hn, hs, hl, y, hy => by
    by_cases hya : y = a
    · simp [hya]
    · rw [List.nodup_cons] at hn
      have haB : a ∈ B := hs a (by simp)
      have := nodup_cover A (B.erase a) hn.2 (fun x hx => (List.mem_erase_of_ne (fun e => hn.1 (by rw [← e]; exact hx))).2 (hs x (by simp [hx]))) (by rw [List.length_erase_of_mem haB]; simp at hl; omega) y ((List.mem_erase_of_ne hya).2 hy)
      simp [this]

theorem full_of {w : SWork} {s : List SSlot} (h : slE w s = 0) : Well w ∧ Full w (placed w s) := by
  unfold slE at h
  have hw : workE w = 0 := by
    by_cases hz : workE w = 0
    · exact hz
    · rw [if_neg hz] at h; exact absurd h hz
  rw [if_pos hw] at h
  have hv := well_of hw
  have hlen : s.length = w.items.length := by
    unfold slotsE at h
    exact (ite_zero h (by omega)).1
  have hat := fun k sl => slot_of (k := k) (sl := sl) h
  -- every item has a slot
  have hnod : (s.map (·.item)).Nodup := by
    rw [List.nodup_iff_pairwise_ne, List.pairwise_iff_getElem]
    intro i j hi hj hij he
    simp only [List.getElem_map] at he
    have hi' : i < s.length := by simpa using hi
    have hj' : j < s.length := by simpa using hj
    have := (hat j _ (List.getElem?_eq_getElem hj')).2.1
    rw [List.any_eq_false] at this
    refine this s[i] ?_ (by simp [he])
    rw [List.mem_take_iff_getElem]
    exact ⟨i, by omega, rfl⟩
  have hcov := nodup_cover (s.map (·.item)) (w.items.map (·.name)) hnod (fun n hn => by
    obtain ⟨sl, hsl, rfl⟩ := List.mem_map.1 hn
    obtain ⟨k, hk, rfl⟩ := List.getElem_of_mem hsl
    obtain ⟨x, hx, hxn⟩ := idx_lt (hat k _ (List.getElem?_eq_getElem hk)).1
    exact List.mem_map.2 ⟨x, List.mem_of_getElem? hx, by simpa using hxn⟩) (by simp; omega)
  have hpl : ∀ x ∈ w.items, ∃ (k : Nat) (sl : SSlot), s[k]? = some sl ∧ sl.item = x.name ∧ pl s x.name = ⟨sl.mode, sl.day, true⟩ := by
    intro x hx
    obtain ⟨sl, hsl, hn⟩ := List.mem_map.1 (hcov x.name (List.mem_map.2 ⟨x, hx, rfl⟩))
    cases hf : s.find? (·.item == x.name) with
    | none =>
      rw [List.find?_eq_none] at hf
      exact absurd (by simp [hn]) (hf sl hsl)
    | some a =>
      obtain ⟨k, hk, hka⟩ := List.getElem_of_mem (List.mem_of_find?_eq_some hf)
      exact ⟨k, a, by rw [List.getElem?_eq_getElem hk, hka], by simpa using List.find?_some hf, by rw [pl, hf]⟩
  have main : ∀ (i : Nat) x p, w.items[i]? = some x → (placed w s)[i]? = some p → p.on = true ∧ PlOk x p := by
    intro i x p hx hp
    rw [placed, List.getElem?_map, hx] at hp
    have hp : pl s x.name = p := by simpa using hp
    obtain ⟨k, sl, hk, hn, he⟩ := hpl x (List.mem_of_getElem? hx)
    rw [he] at hp
    subst hp
    obtain ⟨g1, _, g3, g4⟩ := hat k sl hk
    have hmo : modesOf w sl = x.modes.length := by
      have := hv.good.uniq i x hx
      rw [modesOf, hn, this, Int.toNat_natCast, hx]
    rw [hmo] at g3
    exact ⟨rfl, plOk_of hv (List.mem_of_getElem? hx) g3.1 (by show sl.mode < _; omega) g4⟩
  refine ⟨hv, ⟨⟨by simp [placed], fun i x p hx hp _ => (main i x p hx hp).2⟩, fun i p hp => ?_⟩⟩
  have hi : i < w.items.length := by have := (List.getElem?_eq_some_iff.1 hp).1; simpa [placed] using this
  exact (main i _ p (List.getElem?_eq_getElem hi) hp).1

def breachR (w : SWork) (s : List SSlot) : PV := if slE w s = 0 then .tup [.sl ((breachP w (placed w s)).map eBr), I 0] else .tup [.nil, I (slE w s)]
theorem breaches_ret (w : SWork) (hw : Sane w) (s : List SSlot) : Ret Tryz.prog .shared 59 [.agg (eWork w), .sl (s.map eSlot)] (breachR w s) := by
  have h43 := slotsErr_ret w hw s
  by_cases hz : slE w s = 0
  · obtain ⟨hv, hf⟩ := full_of hz
    rw [slotsR, if_pos hz] at h43
    have hpl := parts_len w hw hv (placed w s)
    have hcl : cols.length = 5 := rfl
    have hpn : (partsP w (placed w s)).length = 5 := rfl
    refine Ret.of_pwp layOk mixed Go.Proofs.Tryz.func59 rfl (by decide) rfl rfl ?_
    repeat (refine stp rfl ?_ ?_;·repeat' constructor)
    apply qst;exact rfl;exact rfl;exact q_call rfl (h43) rfl (by repeat' constructor) rfl
    repeat (refine stp rfl ?_ ?_;·repeat' constructor)
    apply qst;exact rfl;exact rfl;exact q_call rfl (collectors_ret) rfl (by repeat' constructor) rfl
    repeat (refine stp rfl ?_ ?_;·repeat' constructor)
    refine pw_ghost (Ghost.nilreg (k := 8) (t := 8) 84 3 1 rfl rfl) ?_
    refine pw_loop (fun k => k ≤ 5) (fun k => [(2, .ptr 2 1 0 0), (6, .sl ((placed w s).map ePl)), (8, .als 8 (1 + k) 0 (((partsP w (placed w s)).take k).flatten.map eBr).length), (20, .sl (cols.map eClo)), (21, I 5), (22, I k)])
      (fun k => [(2, 1, ⟨28, 9, [eWork w], 2⟩), (8, 1 + k, ⟨84, 3, ((partsP w (placed w s)).take k).flatten.map eBr, 1⟩)]) (fun k => 5 - k) 0 (Nat.zero_le _) ⟨rfl, rfl, rfl, rfl, rfl, rfl, rfl, rfl, trivial⟩ ?_
    intro k st hk
    repeat (refine stp rfl ?_ ?_;·repeat' constructor)
    refine pw_cond rfl (fun h => ?_) (fun h => ?_)
    · have hlt : k < 5 := by have := of_decide_eq_true h; omega
      clear h
      obtain ⟨f, hfc⟩ := get_lt (show k < cols.length by omega)
      obtain ⟨p, hp⟩ := get_lt (show k < (partsP w (placed w s)).length by omega)
      have hbp := hpl p (List.mem_of_getElem? hp)
      have hbk := flatten_len (l := (partsP w (placed w s)).take k) (c := 4000000) fun q hq => hpl q (List.mem_of_mem_take hq)
      have htl : ((partsP w (placed w s)).take k).length = k := by rw [List.length_take]; omega
      have he : ((partsP w (placed w s)).take (k + 1)).flatten.map eBr = ((partsP w (placed w s)).take k).flatten.map eBr ++ p.map eBr := by rw [take_snoc hp, List.flatten_append, List.map_append]; simp
      rw [htl] at hbk
      repeat (refine stp rfl ?_ ?_;·repeat' constructor)
      apply qst;exact rfl;exact rfl;exact q_idxm rfl rfl rfl rfl rfl (by omega) hfc rfl
      repeat (refine stp rfl ?_ ?_;·repeat' constructor)
      apply qst;exact rfl;exact rfl;exact q_call rfl (parts_ret w hw hv (placed w s) hf k f p hfc hp) rfl (by repeat' constructor) rfl
      repeat (refine stp rfl ?_ ?_;·repeat' constructor)
      refine ps_run (o_app 1 rfl rfl rfl rfl rfl rfl rfl rfl rfl rfl rfl (by repeat' constructor) (by intro row hr; obtain ⟨b, _, rfl⟩ := List.mem_map.1 hr; rfl) rfl rfl (by simp only [List.length_map]; show _ * 40 ≤ _; omega) (by simp only [List.length_map]; omega) ?_)
      repeat (refine stp rfl ?_ ?_;·repeat' constructor)
      refine ⟨k + 1, hlt, by omega, rfl, rfl, ?_, rfl, rfl, ?_, rfl, ?_, trivial⟩
      · rw [he]; rfl
      · exact i64_next (by omega) (by omega)
      · rw [he]; rfl
    · have hge : k = 5 := by have := of_decide_eq_false h; omega
      subst hge
      repeat (refine stp rfl ?_ ?_;·repeat' constructor)
      exact end2 rfl rfl rfl rfl rfl ⟨rfl, rfl, rfl⟩ trivial (by rw [breachR, if_pos hz]; rfl)
  · rw [slotsR, if_neg hz] at h43
    refine Ret.of_pwp layOk mixed Go.Proofs.Tryz.func59 rfl (by decide) rfl rfl ?_
    repeat (refine stp rfl ?_ ?_;·repeat' constructor)
    apply qst;exact rfl;exact rfl;exact q_call rfl (h43) rfl (by repeat' constructor) rfl
    repeat (refine stp rfl ?_ ?_;·repeat' constructor)
    refine pw_cond rfl (fun h => ?_) (fun h => ?_)
    · repeat (refine stp rfl ?_ ?_;·repeat' constructor)
      exact end2 rfl rfl rfl rfl rfl trivial trivial (by rw [breachR, if_neg hz])
    · exact absurd (by simpa using h) hz

def firstR : List SBr → Int
  | [] => 0
  | b :: _ => b.r
def planE (w : SWork) (s : List SSlot) : Int := if slE w s = 0 then firstR (breachP w (placed w s)) else slE w s
def planR (w : SWork) (s : List SSlot) : PV := if planE w s = 0 then .tup [.sl ((placed w s).map ePl), I 0] else .tup [.nil, I (planE w s)]
theorem atN_r {f : Nat → List SBr} (h : ∀ i, ∀ b ∈ f i, b.r ≠ 0) (n : Nat) : ∀ b ∈ atN f n, b.r ≠ 0 := fun b hb => by
  obtain ⟨i, _, hi⟩ := List.mem_flatMap.1 hb
  exact h i b hi
theorem breach_r {w : SWork} {l : List SPl} : ∀ b ∈ breachP w l, b.r ≠ 0 := by
  intro b hb
  obtain ⟨p, hp, hbp⟩ := List.mem_flatten.1 hb
  simp only [partsP, List.mem_cons, List.not_mem_nil, or_false] at hp
  rcases hp with rfl | rfl | rfl | rfl | rfl
  · obtain ⟨i, _, hi⟩ := List.mem_flatMap.1 hbp
    obtain ⟨k, _, hk⟩ := List.mem_flatMap.1 hi
    unfold earlyAt at hk
    split at hk
    · simp at hk; subst hk; simp
    · simp at hk
  · refine atN_r (fun i b hb => ?_) _ b hbp
    unfold crowdAt at hb
    split at hb
    · split at hb
      · simp at hb; subst hb; simp
      · simp at hb
    · simp at hb
  · refine atN_r (fun i b hb => ?_) _ b hbp
    obtain ⟨k, _, hk⟩ := List.mem_flatMap.1 hb
    unfold clashAt at hk
    split at hk
    · simp at hk; subst hk; simp
    · simp at hk
  · refine atN_r (fun i b hb => ?_) _ b hbp
    unfold haltAt at hb
    split at hb
    · simp at hb; subst hb; simp
    · simp at hb
  · refine atN_r (fun i b hb => ?_) _ b hbp
    unfold lateAt at hb
    split at hb
    · simp at hb; subst hb; simp
    · simp at hb
theorem planE_zero {w : SWork} {s : List SSlot} (h : planE w s = 0) : slE w s = 0 ∧ breachP w (placed w s) = [] := by
  unfold planE at h
  obtain ⟨h1, h2⟩ : slE w s = 0 ∧ firstR (breachP w (placed w s)) = 0 := by
    by_cases hz : slE w s = 0
    · rw [if_pos hz] at h; exact ⟨hz, h⟩
    · rw [if_neg hz] at h; exact absurd h hz
  refine ⟨h1, ?_⟩
  cases hb : breachP w (placed w s) with
  | nil => rfl
  | cons b l =>
    rw [hb] at h2
    exact absurd h2 (breach_r b (by rw [hb]; simp))

theorem plan_ret (w : SWork) (hw : Sane w) (s : List SSlot) : Ret Tryz.prog .shared 28 [.agg (eWork w), .sl (s.map eSlot)] (planR w s) := by
  have h43 := slotsErr_ret w hw s
  have h13 := breaches_ret w hw s
  by_cases hz : slE w s = 0
  · rw [breachR, if_pos hz] at h13
    rw [slotsR, if_pos hz] at h43
    cases hb : breachP w (placed w s) with
    | nil =>
      rw [hb] at h13
      have hp : planE w s = 0 := by rw [planE, if_pos hz, hb]; rfl
      refine Ret.of_pwp layOk mixed Go.Proofs.Tryz.func28 rfl (by decide) rfl rfl ?_
      repeat (refine stp rfl ?_ ?_;·repeat' constructor)
      apply qst;exact rfl;exact rfl;exact q_call rfl (h13) rfl (by repeat' constructor) rfl
      repeat (refine stp rfl ?_ ?_;·repeat' constructor)
      apply qst;exact rfl;exact rfl;exact q_call rfl (h43) rfl (by repeat' constructor) rfl
      repeat (refine stp rfl ?_ ?_;·repeat' constructor)
      exact end2 rfl rfl rfl rfl rfl trivial trivial (by rw [planR, if_pos hp])
    | cons b l =>
      rw [hb] at h13
      have hp : planE w s = b.r := by rw [planE, if_pos hz, hb]; rfl
      have hne : ¬ planE w s = 0 := by rw [hp]; exact breach_r b (by rw [hb]; simp)
      have h0 : (b :: l)[0]? = some b := rfl
      refine Ret.of_pwp layOk mixed Go.Proofs.Tryz.func28 rfl (by decide) rfl rfl ?_
      repeat (refine stp rfl ?_ ?_;·repeat' constructor)
      apply qst;exact rfl;exact rfl;exact q_call rfl (h13) rfl (by repeat' constructor) rfl
      repeat (refine stp rfl ?_ ?_;·repeat' constructor)
      refine pw_cond rfl (fun h => ?_) (fun h => ?_)
      · repeat (refine stp rfl ?_ ?_;·repeat' constructor)
        refine pw_draw 6 [20, 21, 22, 23, 4, 5] (by decide +kernel) ?_
        repeat (refine stp rfl ?_ ?_;·repeat' constructor)
        apply qst;exact rfl;exact rfl;exact q_idxm (n := (((0:Nat):Int) : Int)) rfl rfl rfl rfl rfl (by omega) h0 rfl
        repeat (refine stp rfl ?_ ?_;·repeat' constructor)
        exact end2 rfl rfl rfl rfl rfl trivial trivial (by rw [planR, if_neg hne, hp])
      · exact absurd (of_decide_eq_false h) (by simp)
  · rw [breachR, if_neg hz] at h13
    have hp : planE w s = slE w s := by rw [planE, if_neg hz]
    refine Ret.of_pwp layOk mixed Go.Proofs.Tryz.func28 rfl (by decide) rfl rfl ?_
    repeat (refine stp rfl ?_ ?_;·repeat' constructor)
    apply qst;exact rfl;exact rfl;exact q_call rfl (h13) rfl (by repeat' constructor) rfl
    repeat (refine stp rfl ?_ ?_;·repeat' constructor)
    refine pw_cond rfl (fun h => ?_) (fun h => ?_)
    · repeat (refine stp rfl ?_ ?_;·repeat' constructor)
      exact end2 rfl rfl rfl rfl rfl trivial trivial (by rw [planR, hp, if_neg hz])
    · exact absurd (by simpa using h) hz

theorem checkPlan_ret (w : SWork) (hw : Sane w) (s : List SSlot) : Ret Tryz.prog .shared 24 [.agg (eWork w), .sl (s.map eSlot)] (I (planE w s)) := by
  have h45 := plan_ret w hw s
  by_cases hz : planE w s = 0
  · rw [planR, if_pos hz] at h45
    refine Ret.of_pwp layOk mixed Go.Proofs.Tryz.func24 rfl (by decide) rfl rfl ?_
    repeat (refine stp rfl ?_ ?_;·repeat' constructor)
    apply qst;exact rfl;exact rfl;exact q_call rfl (h45) rfl (by repeat' constructor) rfl
    repeat (refine stp rfl ?_ ?_;·repeat' constructor)
    exact end1i rfl rfl (by rw [hz])
  · rw [planR, if_neg hz] at h45
    refine Ret.of_pwp layOk mixed Go.Proofs.Tryz.func24 rfl (by decide) rfl rfl ?_
    repeat (refine stp rfl ?_ ?_;·repeat' constructor)
    apply qst;exact rfl;exact rfl;exact q_call rfl (h45) rfl (by repeat' constructor) rfl
    repeat (refine stp rfl ?_ ?_;·repeat' constructor)
    exact end1i rfl rfl rfl

theorem costF_ret (w : SWork) (hw : Sane w) (s : List SSlot) : Ret Tryz.prog .shared 9 [.agg (eWork w), .sl (s.map eSlot)] (.tup [I (if planE w s = 0 then costP w (placed w s) else 0), I (planE w s)]) := by
  have h45 := plan_ret w hw s
  by_cases hz : planE w s = 0
  · obtain ⟨hv, hf⟩ := full_of (planE_zero hz).1
    rw [planR, if_pos hz] at h45
    refine Ret.of_pwp layOk mixed Go.Proofs.Tryz.func9 rfl (by decide) rfl rfl ?_
    repeat (refine stp rfl ?_ ?_;·repeat' constructor)
    apply qst;exact rfl;exact rfl;exact q_call rfl (h45) rfl (by repeat' constructor) rfl
    repeat (refine stp rfl ?_ ?_;·repeat' constructor)
    apply qst;exact rfl;exact rfl;exact q_callP rfl (cost_ret w hw hv (placed w s) hf.toPlan) rfl (by repeat' constructor) rfl rfl
    repeat (refine stp rfl ?_ ?_;·repeat' constructor)
    exact end2 rfl rfl rfl rfl rfl trivial trivial (by rw [if_pos hz, hz])
  · rw [planR, if_neg hz] at h45
    refine Ret.of_pwp layOk mixed Go.Proofs.Tryz.func9 rfl (by decide) rfl rfl ?_
    repeat (refine stp rfl ?_ ?_;·repeat' constructor)
    apply qst;exact rfl;exact rfl;exact q_call rfl (h45) rfl (by repeat' constructor) rfl
    repeat (refine stp rfl ?_ ?_;·repeat' constructor)
    refine pw_cond rfl (fun h => ?_) (fun h => ?_)
    · repeat (refine stp rfl ?_ ?_;·repeat' constructor)
      exact end2 rfl rfl rfl rfl rfl trivial trivial (by rw [if_neg hz])
    · exact absurd (by simpa using h) hz
theorem days_ret (w : SWork) (hw : Sane w) (s : List SSlot) : Ret Tryz.prog .shared 8 [.agg (eWork w), .sl (s.map eSlot)] (.tup [I (if planE w s = 0 then durP w (placed w s) else 0), I (planE w s)]) := by
  have h45 := plan_ret w hw s
  have hn := hw.items
  by_cases hz : planE w s = 0
  · obtain ⟨hv, hf⟩ := full_of (planE_zero hz).1
    rw [planR, if_pos hz] at h45
    refine Ret.of_pwp layOk mixed Go.Proofs.Tryz.func8 rfl (by decide) rfl rfl ?_
    repeat (refine stp rfl ?_ ?_;·repeat' constructor)
    apply qst;exact rfl;exact rfl;exact q_call rfl (h45) rfl (by repeat' constructor) rfl
    repeat (refine stp rfl ?_ ?_;·repeat' constructor)
    apply qst;exact rfl;exact rfl;exact q_callP rfl (duration_ret w (placed w s) hf.toPlan hn) rfl (by repeat' constructor) rfl rfl
    repeat (refine stp rfl ?_ ?_;·repeat' constructor)
    exact end2 rfl rfl rfl rfl rfl trivial trivial (by rw [if_pos hz, hz])
  · rw [planR, if_neg hz] at h45
    refine Ret.of_pwp layOk mixed Go.Proofs.Tryz.func8 rfl (by decide) rfl rfl ?_
    repeat (refine stp rfl ?_ ?_;·repeat' constructor)
    apply qst;exact rfl;exact rfl;exact q_call rfl (h45) rfl (by repeat' constructor) rfl
    repeat (refine stp rfl ?_ ?_;·repeat' constructor)
    refine pw_cond rfl (fun h => ?_) (fun h => ?_)
    · repeat (refine stp rfl ?_ ?_;·repeat' constructor)
      exact end2 rfl rfl rfl rfl rfl trivial trivial (by rw [if_neg hz])
    · exact absurd (by simpa using h) hz
end Go.Pv

/- The least days and the least work of an item. -/
set_option maxHeartbeats 2000000
namespace Go.Pv
attribute [local irreducible] PWP POps PQuiet PSem XThen XBlock RetPost InlPost
open Go.Proofs

def imin (a b : Int) : Int := if b < a then b else a
def leastF (a : Int) (m : SMode) : Int := imin a m.days
def workF (a : Int) (m : SMode) : Int := imin a (m.days * m.crew)
def leastP (x : SItem) : Int := x.modes.foldl leastF (modeAt x 0).days
def lwP (x : SItem) : Int := x.modes.foldl workF ((modeAt x 0).days * (modeAt x 0).crew)

theorem least_ret (x : SItem) (h1 : 1 ≤ x.modes.length) (h2 : x.modes.length ≤ 1000) (hm : ∀ m ∈ x.modes, (1 ≤ m.days ∧ m.days ≤ 60) ∧ 0 ≤ m.crew ∧ m.crew ≤ 1000) : Ret Tryz.prog .shared 87 [.agg (eItem x)] (.tup [I (leastP x), I (lwP x)]) := by
  have hm0 : x.modes[0]? = some (modeAt x 0) := by rw [modeAt]; show _ = some ((x.modes[0]?).getD _); rw [List.getElem?_eq_getElem (by omega)]; rfl
  refine Ret.of_pwp layOk mixed Go.Proofs.Tryz.func87 rfl (by decide) rfl rfl ?_
  repeat (refine stp rfl ?_ ?_;·repeat' constructor)
  refine pw_draw 18 [6, 7, 8, 9, 10, 11, 12, 13, 14, 15, 16, 17, 18, 19, 20, 21, 2, 3] (by decide +kernel) ?_
  repeat (refine stp rfl ?_ ?_;·repeat' constructor)
  apply qst;exact rfl;exact rfl;exact q_idxm (n := (((0:Nat):Int) : Int)) rfl rfl rfl rfl rfl (by omega) hm0 rfl
  repeat (refine stp rfl ?_ ?_;·repeat' constructor)
  apply qst;exact rfl;exact rfl;exact q_idxm (n := (((0:Nat):Int) : Int)) rfl rfl rfl rfl rfl (by omega) hm0 rfl
  repeat (refine stp rfl ?_ ?_;·repeat' constructor)
  apply qst;exact rfl;exact rfl;exact q_idxm (n := (((0:Nat):Int) : Int)) rfl rfl rfl rfl rfl (by omega) hm0 rfl
  repeat (refine stp rfl ?_ ?_;·repeat' constructor)
  have hml : (x.modes.map eMode).length = x.modes.length := by simp
  have hb0 := mul_bound (A := 60) (B := 1000) (by have := (hm _ (List.mem_of_getElem? hm0)).1; omega) (hm _ (List.mem_of_getElem? hm0)).1.2 (hm _ (List.mem_of_getElem? hm0)).2.1 (hm _ (List.mem_of_getElem? hm0)).2.2
  refine pw_loop (fun k => k ≤ x.modes.length) (fun k => [(1, .ptr 1 1 0 0), (2, I ((x.modes.take k).foldl leastF (modeAt x 0).days)), (3, I ((x.modes.take k).foldl workF ((modeAt x 0).days * (modeAt x 0).crew))), (23, .sl (x.modes.map eMode)), (24, I x.modes.length), (25, I k)])
    (fun k => [(1, 1, ⟨69, 7, [eItem x], 2⟩)]) (fun k => x.modes.length - k) 0 (Nat.zero_le _) ⟨rfl, rfl, ?_, rfl, ?_, rfl, rfl, trivial⟩ ?_
  · exact congrArg I (wrap_i64 (by omega) (by omega))
  · show I ((x.modes.map eMode).length) = _
    rw [hml]
  intro k s hk
  repeat (refine stp rfl ?_ ?_;·repeat' constructor)
  refine pw_cond rfl (fun h => ?_) (fun h => ?_)
  · have hlt : k < x.modes.length := by simpa using h
    obtain ⟨m, hmk⟩ := get_lt hlt
    clear h
    have hmm := hm m (List.mem_of_getElem? hmk)
    have hb := mul_bound (A := 60) (B := 1000) (by omega) hmm.1.2 hmm.2.1 hmm.2.2
    have hs := take_snoc hmk
    repeat (refine stp rfl ?_ ?_;·repeat' constructor)
    apply qst;exact rfl;exact rfl;exact q_idxm rfl rfl rfl rfl rfl (by omega) hmk rfl
    repeat (refine stp rfl ?_ ?_;·repeat' constructor)
    refine pw_ghost (Ghost.data (k := 5) (t := 5) (row := eMode m) rfl rfl rfl rfl) ?_
    refine pw_draw2 11 0 [29, 30, 31, 32, 33, 34, 35, 36, 37, 38, 39] [4,5,6,7,8,9,10] (by decide +kernel) rfl ?_
    repeat (refine stp rfl ?_ ?_;·repeat' constructor)
    refine ⟨k + 1, hlt, by omega, rfl, ?_, ?_, rfl, rfl, ?_, rfl, trivial⟩
    · rw [hs, List.foldl_append]; rfl
    · rw [hs, List.foldl_append]
      refine congrArg I ?_
      show (if IntKind.i64.wrap (m.days * m.crew) < _ then IntKind.i64.wrap (m.days * m.crew) else _) = workF _ m
      rw [wrap_i64 (by omega) (by omega)]; rfl
    · exact i64_next (by omega) (by omega)
  · have hge : k = x.modes.length := by have := of_decide_eq_false h; omega
    subst hge
    rw [List.take_length]
    repeat (refine stp rfl ?_ ?_;·repeat' constructor)
    exact end2 rfl rfl rfl rfl rfl trivial trivial rfl
end Go.Pv

/- The longest chains from each item. -/
set_option maxHeartbeats 2000000
namespace Go.Pv
attribute [local irreducible] PWP POps PQuiet PSem XThen XBlock RetPost InlPost RetPostO
open Go.Proofs

theorem flat_eI (l : List Int) : (l.map eI).all (·.all PV.flat1) = true := by
  induction l with
  | nil => rfl
  | cons a l ih => rw [List.map_cons, List.all_cons, ih]; rfl

theorem ordered_own (w : SWork) (h1 : w.items.length ≤ 100000) (h2 : ∀ x ∈ w.items, x.after.length ≤ 100000) : RetO Tryz.prog 78 [.agg (eWork w)] 3 1 ((ordS w).map eI) := by
  have hbl : (bef w).length = w.items.length := by simp [bef]
  have hbe : ∀ l ∈ bef w, l.length ≤ 1000000 := fun l hl => by
    obtain ⟨x, hx, rfl⟩ := List.mem_map.1 hl
    have := h2 x hx
    simp [aft]; omega
  have hml : ((bef w).map eL).length = w.items.length := by rw [List.length_map, hbl]
  refine RetO.of_pwp layOk mixed Go.Proofs.Tryz.func78 rfl (by decide) rfl rfl ?_
  repeat (refine stp rfl ?_ ?_;·repeat' constructor)
  apply qst;exact rfl;exact rfl;exact q_call rfl (before_ret w h1 h2) rfl (by repeat' constructor) rfl
  repeat (refine stp rfl ?_ ?_;·repeat' constructor)
  refine pw_ghost (Ghost.nilcell (k := 42) (k0 := 4) (i := 0) (j := 0) 3 1 0 rfl rfl rfl rfl (row := [.nil]) rfl rfl rfl) ?_
  refine pw_loop (fun out : List Int => out.length ≤ w.items.length ∧ ordS w = orderF ((bef w).length - out.length) (bef w) out) (fun _ => [(1, .ptr 1 1 0 0), (3, .sl ((bef w).map eL)), (4, .ptr 4 1 0 0)])
    (fun out => [(1, 1, ⟨28, 9, [eWork w], 2⟩), (4, 1, ⟨36, 1, [[.als 42 (1 + out.length) 0 (out.map eI).length]], 2⟩), (42, 1 + out.length, ⟨3, 1, out.map eI, 0⟩)]) (fun out => w.items.length - out.length) [] ⟨by simp, rfl⟩ ⟨rfl, rfl, rfl, rfl, rfl, rfl, trivial⟩ ?_
  rintro out s ⟨hol, hos⟩
  have hoe : (out.map eI).length = out.length := by simp
  repeat (refine stp rfl ?_ ?_;·repeat' constructor)
  refine pw_cond rfl (fun h => ?_) (fun h => ?_)
  · have hlt : out.length < w.items.length := by have := of_decide_eq_true h; omega
    clear h
    repeat (refine stp rfl ?_ ?_;·repeat' constructor)
    apply qst;exact rfl;exact rfl;exact q_callP rfl (indexFL_ret (bef w) 97 [.sl (out.map eI)] (readyB out) (by omega) (fun l hl => ord1_ret out (by omega) l (hbe l hl))) rfl (by repeat' constructor) rfl rfl
    repeat (refine stp rfl ?_ ?_;·repeat' constructor)
    refine pw_loop (fun nx : Int => NextAt (bef w) out nx) (fun nx => [(1, .ptr 1 1 0 0), (3, .sl ((bef w).map eL)), (4, .ptr 4 1 0 0), (5, I nx)])
      (fun _ => [(1, 1, ⟨28, 9, [eWork w], 2⟩), (4, 1, ⟨36, 1, [[.als 42 (1 + out.length) 0 (out.map eI).length]], 2⟩), (42, 1 + out.length, ⟨3, 1, out.map eI, 0⟩)]) (fun nx => if nx < 0 then 0 else ((bef w).length - nx).toNat + 1) _ (.start _ _) ⟨rfl, rfl, rfl, rfl, rfl, rfl, rfl, trivial⟩ ?_
    intro nx s' hnx
    have hb := hnx.lt
    repeat (refine stp rfl ?_ ?_;·repeat' constructor)
    (first | refine ps_split rfl rfl (fun h => ?_) (fun h => ?_) | refine pq_split rfl rfl (fun h => ?_) (fun h => ?_) | refine p3_split rfl rfl (fun h => ?_) (fun h => ?_))
    · have h0 := of_decide_eq_true h
      repeat (refine stp rfl ?_ ?_;·repeat' constructor)
      apply qst;exact rfl;exact rfl;exact q_callP rfl (containsI_ret out nx (by omega)) rfl (by repeat' constructor) rfl rfl
      repeat (refine stp rfl ?_ ?_;·repeat' constructor)
      refine pw_cond rfl (fun h => ?_) (fun h => ?_)
      · have hin := h
        clear h
        obtain ⟨i, rfl⟩ : ∃ i : Nat, nx = i := ⟨nx.toNat, by omega⟩
        have hw1 : IntKind.i64.wrap ((i : Int) + 1) = (i + 1 : Nat) := by rw [wrap_i64 (by omega) (by omega)]; omega
        have hst := hnx.step hin
        have hrl := (NextAt.start ((bef w).drop (i + 1)) out).lt
        rw [List.length_drop] at hrl
        repeat (refine stp rfl ?_ ?_;·repeat' constructor)
        rw [hw1]
        refine ps_q (q_slcm rfl rfl rfl rfl rfl (by omega) (by omega) (fun _ => rfl)) ?_
        rw [Int.toNat_natCast]
        repeat (refine stp rfl ?_ ?_;·repeat' constructor)
        apply qst;exact rfl;exact rfl;exact q_callP rfl (indexFL_ret ((bef w).drop (i + 1)) 99 [.sl (out.map eI)] (readyB out) (by rw [List.length_drop]; omega) (fun l hl => ord2_ret out (by omega) l (hbe l (List.mem_of_mem_drop hl)))) rfl (by repeat' constructor) rfl rfl
        repeat (refine stp rfl ?_ ?_;·repeat' constructor)
        refine pw_cond rfl (fun h => ?_) (fun h => ?_)
        · have hneg := of_decide_eq_true h
          rw [if_pos hneg] at hst
          repeat (refine stp rfl ?_ ?_;·repeat' constructor)
          refine ⟨-1, hst, by rw [if_pos (by omega), if_neg (by omega)]; omega, rfl, rfl, rfl, rfl, rfl, rfl, rfl, trivial⟩
        · have hneg := of_decide_eq_false h
          rw [if_neg hneg] at hst
          have hlt2 := hst.lt
          repeat (refine stp rfl ?_ ?_;·repeat' constructor)
          refine ⟨_, hst, by rw [if_neg (by omega), if_neg (by omega)]; omega, rfl, rfl, rfl, ?_, rfl, rfl, rfl, trivial⟩
          show PV.int .i64 (IntKind.i64.wrap (_ + IntKind.i64.wrap (1 + _))) = _
          rw [wrap_i64 (n := 1 + _) (by omega) (by omega), wrap_i64 (by omega) (by omega)]
      · have hnin := h
        clear h
        have hnext := hnx.done (.inr hnin)
        have hol2 : (out ++ [nx]).length = out.length + 1 := by simp
        have hoapp : (out ++ [nx]).map eI = out.map eI ++ [eI nx] := by rw [List.map_append]; rfl
        repeat (refine stp rfl ?_ ?_;·repeat' constructor)
        refine pw_cond rfl (fun h => ?_) (fun h => ?_)
        · have := of_decide_eq_true h; omega
        repeat (refine stp rfl ?_ ?_;·repeat' constructor)
        refine ps_run (o_slit 0 rfl rfl rfl rfl rfl rfl rfl rfl rfl rfl rfl (by repeat' constructor) rfl ?_)
        repeat (refine stp rfl ?_ ?_;·repeat' constructor)
        refine ps_run (o_app 0 rfl rfl rfl rfl rfl rfl rfl rfl rfl rfl rfl (by repeat' constructor) (by intro row hr; first | (simp at hr; subst hr; rfl) | simp at hr) rfl rfl (by simp; omega) (by simp; omega) ?_)
        repeat (refine stp rfl ?_ ?_;·repeat' constructor)
        refine ⟨out ++ [nx], ⟨by simp; omega, ?_⟩, by simp; omega, rfl, rfl, rfl, rfl, ?_, ?_, trivial⟩
        · rw [hos, show (bef w).length - out.length = ((bef w).length - (out ++ [nx]).length) + 1 by simp; omega, orderF, hnext, if_neg (by omega)]
        · show (1, some (Cont.mk 36 1 [[PV.als 42 (1 + out.length + 1) 0 (out.map eI ++ [eI nx]).length]] 2)) = _
          rw [hoapp, hol2]; rfl
        · show (1 + out.length + 1, some (Cont.mk 3 1 (out.map eI ++ [eI nx]) 0)) = _
          rw [hoapp, hol2]; rfl
    · have h0 := of_decide_eq_false h
      have hnext := hnx.done (.inl (by omega))
      repeat (refine stp rfl ?_ ?_;·repeat' constructor)
      refine pw_cond rfl (fun h => ?_) (fun h => ?_)
      · repeat (refine stp rfl ?_ ?_;·repeat' constructor)
        exact endO rfl rfl rfl rfl (flat_eI _) (by rw [hos, show (bef w).length - out.length = ((bef w).length - out.length - 1) + 1 by omega, orderF, hnext, if_pos (by omega)])
      · have := of_decide_eq_false h; omega
  · have hge : (bef w).length - out.length = 0 := by have := of_decide_eq_false h; omega
    repeat (refine stp rfl ?_ ?_;·repeat' constructor)
    exact endO rfl rfl rfl rfl (flat_eI _) (by rw [hos, hge]; rfl)
/-! ### A list turned round in place -/
/-- After 'i' swaps. -/
def RevAt (l : List Int) (q : Nat × List Int) : Prop :=
  q.2.length = l.length ∧ q.1 ≤ l.length ∧ ∀ p, p < l.length → q.2[p]? = if p < q.1 ∨ l.length < p + 1 + q.1 then l[l.length - 1 - p]? else l[p]?
theorem RevAt.zero (l : List Int) : RevAt l (0, l) := ⟨rfl, Nat.zero_le _, fun p hp => by rw [if_neg (by omega)]⟩
theorem RevAt.done {l r : List Int} {i : Nat} (h : RevAt l (i, r)) (hi : l.length ≤ 2 * i + 1) : r = l.reverse := by
  obtain ⟨h1, h2, h3⟩ := h
  apply List.ext_getElem?
  intro p
  rcases Nat.lt_or_ge p l.length with hp | hp
  · have := h3 p hp
    simp only at this
    rw [this, List.getElem?_reverse hp]
    split
    · rfl
    · congr 1; omega
  · rw [List.getElem?_eq_none (by simp only at h1; omega), List.getElem?_eq_none (by simp; omega)]
theorem RevAt.step {l r : List Int} {i : Nat} {x y : Int} (h : RevAt l (i, r)) (hi : 2 * i + 1 < l.length) (hx : r[i]? = some x) (hy : r[l.length - 1 - i]? = some y) : RevAt l (i + 1, (r.set i y).set (l.length - 1 - i) x) := by
  obtain ⟨h1, h2, h3⟩ := h
  simp only at h1 h2 h3
  refine ⟨by simpa using h1, by show i + 1 ≤ _; omega, fun p hp => ?_⟩
  show ((r.set i y).set (l.length - 1 - i) x)[p]? = if p < i + 1 ∨ l.length < p + 1 + (i + 1) then _ else _
  have ex := h3 i (by omega)
  have ey := h3 (l.length - 1 - i) (by omega)
  rw [hx, if_neg (by omega)] at ex
  rw [hy, if_neg (by omega)] at ey
  by_cases hp1 : p = l.length - 1 - i
  · subst hp1
    rw [List.getElem?_set_self (by simp; omega), if_pos (by omega), ex]
    congr 1; omega
  · rw [List.getElem?_set_ne (Ne.symm hp1)]
    by_cases hp2 : p = i
    · subst hp2
      rw [List.getElem?_set_self (by omega), if_pos (by omega), ey]
    · rw [List.getElem?_set_ne (Ne.symm hp2), h3 p hp]
      by_cases hc : p < i ∨ l.length < p + 1 + i
      · rw [if_pos hc, if_pos (by omega)]
      · rw [if_neg hc, if_neg (by omega)]

theorem inl_end0 {L : Lay} {fn : Func} {K : St → PV → Prop} {s : St} (h : fn.results.toList = []) (hk : K s (.tup [])) : InlPost L fn K .normal s := by
  unfold InlPost
  exact ⟨[], True, by rw [h]; rfl, trivial, hk⟩

set_option maxRecDepth 20000 in
theorem reverse18 {K : St → Prop} {s : St} {d : Nat} {x : Operand} {tys : Array TypeId} {ty : TypeId} {pos : String} {af : Array Edge} (w : SWork) (R : List (List PV)) (l : List Int) (hl : l.length ≤ 1000000) (hx : s.ev x = .als 18 1 0 (l.map eI).length) (ho : FitO s [(1, 1, ⟨28, 9, [eWork w], 2⟩), (16, 1, ⟨3, 1, R, 0⟩), (18, 1, ⟨3, 1, l.map eI, 0⟩)])
    (hK : ∀ s1 : St, K (({ reg := s.reg, own := (s1.over [] [(1, 1, ⟨28, 9, [eWork w], 2⟩), (16, 1, ⟨3, 1, R, 0⟩), (18, 1, ⟨3, 1, l.reverse.map eI, 0⟩)]).own } : St).putR d (.tup []))) :
    Sm Tryz.prog lay.get s ⟨some d, .call ⟨.value (.func 104), #[x], tys⟩, ty, pos, af, none⟩ K := by
  have hsub : ∀ (r : List Int), ((r.map eI).length : Int) = r.length := fun r => by simp
  refine sm_inline layOk rfl rfl Tryz.func104 rfl (by decide) rfl rfl ?_
  have hargs : (([x] : List Operand).map s.ev ++ ([] : List PV)) = [.als 18 1 0 (l.map eI).length] := by simp [hx]
  show PWP _ _ _ _ (callSt s (([x] : List Operand).map s.ev ++ []))
  rw [hargs]
  rw [show callSt s [.als 18 1 0 (l.map eI).length] = callSt (s.over [] [(1, 1, ⟨28, 9, [eWork w], 2⟩), (16, 1, ⟨3, 1, R, 0⟩), (18, 1, ⟨3, 1, l.map eI, 0⟩)]) [.als 18 1 0 (l.map eI).length] by rw [Fit.over (l := []) ho]]
  repeat (refine stp rfl ?_ ?_;·repeat' constructor)
  refine pw_loop (RevAt l) (fun q => [(0, .als 18 1 0 (l.map eI).length), (2, I q.1), (3, I ((l.length : Int) - 1 - q.1))]) (fun q => [(1, 1, ⟨28, 9, [eWork w], 2⟩), (16, 1, ⟨3, 1, R, 0⟩), (18, 1, ⟨3, 1, q.2.map eI, 0⟩)]) (fun q => l.length - q.1) (0, l) (.zero l) ⟨rfl, rfl, ?_, rfl, rfl, rfl, trivial⟩ ?_
  · show PV.int .i64 (IntKind.i64.wrap (((l.map eI).length : Int) - 1)) = _
    rw [wrap_i64 (by rw [hsub]; omega) (by rw [hsub]; omega), hsub]
    exact congrArg I (by simp)
  rintro ⟨i, r⟩ s1 hr
  have h1 : r.length = l.length := hr.1
  have h2 : i ≤ l.length := hr.2.1
  repeat (refine stp rfl ?_ ?_;·repeat' constructor)
  refine pw_cond rfl (fun h => ?_) (fun h => ?_)
  · have hlt : 2 * i + 1 < l.length := by have := of_decide_eq_true h; omega
    clear h
    obtain ⟨u, hu⟩ := get_lt (show i < r.length by omega)
    obtain ⟨v, hv⟩ := get_lt (show l.length - 1 - i < r.length by omega)
    have hj : ((l.length : Int) - 1 - i) = ((l.length - 1 - i : Nat) : Int) := by omega
    have hui : (r.map eI)[i]? = some (eI u) := by rw [List.getElem?_map, hu]; rfl
    have hvj : (r.map eI)[l.length - 1 - i]? = some (eI v) := by rw [List.getElem?_map, hv]; rfl
    have hll : (l.map eI).length = l.length := by simp
    repeat (refine stp rfl ?_ ?_;·repeat' constructor)
    refine pw_draw2 13 0 [14, 15, 16, 17, 18, 19, 20, 21, 22, 23, 24, 25, 26] [2,3] (by decide +kernel) rfl ?_
    repeat (refine stp rfl ?_ ?_;·repeat' constructor)
    rw [hj]
    refine pq_q (q_idxA rfl rfl rfl rfl rfl rfl rfl (by omega) (by rw [hll]; omega)) ?_
    rw [Int.toNat_natCast, Nat.zero_add (l.length - 1 - i)]
    refine pq_q (q_ldp rfl rfl rfl hvj rfl) ?_
    repeat (refine stp rfl ?_ ?_;·repeat' constructor)
    refine pq_q (q_idxA rfl rfl rfl rfl rfl rfl rfl (by omega) (by rw [hll]; omega)) ?_
    rw [Int.toNat_natCast, Nat.zero_add i]
    refine pq_q (q_ldp rfl rfl rfl hui rfl) ?_
    repeat (refine stp rfl ?_ ?_;·repeat' constructor)
    refine pq_q (q_idxA rfl rfl rfl rfl rfl rfl rfl (by omega) (by rw [hll]; omega)) ?_
    rw [Int.toNat_natCast, Nat.zero_add i]
    repeat (refine stp rfl ?_ ?_;·repeat' constructor)
    refine ps_run0 (o_store (kd' := 0) rfl rfl rfl hui rfl rfl (by repeat' constructor) rfl rfl rfl rfl ?_)
    refine ps_q (q_idxA rfl rfl rfl rfl rfl rfl rfl (by omega) (by rw [hll]; omega)) ?_
    rw [Int.toNat_natCast, Nat.zero_add (l.length - 1 - i)]
    refine ps_run0 (o_store (kd' := 0) rfl rfl rfl (row := eI v) (by
      show ((r.map eI).set i _)[l.length - 1 - i]? = _
      rw [List.getElem?_set_ne (by omega)]; exact hvj) rfl rfl (by repeat' constructor) rfl rfl rfl rfl ?_)
    repeat (refine stp rfl ?_ ?_;·repeat' constructor)
    refine ⟨(i + 1, (r.set i v).set (l.length - 1 - i) u), hr.step hlt hu hv, by show l.length - (i + 1) < l.length - i; omega, rfl, ?_, ?_, rfl, rfl, ?_, trivial⟩
    · exact i64_next (by omega) (by omega)
    · show PV.int .i64 (IntKind.i64.wrap (((l.length - 1 - i : Nat) : Int) - 1)) = _
      rw [wrap_i64 (by omega) (by omega)]
      exact congrArg I (by show ((l.length - 1 - i : Nat) : Int) - 1 = (l.length : Int) - 1 - ((i + 1 : Nat) : Int); omega)
    · refine Eq.trans (b := (1, some (Cont.mk 3 1 (((r.map eI).set i (eI v)).set (l.length - 1 - i) (eI u)) 0))) rfl ?_
      rw [← List.map_set, ← List.map_set]
  · have hd := hr.done (by have := of_decide_eq_false h; omega)
    subst hd
    repeat (refine stp rfl ?_ ?_;·repeat' constructor)
    exact inl_end0 rfl (hK s1)
end Go.Pv

/- From what a row says of its arguments to pure values, and back from a contract to what the row asks. -/
namespace Go.Pv
open Go.RowKit Go.ChangeShapes Go.WideShapes Go.ChangeAt

/-- Fields that lie one behind the other. -/
def contig (L : Lay) : List (Nat × TypeId) → Nat → Nat → Bool
  | [], o, tot => Nat.beq o tot
  | (off, T) :: fs, o, tot => match L T with | some r => Nat.beq off o && contig L fs (o + r.size) tot | none => false
/-- Types of plain data. -/
def plainT (L : Lay) : Nat → TypeId → Bool
  | 0, _ => false
  | n + 1, T => match L T with
    | some r => (match r.sh with
      | .bool | .int _ | .str => true
      | .sl e => (match L e with | some re => Nat.blt 0 re.size && plainT L n e | none => false)
      | .st fs => contig L fs 0 r.size && fs.all (fun f => plainT L n f.2)
      | _ => false)
    | none => false
/-- Pure cells of such a type. -/
def tyP (L : Lay) : Nat → TypeId → List PV → Prop
  | 0, _, _ => False
  | n + 1, T, cs => ∃ r, L T = some r ∧ (match r.sh with
    | .bool => ∃ b, cs = [.bool b]
    | .int k => ∃ m, cs = [.int k m]
    | .str => ∃ s, cs = [.str s]
    | .sl e => ∃ rows, cs = [.sl rows] ∧ ∀ row ∈ rows, tyP L n e row
    | .st fs => ∃ parts : List (List PV), cs = parts.flatten ∧ parts.length = fs.length ∧ ∀ (i : Nat) f p, fs[i]? = some f → parts[i]? = some p → tyP L n f.2 p
    | _ => False)

/-- Cells that read as pure ones. -/
def Reads (w : World) (pvs : List PV) (cs : List Value) : Prop :=
  pvs.length = cs.length ∧ ∀ (i : Nat) (c : PV) (v : Value), pvs[i]? = some c → cs[i]? = some v → DRep w (fun b => b < w.heap.size) c v ∧ v.oneCell' = true
theorem Reads.append {w : World} {p1 p2 : List PV} {c1 c2 : List Value} (h1 : Reads w p1 c1) (h2 : Reads w p2 c2) : Reads w (p1 ++ p2) (c1 ++ c2) := by
  refine ⟨by simp [h1.1, h2.1], fun i c v e1 e2 => ?_⟩
  rw [List.getElem?_append] at e1 e2
  split at e1
  · rename_i hlt
    rw [if_pos (by rw [← h1.1]; exact hlt)] at e2
    exact h1.2 i c v e1 e2
  · rename_i hlt
    rw [if_neg (by rw [← h1.1]; exact hlt), ← h1.1] at e2
    exact h2.2 _ c v e1 e2

section
variable {H : Type} {enc : TypeId × Value → H} {P : Program} {L : Lay} {w : World} {sp : Nat → Bool} {held : Bool}

theorem cellsOf_eq (hL : LOk P L) {T : TypeId} {r : LRow} (hr : L T = some r) : P.cellsOf T = r.size := by
  obtain ⟨i, d, hi, _, hs, _⟩ := LRow.spec (hL T r hr)
  simp [Program.cellsOf, hi, hs]

theorem contig_le : ∀ (fs : List (Nat × TypeId)) (o tot : Nat), contig L fs o tot = true → o ≤ tot
  | [], o, tot, h => by simp [contig] at h; omega
  | (off, T) :: fs, o, tot, h => by
    simp only [contig] at h
    split at h
    · rename_i r hr
      simp only [Bool.and_eq_true] at h
      have := contig_le fs _ _ h.2
      omega
    · cases h

theorem dec_fields (hL : LOk P L) {n : Nat} {cs : List Value}
    (IH : ∀ (T : TypeId) (cs : List Value) (fuel : Nat) x, plainT L n T = true → DataW.trod enc P w 0 sp held fuel T cs = some x → ∃ pvs, Reads w pvs cs ∧ tyP L n T pvs) :
    ∀ (fs : List (Nat × TypeId)) (o : Nat), contig L fs o cs.length = true → fs.all (fun f => plainT L n f.2) = true →
      (∀ f ∈ fs, ∃ m x, DataW.trod enc P w 0 sp held m f.2 ((cs.drop f.1).take (P.cellsOf f.2)) = some x) →
      ∃ parts : List (List PV), Reads w parts.flatten (cs.drop o) ∧ parts.length = fs.length ∧ ∀ (i : Nat) f p, fs[i]? = some f → parts[i]? = some p → tyP L n f.2 p
  | [], o, h, _, _ => by
    simp [contig] at h
    refine ⟨[], ⟨by simp [h], fun i c v e => by simp at e⟩, rfl, fun i f p e => by simp at e⟩
  | (off, T) :: fs, o, h, hall, hd => by
    simp only [contig] at h
    split at h
    · rename_i r hr
      simp only [Bool.and_eq_true, Nat.beq_eq] at h
      obtain ⟨rfl, h⟩ := h
      simp only [List.all_cons, Bool.and_eq_true] at hall
      have hle := contig_le fs _ _ h
      obtain ⟨m, x, hx⟩ := hd (off, T) (by simp)
      obtain ⟨pvs, hp1, hp2⟩ := IH T _ m x hall.1 hx
      obtain ⟨parts, g1, g2, g3⟩ := dec_fields hL IH fs (off + r.size) h hall.2 (fun f hf => hd f (by simp [hf]))
      rw [cellsOf_eq hL hr] at hp1
      refine ⟨pvs :: parts, ?_, by simp [g2], fun i f p e1 e2 => ?_⟩
      · have hsplit : cs.drop off = (cs.drop off).take r.size ++ cs.drop (off + r.size) := by rw [← List.drop_drop, List.take_append_drop]
        rw [hsplit, List.flatten_cons]
        exact hp1.append g1
      · cases i with
        | zero => simp at e1 e2; subst e1; subst e2; exact hp2
        | succ i => exact g3 i f p (by simpa using e1) (by simpa using e2)
    · cases h

theorem trod_dec (hL : LOk P L) : ∀ (n : Nat) (T : TypeId) (cs : List Value) (fuel : Nat) (x : DataW H × List MemPlace), plainT L n T = true → DataW.trod enc P w 0 sp held fuel T cs = some x → ∃ pvs, Reads w pvs cs ∧ tyP L n T pvs
  | 0, _, _, _, _, h, _ => by simp [plainT] at h
  | n + 1, T, cs, fuel, x, h, ht => by
    simp only [plainT] at h
    split at h
    · rename_i r hr
      have hfit := hL T r hr
      have one : ∀ {c : PV} {v : Value}, DRep w (fun b => b < w.heap.size) c v → v.oneCell' = true → Reads w [c] [v] := fun h1 h2 => ⟨rfl, fun i c v e1 e2 => by
        cases i with
        | zero => simp at e1 e2; subst e1; subst e2; exact ⟨h1, h2⟩
        | succ i => simp at e1⟩
      split at h
      · rename_i hs
        obtain ⟨b, rfl, _⟩ := DataW.trod_bool (und_bool hfit hs) ht
        exact ⟨[.bool b], one (.bool b) rfl, r, hr, by rw [hs]; exact ⟨b, rfl⟩⟩
      · rename_i k hs
        obtain ⟨m, rfl, _⟩ := DataW.trod_int (und_int hfit hs) ht
        exact ⟨[.int k m], one (.int k m) rfl, r, hr, by rw [hs]; exact ⟨m, rfl⟩⟩
      · rename_i hs
        obtain ⟨s, rfl, _⟩ := DataW.trod_string (und_str hfit hs) ht
        exact ⟨[.str s.data.toList], one (.str s.data.toList) rfl, r, hr, by rw [hs]; exact ⟨_, rfl⟩⟩
      · rename_i e hs
        split at h
        · rename_i re hre
          simp only [Bool.and_eq_true] at h
          have hsz : 0 < re.size := by simpa using h.1
          have hce := cellsOf_eq hL hre
          rcases DataW.trod_slice (und_sl hfit hs) ht with ⟨rfl, _⟩ | ⟨a, len, cap, elems, rest, m, rfl, rfl, _, _, hlc, hcm, hel, hat, _⟩
          · exact ⟨[.sl []], one (.sl0 none 0) rfl, r, hr, by rw [hs]; exact ⟨[], rfl, fun row hrow => by cases hrow⟩⟩
          · rw [hce] at hat
            have key : ∀ i, i < len → ∃ ecs, w.cells? 0 (a.add (i * re.size)) re.size = some ecs ∧ ∃ pvs, Reads w pvs ecs ∧ tyP L n e pvs := by
              intro i hi
              have h1 := hat i hi
              rw [List.getElem?_eq_getElem (by omega)] at h1
              obtain ⟨ecs, e1, e2⟩ := Option.bind_eq_some_iff.1 h1
              obtain ⟨pvs, g1, g2⟩ := trod_dec hL n e ecs m _ h.2 e2
              exact ⟨ecs, e1, pvs, g1, g2⟩
            by_cases h0 : len = 0
            · subst h0
              exact ⟨[.sl []], one (.sl0 _ _) rfl, r, hr, by rw [hs]; exact ⟨[], rfl, fun row hrow => by cases hrow⟩⟩
            · -- the address is that of a cell
              have cellAt : ∀ (i : Nat) ecs, w.cells? 0 (a.add (i * re.size)) re.size = some ecs → ecs.length = re.size ∧ ∀ j v, ecs[j]? = some v → w.cell? ((a.add (i * re.size)).add j) = some v := by
                intro i ecs he
                unfold World.cells? at he
                rw [if_pos (Nat.zero_le _)] at he
                refine ⟨by simpa using mapM_some_length he, fun j v hv => ?_⟩
                have hj : j < re.size := by have := mapM_some_length he; have := (List.getElem?_eq_some_iff.1 hv).1; simp at *; omega
                have := mapM_some_get he j j (by simp [hj])
                rw [hv] at this
                exact this
              obtain ⟨b, off, spot⟩ := a
              obtain ⟨ecs0, f1, pvs0, f2, _⟩ := key 0 (by omega)
              obtain ⟨f3, f4⟩ := cellAt 0 ecs0 f1
              have hc0 : ∃ v, w.cell? (((⟨b, off, spot⟩ : Addr).add (0 * re.size)).add 0) = some v := ⟨ecs0[0], f4 0 _ (List.getElem?_eq_getElem (by omega))⟩
              have hspot : spot = none := by
                obtain ⟨v, hv⟩ := hc0
                simpa [Addr.add] using World.cell?_spot hv
              subst hspot
              have hbl : b < w.heap.size := by
                obtain ⟨v, hv⟩ := hc0
                simp only [Nat.zero_mul, Addr.add_mk, Nat.add_zero] at hv
                rcases Nat.lt_or_ge b w.heap.size with hlt | hge
                · exact hlt
                · simp [World.cell?, Array.getElem?_eq_none hge] at hv
              have hch : ∀ i : Nat, ∃ p : List PV × List Value, i < len → w.cells? 0 ((⟨b, off, none⟩ : Addr).add (i * re.size)) re.size = some p.2 ∧ Reads w p.1 p.2 ∧ tyP L n e p.1 := by
                intro i
                by_cases hi : i < len
                · obtain ⟨ecs, e1, pvs, e2, e3⟩ := key i hi
                  exact ⟨(pvs, ecs), fun _ => ⟨e1, e2, e3⟩⟩
                · exact ⟨([], []), fun h => absurd h hi⟩
              let g : Nat → List PV × List Value := fun i => Classical.choose (hch i)
              have hg : ∀ i, i < len → w.cells? 0 ((⟨b, off, none⟩ : Addr).add (i * re.size)) re.size = some (g i).2 ∧ Reads w (g i).1 (g i).2 ∧ tyP L n e (g i).1 := fun i hi => Classical.choose_spec (hch i) hi
              have hrow : ∀ (i : Nat) (row : List PV), ((List.range len).map fun i => (g i).1)[i]? = some row → i < len ∧ row = (g i).1 := by
                intro i row hrow
                rw [List.getElem?_map] at hrow
                rcases Nat.lt_or_ge i len with hlt | hge
                · rw [List.getElem?_range hlt] at hrow
                  simp at hrow
                  exact ⟨hlt, hrow.symm⟩
                · rw [List.getElem?_eq_none (by simpa using hge)] at hrow
                  simp at hrow
              have hmem : ∀ row ∈ (List.range len).map fun i => (g i).1, ∃ i, i < len ∧ row = (g i).1 := by
                intro row hrow
                obtain ⟨i, hi, rfl⟩ := List.mem_map.1 hrow
                exact ⟨i, List.mem_range.1 hi, rfl⟩
              have hlen : ((List.range len).map fun i => (g i).1).length = len := by simp
              have hlen' : ∀ i, i < len → (g i).1.length = re.size := fun i hi => by
                rw [(hg i hi).2.1.1]; exact (cellAt i _ (hg i hi).1).1
              have hD : DRep w (fun b => b < w.heap.size) (.sl ((List.range len).map fun i => (g i).1)) (.slice (some ⟨b, off, none⟩) len cap) := by
                have := DRep.sl (w := w) (ok := fun b => b < w.heap.size) ((List.range len).map fun i => (g i).1) b off cap re.size (fun i j => ((g i).2[j]?).getD undef) hbl hsz (by rw [hlen]; exact hlc)
                  (fun row hr => by obtain ⟨i, hi, rfl⟩ := hmem row hr; exact hlen' i hi)
                  (fun i j row c e1 e2 => by
                    obtain ⟨hi, rfl⟩ := hrow i row e1
                    have hj : j < (g i).2.length := by rw [← (hg i hi).2.1.1]; exact (List.getElem?_eq_some_iff.1 e2).1
                    have hv : (g i).2[j]? = some (g i).2[j] := List.getElem?_eq_getElem hj
                    have := (cellAt i _ (hg i hi).1).2 j _ hv
                    rw [Addr.add_mk, Addr.add_mk] at this
                    rw [hv]
                    exact ⟨this, ((hg i hi).2.1.2 j c _ e2 hv).2⟩)
                  (fun i j row c e1 e2 => by
                    obtain ⟨hi, rfl⟩ := hrow i row e1
                    have hj : j < (g i).2.length := by rw [← (hg i hi).2.1.1]; exact (List.getElem?_eq_some_iff.1 e2).1
                    have hv : (g i).2[j]? = some (g i).2[j] := List.getElem?_eq_getElem hj
                    rw [hv]
                    exact ((hg i hi).2.1.2 j c _ e2 hv).1)
                rw [hlen] at this
                exact this
              exact ⟨[.sl ((List.range len).map fun i => (g i).1)], one hD rfl, r, hr, by
                rw [hs]
                exact ⟨_, rfl, fun row hr => by obtain ⟨i, hi, rfl⟩ := hmem row hr; exact (hg i hi).2.2⟩⟩
        · cases h
      · rename_i fs hs
        simp only [Bool.and_eq_true] at h
        obtain ⟨fs', hu, hm⟩ := und_st hfit hs
        obtain ⟨xs, m, _, _, hlen, hxl, hf⟩ := DataW.trod_struct hu ht
        rw [cellsOf_eq hL hr] at hlen
        obtain ⟨parts, g1, g2, g3⟩ := dec_fields hL (cs := cs) (fun T cs fuel x a b => trod_dec hL n T cs fuel x a b) fs 0 (by rw [hlen]; exact h.1) h.2 (fun f hf' => by
          rw [← hm] at hf'
          obtain ⟨fd, hfd, rfl⟩ := List.mem_map.1 hf'
          obtain ⟨i, hi, hie⟩ := List.getElem_of_mem hfd
          have hi' : i < fs'.size := by simpa using hi
          have h1 : fs'[i]? = some fd := by rw [Array.getElem?_eq_getElem hi']; simpa using hie
          have h2 := hf i fd h1
          rw [List.getElem?_eq_getElem (by omega)] at h2
          exact ⟨m, _, h2⟩)
        exact ⟨parts.flatten, by simpa using g1, r, hr, by rw [hs]; exact ⟨parts, rfl, g2, g3⟩⟩
      · cases h
    · cases h

/-- What an argument may be. -/
def argP (L : Lay) (T : TypeId) (c : PV) : Prop := match L T with
  | some r => bif r.sh.agg then ∃ cs, c = .agg cs ∧ tyP L 6 T cs else tyP L 6 T [c]
  | none => False

theorem arg_dec (hL : LOk P L) {base : Nat} {T : TypeId} {v : Value} {d : DataW H} {ps : List MemPlace} (hp : plainT L 6 T = true) (h : DataW.Trod enc P w 0 sp held T v d ps) (hok : Value.okWide P w .any base T v) : ∃ c, DRep w (fun b => b < w.heap.size) c v ∧ argP L T c := by
  obtain ⟨fuel, h⟩ := h
  obtain ⟨pvs, h1, h2⟩ := trod_dec hL 6 T _ fuel _ hp h
  have hp' := hp
  simp only [plainT] at hp
  split at hp
  · rename_i r hr
    have hfit := hL T r hr
    have leaf : r.sh.agg = false → (∃ c, pvs = [c]) → (v.cells.toList.length = 1 → v.cells = #[v]) → ∃ c, DRep w (fun b => b < w.heap.size) c v ∧ argP L T c := by
      rintro ha ⟨c, rfl⟩ hv
      have hc := hv (by rw [← h1.1]; rfl)
      have hd := h1.2 0 c v rfl (by rw [hc]; rfl)
      refine ⟨c, hd.1, ?_⟩
      unfold argP
      rw [hr]
      simp only [ha, cond_false]
      exact h2
    have nagg : (∀ cs, v ≠ .agg cs) → v.cells = #[v] := by
      intro h
      cases v <;> first | rfl | exact absurd rfl (h _)
    have hty : ∃ r', L T = some r' ∧ _ := h2
    obtain ⟨r', hr', hty⟩ := hty
    rw [hr] at hr'
    have hr' := Option.some.inj hr'
    subst hr'
    split at hp
    · rename_i hs
      rw [hs] at hty
      obtain ⟨b, rfl⟩ := hty
      obtain ⟨b', rfl⟩ : ∃ b', v = .bool b' := by
        have := okWide_bool (und_bool hfit hs) hok; exact this
      exact leaf (by rw [hs]; rfl) ⟨_, rfl⟩ (fun _ => rfl)
    · rename_i k hs
      rw [hs] at hty
      obtain ⟨m, rfl⟩ := hty
      obtain ⟨m', rfl⟩ := okWide_int (und_int hfit hs) hok
      exact leaf (by rw [hs]; rfl) ⟨_, rfl⟩ (fun _ => rfl)
    · rename_i hs
      rw [hs] at hty
      obtain ⟨s, rfl⟩ := hty
      obtain ⟨s', rfl⟩ := okWide_string (und_str hfit hs) hok
      exact leaf (by rw [hs]; rfl) ⟨_, rfl⟩ (fun _ => rfl)
    · rename_i e hs
      rw [hs] at hty
      obtain ⟨rows, rfl, _⟩ := hty
      obtain ⟨a, l, c, rfl⟩ := okWide_slice (und_sl hfit hs) hok
      exact leaf (by rw [hs]; rfl) ⟨_, rfl⟩ (fun _ => rfl)
    · rename_i fs hs
      obtain ⟨fs', hu, _⟩ := und_st hfit hs
      obtain ⟨cs, rfl, _⟩ := okWide_struct hu hok
      refine ⟨.agg pvs, ?_, ?_⟩
      · have := DRep.agg (w := w) (ok := fun b => b < w.heap.size) pvs cs.toList h1.1 (fun i c v e1 e2 => (h1.2 i c v e1 e2).1)
        simpa using this
      · unfold argP
        rw [hr]
        simp only [hs, Sh.agg, cond_true]
        exact ⟨pvs, rfl, h2⟩
    · cases hp
  · cases hp

theorem args_dec (hL : LOk P L) {base : Nat} : ∀ (ts : List TypeId) (vs : List Value) (ds : List (DataW H)) (ps : List MemPlace), ts.all (plainT L 6) = true → DataW.TrodAll enc P w 0 sp held ts vs ds ps →
    (∀ (j : Nat) t v, ts[j]? = some t → vs[j]? = some v → Value.okWide P w .any base t v) →
    ∃ pargs : List PV, pargs.length = vs.length ∧ ts.length = vs.length ∧ ds.length = vs.length ∧ (∀ (i : Nat) (c : PV) (v : Value), pargs[i]? = some c → vs[i]? = some v → DRep w (fun b => b < w.heap.size) c v) ∧ ∀ (i : Nat) t c, ts[i]? = some t → pargs[i]? = some c → argP L t c
  | [], vs, ds, ps, _, h, _ => by
    obtain ⟨rfl, rfl, _⟩ := trodAll_nil h
    exact ⟨[], rfl, rfl, rfl, fun i c v e => by simp at e, fun i t c e => by simp at e⟩
  | t :: ts, vs, ds, ps, hp, h, hok => by
    obtain ⟨v, vs', d, ds', p, q, rfl, rfl, rfl, h1, h2⟩ := trodAll_cons h
    simp only [List.all_cons, Bool.and_eq_true] at hp
    obtain ⟨c, g1, g2⟩ := arg_dec hL hp.1 h1 (hok 0 t v rfl rfl)
    obtain ⟨pargs, e1, e2, e3, e4, e5⟩ := args_dec hL ts vs' ds' q hp.2 h2 (fun j t v a b => hok (j + 1) t v (by simpa using a) (by simpa using b))
    refine ⟨c :: pargs, by simp [e1], by simp [e2], by simp [e3], fun i c' v' a b => ?_, fun i t' c' a b => ?_⟩
    · cases i with
      | zero => simp at a b; subst a; subst b; exact g1
      | succ i => exact e4 i c' v' (by simpa using a) (by simpa using b)
    · cases i with
      | zero => simp at a b; subst a; subst b; exact g2
      | succ i => exact e5 i t' c' (by simpa using a) (by simpa using b)

theorem trodAll_below (hl : laidOutB P = true) {W W' : World} (hb : Below W.heap.size W W') : ∀ (ts : List TypeId) (vs : List Value) (ds : List (DataW H)) (ps : List MemPlace), (∀ t ∈ ts, P.readableRec t = true ∧ t < P.types.size) →
    DataW.TrodAll enc P W 0 (fun _ => true) true ts vs ds ps → (∀ x ∈ ps, x.block < W.heap.size) → DataW.TrodAll enc P W' 0 (fun b => decide (b < W.heap.size)) true ts vs ds ps
  | [], vs, ds, ps, _, h, _ => by
    obtain ⟨rfl, rfl, rfl⟩ := trodAll_nil h
    exact trodAll_mk0
  | t :: ts, vs, ds, ps, hr, h, hlt => by
    obtain ⟨v, vs', d, ds', p, q, rfl, rfl, rfl, h1, h2⟩ := trodAll_cons h
    have ht := hr t (by simp)
    exact ⟨p, q, Below.trod hl ht.1 ht.2 h1 hb (fun x hx => hlt x (by simp [hx])), trodAll_below hl hb ts vs' ds' q (fun t ht => hr t (by simp [ht])) h2 (fun x hx => hlt x (by simp [hx])), rfl⟩

/-- A law's step: what its contract says is what its row asks. -/
theorem law_step (hL : LOk P L) (hl : laidOutB P = true) {f : FuncId} {fn : Func} {s : ChangeSpec} {ts : List TypeId} {T : TypeId} (hvars : s.vars = []) (hts : fn.params.toList = ts) (hplain : ts.all (plainT L 6) = true)
    (hread : ts.all (fun t => P.readableRec t && decide (t < P.types.size)) = true) (hres : fn.resultTypes = #[T]) (hT : P.underlying T = some .bool)
    (hspec : ∀ ds : List (DataW H), ds.length = ts.length → (s.fn H ds).results = [.lit (.bool true)] ∧ (s.fn H ds).args = ds ∧ (s.fn H ds).vars = [])
    (law : ∀ pargs : List PV, pargs.length = ts.length → (∀ (i : Nat) t c, ts[i]? = some t → pargs[i]? = some c → argP L t c) → Ret P .shared f pargs (.bool true))
    {W : World} {base : Nat} {args : Array Value} {ds gs : List (DataW H)} {before : List MemPlace} (hval : ∀ (j : Nat) t v, fn.params[j]? = some t → args[j]? = some v → Value.okWide P W .any base t v)
    (hW : DataW.Whole enc P fn.params.toList s.vars false W args.toList ds gs before) :
    Calls P f args W fun e W' => ∃ v, e = .returned v ∧ s.post enc P fn false true false false W args v W' := by
  have hW' := hW
  obtain ⟨p, q, hA, hV, hpq, hfz, hnd⟩ := hW
  rw [hvars] at hV
  obtain ⟨rfl, rfl⟩ := trodVars_none hV
  rw [hts] at hA
  obtain ⟨pargs, e1, e2, e3, e4, e5⟩ := args_dec hL (base := base) ts _ _ _ hplain hA (fun j t v a b => hval j t v (by rw [← hts] at a; simpa using a) (by simpa using b))
  have hret := law pargs (by omega) e5
  have hcall := hret.2 W (fun _ => False) args.toList (fun b hb => hb.elim) (by omega) (fun i c v a b => (e4 i c v a b).weaken fun b hb => ⟨hb, fun h => h⟩)
  have hargs : args.toList.toArray = args := by simp
  rw [hargs] at hcall
  refine hcall.mono ?_
  rintro e W' ⟨v, rfl, hb, hd⟩
  refine ⟨v, rfl, ?_⟩
  have hv : v = .bool true := by cases hd; rfl
  subst hv
  have hlt : ∀ x ∈ p, x.block < W.heap.size := fun x hx => by
    have := hW'.lt x (by rw [hpq]; simp [hx])
    simpa using this
  obtain ⟨s1, s2, s3⟩ := hspec ds (by omega)
  have hgs : ds ++ ([] : List (DataW H)) = ds := List.append_nil ds
  refine ⟨ds, [], before, [], p, [], hW', ?_, ?_, ?_, World.keptBut_mono (fun x hx => hx.elim) (hb.frame (fun _ => False)), fun h => by cases h⟩
  · rw [hgs, s1, hres]
    exact trodAll_mk1 (shut_bool hT true)
  · rw [hgs, s2, hts]
    exact trodAll_below hl hb ts _ _ _ (fun t ht => by
      have := List.all_eq_true.1 hread t ht
      simpa using this) hA hlt
  · rw [hgs, s3, hvars]
    exact rfl
end
end Go.Pv

/- What the laws' arguments are; plain work; orders by name. -/
set_option maxHeartbeats 2000000
namespace Go.Pv
attribute [local irreducible] PWP POps PQuiet PSem XThen XBlock RetPost InlPost
open Go.Proofs

section
variable {L : Lay} {n : Nat} {T : TypeId} {cs : List PV}
theorem tyP_sh {r : LRow} {sh : Sh} (hr : L T = some r) (hs : (L T).map (·.sh) = some sh) : r.sh = sh := by rw [hr] at hs; exact Option.some.inj hs
theorem tyP_int {k : IntKind} (h : tyP L (n + 1) T cs) (hs : (L T).map (·.sh) = some (.int k)) : ∃ m, cs = [.int k m] := by
  obtain ⟨r, hr, h⟩ := h
  rw [tyP_sh hr hs] at h; exact h
theorem tyP_bool (h : tyP L (n + 1) T cs) (hs : (L T).map (·.sh) = some .bool) : ∃ b, cs = [.bool b] := by
  obtain ⟨r, hr, h⟩ := h
  rw [tyP_sh hr hs] at h; exact h
theorem tyP_str (h : tyP L (n + 1) T cs) (hs : (L T).map (·.sh) = some .str) : ∃ s, cs = [.str s] := by
  obtain ⟨r, hr, h⟩ := h
  rw [tyP_sh hr hs] at h; exact h
theorem tyP_sl {e : TypeId} (h : tyP L (n + 1) T cs) (hs : (L T).map (·.sh) = some (.sl e)) : ∃ rows, cs = [.sl rows] ∧ ∀ row ∈ rows, tyP L n e row := by
  obtain ⟨r, hr, h⟩ := h
  rw [tyP_sh hr hs] at h; exact h
theorem tyP_st {fs : List (Nat × TypeId)} (h : tyP L (n + 1) T cs) (hs : (L T).map (·.sh) = some (.st fs)) : ∃ parts : List (List PV), cs = parts.flatten ∧ parts.length = fs.length ∧ ∀ (i : Nat) f p, fs[i]? = some f → parts[i]? = some p → tyP L n f.2 p := by
  obtain ⟨r, hr, h⟩ := h
  rw [tyP_sh hr hs] at h; exact h
end
theorem rows_map {α : Type} {f : α → List PV} : ∀ {rows : List (List PV)}, (∀ row ∈ rows, ∃ x, row = f x) → ∃ l : List α, rows = l.map f
  | [], _ => ⟨[], rfl⟩
  | row :: rows, h => by
    obtain ⟨x, rfl⟩ := h row (by simp)
    obtain ⟨l, rfl⟩ := rows_map (rows := rows) fun r hr => h r (by simp [hr])
    exact ⟨x :: l, rfl⟩

theorem dec_mode {cs : List PV} (h : tyP lay.get 2 87 cs) : ∃ m, cs = eMode m := by
  obtain ⟨parts, rfl, hl, hp⟩ := tyP_st h rfl
  match parts, hl, hp with
  | [p0, p1], _, hp =>
    obtain ⟨a, rfl⟩ := tyP_int (hp 0 _ p0 rfl rfl) rfl
    obtain ⟨b, rfl⟩ := tyP_int (hp 1 _ p1 rfl rfl) rfl
    exact ⟨⟨a, b⟩, rfl⟩
theorem dec_texts {n : Nat} {cs : List PV} (h : tyP lay.get (n + 2) 47 cs) : ∃ l : List Str, cs = [.sl (l.map eS)] := by
  obtain ⟨rows, rfl, hr⟩ := tyP_sl h rfl
  obtain ⟨l, rfl⟩ := rows_map (f := eS) fun row hrow => by
    obtain ⟨s, rfl⟩ := tyP_str (hr row hrow) rfl
    exact ⟨s, rfl⟩
  exact ⟨l, rfl⟩
theorem dec_item {cs : List PV} (h : tyP lay.get 4 69 cs) : ∃ x, cs = eItem x := by
  obtain ⟨parts, rfl, hl, hp⟩ := tyP_st h rfl
  match parts, hl, hp with
  | [p0, p1, p2, p3, p4, p5, p6], _, hp =>
    obtain ⟨a, rfl⟩ := tyP_str (hp 0 _ p0 rfl rfl) rfl
    obtain ⟨b, rfl⟩ := tyP_str (hp 1 _ p1 rfl rfl) rfl
    obtain ⟨rows, rfl, hr⟩ := tyP_sl (hp 2 _ p2 rfl rfl) rfl
    obtain ⟨ms, rfl⟩ := rows_map (f := eMode) fun row hrow => dec_mode (hr row hrow)
    obtain ⟨d, rfl⟩ := tyP_str (hp 3 _ p3 rfl rfl) rfl
    obtain ⟨e, rfl⟩ := tyP_int (hp 4 _ p4 rfl rfl) rfl
    obtain ⟨f, rfl⟩ := tyP_bool (hp 5 _ p5 rfl rfl) rfl
    obtain ⟨g, rfl⟩ := dec_texts (hp 6 _ p6 rfl rfl)
    exact ⟨⟨a, b, ms, d, e, f, g⟩, rfl⟩
theorem dec_trade {cs : List PV} (h : tyP lay.get 4 45 cs) : ∃ x, cs = eTrade x := by
  obtain ⟨parts, rfl, hl, hp⟩ := tyP_st h rfl
  match parts, hl, hp with
  | [p0, p1, p2], _, hp =>
    obtain ⟨a, rfl⟩ := tyP_str (hp 0 _ p0 rfl rfl) rfl
    obtain ⟨b, rfl⟩ := tyP_int (hp 1 _ p1 rfl rfl) rfl
    obtain ⟨c, rfl⟩ := tyP_int (hp 2 _ p2 rfl rfl) rfl
    exact ⟨⟨a, b, c⟩, rfl⟩
theorem dec_space {cs : List PV} (h : tyP lay.get 4 66 cs) : ∃ x, cs = eSpace x := by
  obtain ⟨parts, rfl, hl, hp⟩ := tyP_st h rfl
  match parts, hl, hp with
  | [p0, p1, p2], _, hp =>
    obtain ⟨a, rfl⟩ := tyP_str (hp 0 _ p0 rfl rfl) rfl
    obtain ⟨b, rfl⟩ := tyP_bool (hp 1 _ p1 rfl rfl) rfl
    obtain ⟨c, rfl⟩ := dec_texts (hp 2 _ p2 rfl rfl)
    exact ⟨⟨a, b, c⟩, rfl⟩
theorem dec_excl {cs : List PV} (h : tyP lay.get 4 118 cs) : ∃ x, cs = eExcl x := by
  obtain ⟨parts, rfl, hl, hp⟩ := tyP_st h rfl
  match parts, hl, hp with
  | [p0, p1, p2], _, hp =>
    obtain ⟨a, rfl⟩ := tyP_int (hp 0 _ p0 rfl rfl) rfl
    obtain ⟨b, rfl⟩ := tyP_int (hp 1 _ p1 rfl rfl) rfl
    obtain ⟨c, rfl⟩ := tyP_int (hp 2 _ p2 rfl rfl) rfl
    exact ⟨⟨a, b, c⟩, rfl⟩
theorem dec_out {cs : List PV} (h : tyP lay.get 4 120 cs) : ∃ x, cs = eOut x := by
  obtain ⟨parts, rfl, hl, hp⟩ := tyP_st h rfl
  match parts, hl, hp with
  | [p0, p1], _, hp =>
    obtain ⟨a, rfl⟩ := tyP_int (hp 0 _ p0 rfl rfl) rfl
    obtain ⟨b, rfl⟩ := tyP_int (hp 1 _ p1 rfl rfl) rfl
    exact ⟨⟨a, b⟩, rfl⟩
theorem dec_work {c : PV} (h : argP lay.get 28 c) : ∃ w, c = .agg (eWork w) := by
  obtain ⟨cs, rfl, h⟩ : ∃ cs, c = .agg cs ∧ tyP lay.get 6 28 cs := h
  obtain ⟨parts, rfl, hl, hp⟩ := tyP_st h rfl
  match parts, hl, hp with
  | [p0, p1, p2, p3, p4, p5, p6, p7, p8], _, hp =>
    obtain ⟨r0, rfl, h0⟩ := tyP_sl (hp 0 _ p0 rfl rfl) rfl
    obtain ⟨l0, rfl⟩ := rows_map (f := eItem) fun row hrow => dec_item (h0 row hrow)
    obtain ⟨r1, rfl, h1⟩ := tyP_sl (hp 1 _ p1 rfl rfl) rfl
    obtain ⟨l1, rfl⟩ := rows_map (f := eTrade) fun row hrow => dec_trade (h1 row hrow)
    obtain ⟨r2, rfl, h2⟩ := tyP_sl (hp 2 _ p2 rfl rfl) rfl
    obtain ⟨l2, rfl⟩ := rows_map (f := eSpace) fun row hrow => dec_space (h2 row hrow)
    obtain ⟨r3, rfl, h3⟩ := tyP_sl (hp 3 _ p3 rfl rfl) rfl
    obtain ⟨l3, rfl⟩ := rows_map (f := eExcl) fun row hrow => dec_excl (h3 row hrow)
    obtain ⟨r4, rfl, h4⟩ := tyP_sl (hp 4 _ p4 rfl rfl) rfl
    obtain ⟨l4, rfl⟩ := rows_map (f := eOut) fun row hrow => dec_out (h4 row hrow)
    obtain ⟨a, rfl⟩ := tyP_int (hp 5 _ p5 rfl rfl) rfl
    obtain ⟨b, rfl⟩ := tyP_int (hp 6 _ p6 rfl rfl) rfl
    obtain ⟨c, rfl⟩ := tyP_int (hp 7 _ p7 rfl rfl) rfl
    obtain ⟨d, rfl⟩ := tyP_int (hp 8 _ p8 rfl rfl) rfl
    exact ⟨⟨l0, l1, l2, l3, l4, a, b, c, d⟩, rfl⟩

theorem dec_slot {n : Nat} {cs : List PV} (h : tyP lay.get (n + 2) 59 cs) : ∃ x, cs = eSlot x := by
  obtain ⟨parts, rfl, hl, hp⟩ := tyP_st h rfl
  match parts, hl, hp with
  | [p0, p1, p2], _, hp =>
    obtain ⟨a, rfl⟩ := tyP_str (hp 0 _ p0 rfl rfl) rfl
    obtain ⟨b, rfl⟩ := tyP_int (hp 1 _ p1 rfl rfl) rfl
    obtain ⟨c, rfl⟩ := tyP_int (hp 2 _ p2 rfl rfl) rfl
    exact ⟨⟨a, b, c⟩, rfl⟩
theorem dec_slots {c : PV} (h : argP lay.get 29 c) : ∃ s : List SSlot, c = .sl (s.map eSlot) := by
  obtain ⟨rows, hr, h2⟩ := tyP_sl (show tyP lay.get 6 29 [c] from h) rfl
  cases hr
  obtain ⟨l, rfl⟩ := rows_map (f := eSlot) fun row hrow => dec_slot (h2 row hrow)
  exact ⟨l, rfl⟩
/-! ### Names in an order -/
theorem ord_len (f : Nat) (b : List (List Int)) (out : List Int) : (orderF f b out).length ≤ out.length + f := by
  induction f generalizing out with
  | zero => simp [orderF]
  | succ f ih =>
    unfold orderF
    split
    · omega
    · have := ih (out ++ [nextO b out])
      simp at this
      omega
theorem ordS_len (w : SWork) : (ordS w).length ≤ w.items.length := by
  have := ord_len (bef w).length (bef w) []
  simpa [ordS, bef] using this
/-! ### Two lists of texts -/
theorem texts2_ret (a b : List Str) (hw : a.length ≤ 1000000) : Ret Tryz.prog .shared 27 [.sl (a.map eS), .sl (b.map eS)] (.bool (decide (a = b))) := by
  refine Ret.of_pwp layOk mixed Go.Proofs.Tryz.func27 rfl (by decide) rfl rfl ?_
  repeat (refine stp rfl ?_ ?_;·repeat' constructor)
  refine pw_cond rfl (fun h => ?_) (fun h => ?_)
  · have hne : ¬ a = b := by rintro rfl; simp at h
    repeat (refine stp rfl ?_ ?_;·repeat' constructor)
    exact end1b rfl rfl (by rw [decide_eq_false hne])
  have hlen : a.length = b.length := by simp at h; omega
  clear h
  repeat (refine stp rfl ?_ ?_;·repeat' constructor)
  refine pw_loop (fun k => k ≤ a.length ∧ a.take k = b.take k) (fun k => [(0, .sl (a.map eS)), (1, .sl (b.map eS)), (5, I k)]) (fun _ => []) (fun k => a.length - k) 0 ⟨Nat.zero_le _, rfl⟩ ⟨rfl, rfl, rfl, trivial⟩ ?_
  rintro k s ⟨hk, hab⟩
  repeat (refine stp rfl ?_ ?_;·repeat' constructor)
  refine pw_cond rfl (fun h => ?_) (fun h => ?_)
  · have hlt : k < a.length := by simpa using h
    obtain ⟨x, hx⟩ := get_lt hlt
    obtain ⟨y, hy⟩ := get_lt (show k < b.length by omega)
    clear h
    repeat (refine stp rfl ?_ ?_;·repeat' constructor)
    refine pw_draw 9 [17, 18, 19, 20, 21, 22, 23, 24, 25] (by decide +kernel) ?_
    repeat (refine stp rfl ?_ ?_;·repeat' constructor)
    apply qst;exact rfl;exact rfl;exact q_idxm rfl rfl rfl rfl rfl (by omega) hx rfl
    repeat (refine stp rfl ?_ ?_;·repeat' constructor)
    apply qst;exact rfl;exact rfl;exact q_idxm rfl rfl rfl rfl rfl (by omega) hy rfl
    repeat (refine stp rfl ?_ ?_;·repeat' constructor)
    refine pw_cond rfl (fun h => ?_) (fun h => ?_)
    · have hne : ¬ a = b := by rintro rfl; rw [hx] at hy; cases hy; simp at h
      repeat (refine stp rfl ?_ ?_;·repeat' constructor)
      exact end1b rfl rfl (by rw [decide_eq_false hne])
    · have he : x = y := by simpa using h
      subst he
      repeat (refine stp rfl ?_ ?_;·repeat' constructor)
      refine ⟨k + 1, ⟨hlt, by rw [take_snoc hx, take_snoc hy, hab]⟩, by omega, rfl, rfl, ?_, trivial⟩
      exact i64_next (by omega) (by omega)
  · have hge : k = a.length := by simp at h; omega
    have he : a = b := by
      rw [hge, List.take_length, hlen, List.take_length] at hab
      exact hab
    repeat (refine stp rfl ?_ ?_;·repeat' constructor)
    exact end1b rfl rfl (by rw [decide_eq_true he])
end Go.Pv

/- The longest chains from each item: what the program reckons. -/
set_option maxHeartbeats 2000000
namespace Go.Pv
attribute [local irreducible] PWP POps PQuiet PSem XThen XBlock RetPost InlPost
open Go.Proofs

theorem fold_bound {α : Type} {f : Int → α → Int} {A B : Int} (hf : ∀ a m, A ≤ a → a ≤ B → A ≤ f a m ∧ f a m ≤ B) : ∀ (l : List α) (a : Int), A ≤ a → a ≤ B → A ≤ l.foldl f a ∧ l.foldl f a ≤ B
  | [], a, h1, h2 => ⟨h1, h2⟩
  | m :: l, a, h1, h2 => by
    have := hf a m h1 h2
    exact fold_bound hf l (f a m) this.1 this.2
theorem fold_bound' {α : Type} {f : Int → α → Int} {A B : Int} : ∀ (l : List α) (a : Int), (∀ a m, m ∈ l → A ≤ a → a ≤ B → A ≤ f a m ∧ f a m ≤ B) → A ≤ a → a ≤ B → A ≤ l.foldl f a ∧ l.foldl f a ≤ B
  | [], a, _, h1, h2 => ⟨h1, h2⟩
  | m :: l, a, hf, h1, h2 => by
    have := hf a m (by simp) h1 h2
    exact fold_bound' l (f a m) (fun a m' hm => hf a m' (by simp [hm])) this.1 this.2
theorem leastP_bound {w : SWork} {x : SItem} (h : ItemOk w x) : 1 ≤ leastP x ∧ leastP x ≤ 60 := by
  have hm0 : x.modes[0]? = some (modeAt x 0) := by rw [modeAt]; show _ = some ((x.modes[0]?).getD _); rw [List.getElem?_eq_getElem (by have := h.modes; omega)]; rfl
  have h0 := (h.mode _ (List.mem_of_getElem? hm0)).1
  refine fold_bound' x.modes _ (fun a m hm ha hb => ?_) h0.1 h0.2
  have := (h.mode m hm).1
  unfold leastF imin
  split <;> omega

def bestF (w : SWork) (out : List Int) (i : Int) (a : Int) (j : Nat) : Int := if ((bef w).getD j []).any (· == i) = true then imax a (out.getD j 0) else a
def bestC (w : SWork) (out : List Int) (i : Int) (n : Nat) : Int := (List.range n).foldl (bestF w out i) 0
def stepC (w : SWork) (out : List Int) (i : Int) : List Int := out.set i.toNat (leastP (itP w i) + bestC w out i w.items.length)
def chainK (w : SWork) (k : Nat) : List Int := ((ordS w).reverse.take k).foldl (stepC w) (List.replicate w.items.length 0)
def chainS (w : SWork) : List Int := (ordS w).reverse.foldl (stepC w) (List.replicate w.items.length 0)
theorem bestC_succ (w : SWork) (out : List Int) (i : Int) (n : Nat) : bestC w out i (n + 1) = bestF w out i (bestC w out i n) n := by rw [bestC, List.range_succ, List.foldl_append]; rfl
theorem bestC_bound {w : SWork} {out : List Int} {B : Int} (h : ∀ v ∈ out, 0 ≤ v ∧ v ≤ B) (hB : 0 ≤ B) (i : Int) (n : Nat) : 0 ≤ bestC w out i n ∧ bestC w out i n ≤ B := by
  refine fold_bound (fun a j ha hb => ?_) _ _ (Int.le_refl _) hB
  have hv : 0 ≤ out.getD j 0 ∧ out.getD j 0 ≤ B := by
    rw [List.getD_eq_getElem?_getD]
    cases hq : out[j]? with
    | none => exact ⟨Int.le_refl _, hB⟩
    | some v => exact h v (List.mem_of_getElem? hq)
  unfold bestF imax
  split
  · split <;> omega
  · omega
theorem chainK_ok {w : SWork} (hv : Well w) (k : Nat) (hk : k ≤ (ordS w).length) : (chainK w k).length = w.items.length ∧ ∀ v ∈ chainK w k, 0 ≤ v ∧ v ≤ 60 * k := by
  induction k with
  | zero => exact ⟨by simp [chainK], fun v hm => by simp [chainK] at hm; omega⟩
  | succ k ih =>
    obtain ⟨h1, h2⟩ := ih (by omega)
    obtain ⟨y, hy⟩ := get_lt (show k < (ordS w).reverse.length by simp; omega)
    have hs : chainK w (k + 1) = stepC w (chainK w k) y := by rw [chainK, take_snoc hy, List.foldl_append]; rfl
    obtain ⟨i, x, rfl, hx⟩ := (refOrd_eq hv.good).2 y (by simpa using List.mem_of_getElem? hy)
    rw [hs]
    have hb := bestC_bound (w := w) h2 (by omega) (i : Int) w.items.length
    have hl := leastP_bound (hv.item x (List.mem_of_getElem? hx))
    rw [← itP_at hx] at hl
    refine ⟨by simp [stepC, h1], fun v hm => ?_⟩
    rcases List.mem_or_eq_of_mem_set hm with hm | rfl
    · have := h2 v hm; omega
    · omega

set_option maxRecDepth 20000 in
theorem chainFrom_ret (w : SWork) (hw : Sane w) (hv : Well w) : Ret Tryz.prog .shared 86 [.agg (eWork w)] (.sl ((chainS w).map eI)) := by
  have h1 := hw.items
  have hn40 := hv.n40
  have hbl : ((bef w).map eL).length = w.items.length := by simp [bef]
  have hol := ordS_len w
  have hLl : ((ordS w).map eI).length = (ordS w).reverse.length := by simp
  refine Ret.of_pwp layOk mixed Go.Proofs.Tryz.func86 rfl (by decide) rfl rfl ?_
  repeat (refine stp rfl ?_ ?_;·repeat' constructor)
  apply qst;exact rfl;exact rfl;exact q_call rfl (before_ret w h1 hw.after) rfl (by repeat' constructor) rfl
  repeat (refine stp rfl ?_ ?_;·repeat' constructor)
  refine ps_run (o_make rfl rfl rfl rfl rfl rfl rfl rfl (by omega) (by rw [hbl]; show ((8 : Nat) : Int) * _ ≤ _; omega) (by rw [hbl]; omega) ?_)
  refine ps_v rfl trivial ?_
  refine ps_nil ?_
  refine x_norm ?_
  refine pw_seq ?_
  refine pw_regionS 1 ?_
  first | refine ps_v rfl trivial ?_ | refine ps_v rfl rfl ?_
  refine ps_nil ?_
  refine psem_sm rfl (sm_callO rfl (ordered_own w h1 hw.after) rfl (by repeat' constructor) rfl ?_)
  refine psem_ops ?_
  refine ps_v rfl trivial ?_
  refine ps_nil ?_
  refine x_norm ?_
  refine pw_seq ?_
  refine pw_regionS 1 ?_
  first | refine ps_v rfl trivial ?_ | refine ps_v rfl rfl ?_
  refine ps_nil ?_
  refine psem_sm rfl (reverse18 w (List.replicate w.items.length [I 0]) (ordS w) (by omega) rfl ⟨rfl, ?_, rfl, trivial⟩ (fun s1 => ?_))
  · show (1, some (Cont.mk 3 1 (List.replicate (Int.toNat ((bef w).map eL).length) _) 0)) = _
    rw [hbl]; rfl
  refine psem_ops ?_
  repeat (refine stp rfl ?_ ?_;·repeat' constructor)
  refine pw_loop (fun k => k ≤ (ordS w).reverse.length) (fun k => [(1, .ptr 1 1 0 0), (3, .sl ((bef w).map eL)), (4, .als 16 1 0 w.items.length), (21, .als 18 1 0 ((ordS w).map eI).length), (22, I ((ordS w).map eI).length), (23, I k)])
    (fun k => [(1, 1, ⟨28, 9, [eWork w], 2⟩), (16, 1, ⟨3, 1, (chainK w k).map eI, 0⟩), (18, 1, ⟨3, 1, (ordS w).reverse.map eI, 0⟩)]) (fun k => (ordS w).reverse.length - k) 0 (Nat.zero_le _) ⟨rfl, rfl, ?_, rfl, rfl, rfl, rfl, ?_, rfl, trivial⟩ ?_
  · show PV.als 16 1 0 (List.length (List.replicate (Int.toNat ((bef w).map eL).length) _)) = _
    rw [hbl]; simp
  · show (1, some (Cont.mk 3 1 (List.replicate w.items.length [I 0]) 0)) = _
    simp [chainK, eI]
  intro k s hk
  obtain ⟨hc1, hc2⟩ := chainK_ok hv k (by simpa using hk)
  have hrl : (ordS w).reverse.length = (ordS w).length := by simp
  repeat (refine stp rfl ?_ ?_;·repeat' constructor)
  refine pw_cond rfl (fun h => ?_) (fun h => ?_)
  · have hlt : k < (ordS w).reverse.length := by have := of_decide_eq_true h; omega
    clear h
    obtain ⟨y, hy⟩ := get_lt hlt
    obtain ⟨i, x, rfl, hx⟩ := (refOrd_eq hv.good).2 y (by simpa using List.mem_of_getElem? hy)
    have hil := (List.getElem?_eq_some_iff.1 hx).1
    have hyr : ((ordS w).reverse.map eI)[k]? = some (eI i) := by rw [List.getElem?_map, hy]; rfl
    have hio := hv.item x (List.mem_of_getElem? hx)
    have hlb := leastP_bound hio
    repeat (refine stp rfl ?_ ?_;·repeat' constructor)
    refine ps_q (q_idxA rfl rfl rfl rfl rfl rfl rfl (by omega) (by omega)) ?_
    rw [Int.toNat_natCast, Nat.zero_add k]
    refine ps_q (q_ldp rfl rfl rfl hyr rfl) ?_
    repeat (refine stp rfl ?_ ?_;·repeat' constructor)
    refine pw_loop (fun j => j ≤ w.items.length) (fun j => [(1, .ptr 1 1 0 0), (3, .sl ((bef w).map eL)), (4, .als 16 1 0 w.items.length), (7, I i), (8, I (bestC w (chainK w k) i j)), (21, .als 18 1 0 ((ordS w).map eI).length), (22, I ((ordS w).map eI).length), (23, I k), (28, I w.items.length), (29, I j)])
      (fun j => [(1, 1, ⟨28, 9, [eWork w], 2⟩), (16, 1, ⟨3, 1, (chainK w k).map eI, 0⟩), (18, 1, ⟨3, 1, (ordS w).reverse.map eI, 0⟩)]) (fun j => w.items.length - j) 0 (Nat.zero_le _) ⟨rfl, rfl, rfl, rfl, rfl, rfl, rfl, rfl, ?_, rfl, rfl, rfl, rfl, trivial⟩ ?_
    · show I (((bef w).map eL).length) = _
      rw [hbl]
    intro j s' hj
    have hbb := bestC_bound (w := w) hc2 (by omega) (i : Int) j
    repeat (refine stp rfl ?_ ?_;·repeat' constructor)
    refine pw_cond rfl (fun h => ?_) (fun h => ?_)
    · have hlt' : j < w.items.length := by simpa using h
      clear h
      obtain ⟨z, hz⟩ := get_lt hlt'
      obtain ⟨v, hvj⟩ := get_lt (show j < (chainK w k).length by omega)
      have hbz : (bef w)[j]? = some (aft w z) := by rw [bef, List.getElem?_map, hz]; rfl
      have haz := hw.after z (List.mem_of_getElem? hz)
      have hvr : ((chainK w k).map eI)[j]? = some (eI v) := by rw [List.getElem?_map, hvj]; rfl
      have hbf : ∀ a, bestF w (chainK w k) i a j = if (aft w z).any (· == (i : Int)) = true then imax a v else a := fun a => by rw [bestF, List.getD_eq_getElem?_getD, hbz, List.getD_eq_getElem?_getD, hvj]; rfl
      repeat (refine stp rfl ?_ ?_;·repeat' constructor)
      apply qst;exact rfl;exact rfl;exact q_idxm rfl rfl rfl rfl rfl (by omega) hbz rfl
      repeat (refine stp rfl ?_ ?_;·repeat' constructor)
      apply qst;exact rfl;exact rfl;exact q_callP rfl (containsI_ret (aft w z) i (by simp [aft]; omega)) rfl (by repeat' constructor) rfl rfl
      repeat (refine stp rfl ?_ ?_;·repeat' constructor)
      refine pw_cond rfl (fun h => ?_) (fun h => ?_)
      · have hin : (aft w z).any (· == (i : Int)) = true := h
        clear h
        repeat (refine stp rfl ?_ ?_;·repeat' constructor)
        refine ps_q (q_idxA rfl rfl rfl rfl rfl rfl rfl (by omega) (by omega)) ?_
        rw [Int.toNat_natCast, Nat.zero_add j]
        refine ps_q (q_ldp rfl rfl rfl hvr rfl) ?_
        repeat (refine stp rfl ?_ ?_;·repeat' constructor)
        refine ⟨j + 1, hlt', by omega, rfl, rfl, rfl, rfl, ?_, rfl, rfl, rfl, rfl, ?_, rfl, rfl, rfl, trivial⟩
        · rw [bestC_succ, hbf, if_pos hin]; rfl
        · exact i64_next (by omega) (by omega)
      · have hin : ¬ (aft w z).any (· == (i : Int)) = true := by rw [show (aft w z).any (· == (i : Int)) = false from h]; simp
        clear h
        repeat (refine stp rfl ?_ ?_;·repeat' constructor)
        refine ⟨j + 1, hlt', by omega, rfl, rfl, rfl, rfl, ?_, rfl, rfl, rfl, rfl, ?_, rfl, rfl, rfl, trivial⟩
        · rw [bestC_succ, hbf, if_neg hin]; rfl
        · exact i64_next (by omega) (by omega)
    · have hge : j = w.items.length := by have := of_decide_eq_false h; omega
      subst hge
      clear h
      have hrow : ∃ v0, ((chainK w k).map eI)[i]? = some (eI v0) := by
        obtain ⟨v0, hv0⟩ := get_lt (show i < (chainK w k).length by omega)
        exact ⟨v0, by rw [List.getElem?_map, hv0]; rfl⟩
      obtain ⟨v0, hrow⟩ := hrow
      have hs : chainK w (k + 1) = (chainK w k).set i (leastP x + bestC w (chainK w k) i w.items.length) := by
        rw [chainK, take_snoc hy, List.foldl_append]
        show stepC w (chainK w k) i = _
        rw [stepC, itP_at hx, Int.toNat_natCast]
      repeat (refine stp rfl ?_ ?_;·repeat' constructor)
      apply qst;exact rfl;exact rfl;exact q_idxm rfl rfl rfl rfl rfl (by omega) hx rfl
      repeat (refine stp rfl ?_ ?_;·repeat' constructor)
      apply qst;exact rfl;exact rfl;exact q_callP rfl (least_ret x hio.modes.1 (by have := hio.modes; omega) (fun m hm => by have := hio.mode m hm; exact ⟨this.1, this.2.1⟩)) rfl (by repeat' constructor) rfl rfl
      repeat (refine stp rfl ?_ ?_;·repeat' constructor)
      refine ps_q (q_idxA rfl rfl rfl rfl rfl rfl rfl (by omega) (by omega)) ?_
      rw [Int.toNat_natCast, Nat.zero_add i]
      refine ps_run0 (o_store (kd' := 0) rfl rfl rfl hrow rfl rfl (by repeat' constructor) rfl rfl rfl rfl ?_)
      repeat (refine stp rfl ?_ ?_;·repeat' constructor)
      refine ⟨k + 1, hlt, by omega, rfl, rfl, rfl, rfl, rfl, ?_, rfl, ?_, rfl, trivial⟩
      · exact i64_next (by omega) (by omega)
      · rw [hs, List.map_set]
        refine Eq.trans (b := (1, some (Cont.mk 3 1 (((chainK w k).map eI).set i [PV.int .i64 (IntKind.i64.wrap (leastP x + bestC w (chainK w k) i w.items.length))]) 0))) rfl ?_
        rw [wrap_i64 (by omega) (by omega)]; rfl
  · have hge : k = (ordS w).reverse.length := by have := of_decide_eq_false h; omega
    subst hge
    have hfin : chainK w (ordS w).reverse.length = chainS w := by rw [chainK, List.take_length, chainS]
    repeat (refine stp rfl ?_ ?_;·repeat' constructor)
    exact end1 rfl rfl rfl ⟨rfl, rfl, by rw [List.length_map, hc1]⟩ (by rw [hfin])
end Go.Pv

/- The example, and the bound of a trade. -/
set_option maxHeartbeats 2000000
namespace Go.Pv
attribute [local irreducible] PWP POps PQuiet PSem XThen XBlock RetPost InlPost
open Go.Proofs

/-- Nil slices, told as empty ones. -/
def dn : Nat → PV → PV
  | 0, c => c
  | _ + 1, .nil => .sl []
  | n + 1, .agg cs => .agg (cs.map (dn n))
  | n + 1, .sl rows => .sl (rows.map (·.map (dn n)))
  | _ + 1, c => c
theorem dn_drep {w : World} {ok : Nat → Prop} : ∀ (n : Nat) (c : PV) (v : Value), DRep w ok c v → DRep w ok (dn n c) v
  | 0, _, _, h => h
  | n + 1, c, v, h => by
    cases h with
    | nil => exact .sl0 none 0
    | agg cs vs hl hd =>
      refine .agg _ vs (by simp [hl]) fun i c v e1 e2 => ?_
      rw [List.getElem?_map] at e1
      cases hq : cs[i]? with
      | none => rw [hq] at e1; simp at e1
      | some c0 => rw [hq] at e1; simp at e1; subst e1; exact dn_drep n _ _ (hd i c0 v hq e2)
    | sl0 a cap => exact .sl0 a cap
    | sl rows b off cap sz vals hb hs hcap hrow hcell hd =>
      have at_ : ∀ (i j : Nat) (row : List PV) (c : PV), (rows.map (·.map (dn n)))[i]? = some row → row[j]? = some c → ∃ row0 c0, rows[i]? = some row0 ∧ row0[j]? = some c0 ∧ dn n c0 = c := fun i j row c e1 e2 => map_at e1 e2
      have := DRep.sl (w := w) (ok := ok) (rows.map (·.map (dn n))) b off cap sz vals hb hs (by simpa using hcap) (fun row hr => by
        obtain ⟨r0, h0, rfl⟩ := List.mem_map.1 hr
        simpa using hrow r0 h0) (fun i j row c e1 e2 => by
        obtain ⟨row0, c0, f1, f2, _⟩ := at_ i j row c e1 e2
        exact hcell i j row0 c0 f1 f2) (fun i j row c e1 e2 => by
        obtain ⟨row0, c0, f1, f2, rfl⟩ := at_ i j row c e1 e2
        exact dn_drep n _ _ (hd i j row0 c0 f1 f2))
      rwa [List.length_map] at this
    | bool b => exact .bool b
    | int k m => exact .int k m
    | str s => exact .str s
    | tup cs vs hl hd => exact .tup cs vs hl hd
    | dref cs j b off vals h1 h2 h3 => exact .dref cs j b off vals h1 h2 h3
    | clo f caps vs hl hd => exact .clo f caps vs hl hd
    | mapd rows b es h1 h2 h3 h4 h5 h6 h7 => exact .mapd rows b es h1 h2 h3 h4 h5 h6 h7
    | raw u =>
      show DRep w ok (.raw v) v
      exact .raw v
theorem Ret.dn {P : Program} {m : Mode} {f : FuncId} {args : List PV} {r : PV} (n : Nat) (h : Ret P m f args r) : Ret P m f args (Pv.dn n r) :=
  ⟨h.1, fun w X args h1 h2 h3 => (h.2 w X args h1 h2 h3).mono fun _ _ ⟨v, e1, e2, e3⟩ => ⟨v, e1, e2, dn_drep n _ _ e3⟩⟩

def itemA : SItem := ⟨[97], [119], [⟨2, 1⟩], [], -1, false, []⟩
def itemB : SItem := ⟨[98], [119], [⟨1, 2⟩], [], -1, false, []⟩
def tradeW : STrade := ⟨[119], 2, 100⟩
def pairW : SWork := ⟨[itemA, itemB], [tradeW], [], [], [], 10, 0, 0, 9⟩
def pairS : List SSlot := [⟨[97], 0, 0⟩, ⟨[98], 0, 2⟩]
theorem pair_sane : Sane pairW := by
  refine ⟨by decide, by decide, by decide, by decide, by decide, by decide, fun x hx => ?_⟩
  simp [pairW] at hx
  rcases hx with rfl | rfl <;> decide
theorem pair_ret : Ret Tryz.prog .shared 25 [] (.agg (eWork pairW)) := by
  have : Ret Tryz.prog .shared 25 [] (.agg [.sl [[.str [97], .str [119], .sl [[I 2, I 1]], .str [], I (-1), .bool false, .nil], [.str [98], .str [119], .sl [[I 1, I 2]], .str [], I (-1), .bool false, .nil]], .sl [[.str [119], I 2, I 100]], .nil, .nil, .nil, I 10, I 0, I 0, I 9]) := by
    refine Ret.of_pwp layOk mixed Go.Proofs.Tryz.func25 rfl (by decide) rfl rfl ?_
    repeat (refine stp rfl ?_ ?_;·repeat' constructor)
    apply qst;exact rfl;exact rfl;exact q_slit rfl rfl rfl rfl rfl rfl rfl rfl rfl rfl (by repeat' constructor) rfl
    repeat (refine stp rfl ?_ ?_;·repeat' constructor)
    apply qst;exact rfl;exact rfl;exact q_slit rfl rfl rfl rfl rfl rfl rfl rfl rfl rfl (by repeat' constructor) rfl
    repeat (refine stp rfl ?_ ?_;·repeat' constructor)
    apply qst;exact rfl;exact rfl;exact q_slit rfl rfl rfl rfl rfl rfl rfl rfl rfl rfl (by repeat' constructor) rfl
    repeat (refine stp rfl ?_ ?_;·repeat' constructor)
    apply qst;exact rfl;exact rfl;exact q_slit rfl rfl rfl rfl rfl rfl rfl rfl rfl rfl (by repeat' constructor) rfl
    repeat (refine stp rfl ?_ ?_;·repeat' constructor)
    exact endc rfl rfl rfl rfl (by repeat' constructor) rfl
  exact this.dn 6
theorem pair_work : workE pairW = 0 := by decide +kernel
theorem pair_cost : Ret Tryz.prog .shared 9 [.agg (eWork pairW), .sl (pairS.map eSlot)] (.tup [I 430, I 0]) := by
  have h := costF_ret pairW pair_sane pairS
  have h1 : planE pairW pairS = 0 := by decide +kernel
  have h2 : costP pairW (placed pairW pairS) = 430 := by decide +kernel
  rw [h1, if_pos rfl, h2] at h
  exact h

/-! ### The bound of a trade -/
def sumT (w : SWork) (t : STrade) (a : Int) (x : SItem) : Int := if x.trade = t.name then a + lwP x else a
def sumB (w : SWork) (t : STrade) : Int := w.items.foldl (sumT w t) 0
def tradeB (w : SWork) (t : STrade) : Int := if sumB w t = 0 then 0 else (sumB w t + t.crew - 1).tdiv t.crew
theorem lwP_bound {w : SWork} {x : SItem} (h : ItemOk w x) : 0 ≤ lwP x ∧ lwP x ≤ 60000 := by
  have hm0 : x.modes[0]? = some (modeAt x 0) := by rw [modeAt]; show _ = some ((x.modes[0]?).getD _); rw [List.getElem?_eq_getElem (by have := h.modes; omega)]; rfl
  have h0 := h.mode _ (List.mem_of_getElem? hm0)
  have hb := mul_bound (A := 60) (B := 1000) (by omega) h0.1.2 h0.2.1.1 h0.2.1.2
  refine fold_bound' x.modes _ (fun a m hm ha hb => ?_) hb.1 hb.2
  have h1 := h.mode m hm
  have h2 := mul_bound (A := 60) (B := 1000) (by omega) h1.1.2 h1.2.1.1 h1.2.1.2
  unfold workF imin
  split <;> omega
theorem sumK_bound {w : SWork} (hv : Well w) (t : STrade) (k : Nat) (hk : k ≤ w.items.length) : 0 ≤ (w.items.take k).foldl (sumT w t) 0 ∧ (w.items.take k).foldl (sumT w t) 0 ≤ 60000 * k := by
  induction k with
  | zero => simp
  | succ k ih =>
    have ih := ih (by omega)
    obtain ⟨x, hx⟩ := get_lt (show k < w.items.length by omega)
    have hl := lwP_bound (hv.item x (List.mem_of_getElem? hx))
    rw [take_snoc hx, List.foldl_append]
    generalize List.foldl (sumT w t) 0 (w.items.take k) = a at ih ⊢
    show 0 ≤ sumT w t a x ∧ sumT w t a x ≤ _
    unfold sumT
    split <;> omega
theorem tradeBound_ret (w : SWork) (hv : Well w) (t : STrade) (ht : 0 ≤ t.crew ∧ t.crew ≤ 1000) (hc : sumB w t ≠ 0 → t.crew ≠ 0) : Ret Tryz.prog .shared 58 [.agg (eWork w), .agg (eTrade t)] (I (tradeB w t)) := by
  have hn := hv.n40
  have hsb := sumK_bound hv t w.items.length (Nat.le_refl _)
  rw [List.take_length] at hsb
  replace hsb : 0 ≤ sumB w t ∧ sumB w t ≤ 60000 * w.items.length := hsb
  have hml : (w.items.map eItem).length = w.items.length := by simp
  refine Ret.of_pwp layOk mixed Go.Proofs.Tryz.func58 rfl (by decide) rfl rfl ?_
  repeat (refine stp rfl ?_ ?_;·repeat' constructor)
  refine pw_loop (fun k => k ≤ w.items.length) (fun k => [(2, .ptr 2 1 0 0), (3, .ptr 3 1 0 0), (5, I ((w.items.take k).foldl (sumT w t) 0)), (11, .sl (w.items.map eItem)), (12, I w.items.length), (13, I k)]) (fun _ => [(2, 1, ⟨28, 9, [eWork w], 2⟩), (3, 1, ⟨45, 3, [eTrade t], 2⟩)]) (fun k => w.items.length - k) 0 (Nat.zero_le _) ⟨rfl, rfl, rfl, rfl, ?_, rfl, rfl, rfl, trivial⟩ ?_
  · show I ((w.items.map eItem).length) = _
    rw [hml]
  intro k s hk
  repeat (refine stp rfl ?_ ?_;·repeat' constructor)
  refine pw_cond rfl (fun h => ?_) (fun h => ?_)
  · have hlt : k < w.items.length := by simpa using h
    obtain ⟨x, hx⟩ := get_lt hlt
    clear h
    have hio := hv.item x (List.mem_of_getElem? hx)
    have hb := sumK_bound hv t (k + 1) hlt
    have hs := take_snoc hx
    rw [hs, List.foldl_append] at hb
    replace hb : 0 ≤ sumT w t ((w.items.take k).foldl (sumT w t) 0) x ∧ sumT w t ((w.items.take k).foldl (sumT w t) 0) x ≤ _ := hb
    repeat (refine stp rfl ?_ ?_;·repeat' constructor)
    apply qst;exact rfl;exact rfl;exact q_idxm rfl rfl rfl rfl rfl (by omega) hx rfl
    repeat (refine stp rfl ?_ ?_;·repeat' constructor)
    refine pw_cond rfl (fun h => ?_) (fun h => ?_)
    · have he : x.trade = t.name := of_decide_eq_true h
      clear h
      have hst : ∀ a, sumT w t a x = a + lwP x := fun a => by rw [sumT, if_pos he]
      rw [hst] at hb
      repeat (refine stp rfl ?_ ?_;·repeat' constructor)
      apply qst;exact rfl;exact rfl;exact q_callP rfl (least_ret x hio.modes.1 (by have := hio.modes; omega) (fun m hm => by have := hio.mode m hm; exact ⟨this.1, this.2.1⟩)) rfl (by repeat' constructor) rfl rfl
      repeat (refine stp rfl ?_ ?_;·repeat' constructor)
      refine ⟨k + 1, hlt, by omega, rfl, rfl, ?_, rfl, rfl, ?_, rfl, rfl, trivial⟩
      · rw [hs, List.foldl_append]
        show PV.int .i64 (IntKind.i64.wrap ((w.items.take k).foldl (sumT w t) 0 + lwP x)) = I (sumT w t ((w.items.take k).foldl (sumT w t) 0) x)
        rw [wrap_i64 (by omega) (by omega), hst]
      · exact i64_next (by omega) (by omega)
    · have he : ¬ x.trade = t.name := of_decide_eq_false h
      clear h
      have hst : ∀ a, sumT w t a x = a := fun a => by rw [sumT, if_neg he]
      repeat (refine stp rfl ?_ ?_;·repeat' constructor)
      refine ⟨k + 1, hlt, by omega, rfl, rfl, ?_, rfl, rfl, ?_, rfl, rfl, trivial⟩
      · rw [hs, List.foldl_append]
        show _ = I (sumT w t ((w.items.take k).foldl (sumT w t) 0) x)
        rw [hst]; rfl
      · exact i64_next (by omega) (by omega)
  · have hge : k = w.items.length := by have := of_decide_eq_false h; omega
    subst hge
    rw [List.take_length]
    clear h
    repeat (refine stp rfl ?_ ?_;·repeat' constructor)
    refine pw_cond rfl (fun h => ?_) (fun h => ?_)
    · have hz : sumB w t = 0 := of_decide_eq_true h
      repeat (refine stp rfl ?_ ?_;·repeat' constructor)
      exact end1i rfl rfl (by rw [tradeB, if_pos hz])
    · have hz : ¬ sumB w t = 0 := of_decide_eq_false h
      have hc := hc hz
      repeat (refine stp rfl ?_ ?_;·repeat' constructor)
      refine ps_v rfl hc ?_
      repeat (refine stp rfl ?_ ?_;·repeat' constructor)
      refine end1i rfl rfl ?_
      rw [tradeB, if_neg hz]
      show PV.int .i64 (IntKind.i64.wrap ((IntKind.i64.wrap (IntKind.i64.wrap (sumB w t + t.crew) - 1)).tdiv t.crew)) = _
      rw [wrap_i64 (n := sumB w t + t.crew) (by omega) (by omega), wrap_i64 (n := sumB w t + t.crew - 1) (by omega) (by omega)]
      have h1 := Int.tdiv_nonneg (a := sumB w t + t.crew - 1) (b := t.crew) (by omega) ht.1
      have h2 : (sumB w t + t.crew - 1).tdiv t.crew ≤ sumB w t + t.crew - 1 := by
        rw [Int.tdiv_eq_ediv_of_nonneg (by omega)]
        exact Int.ediv_le_self _ (by omega)
      rw [wrap_i64 (by omega) (by omega)]
end Go.Pv
