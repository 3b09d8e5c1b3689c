/- Texts of one hand, gathered: SdA, SdB, SdC, SdD, SdE, SdF, SdG, SdH, SdI, SdJ, SdK, SdL, SdM, SdN, SdO, SdP, SdQ, SdR, SdS, SdT, SdU, SdW. -/
import Derived.Test.YtfnjhhndbgidmaaGreatDoorAs3
set_option linter.unusedSectionVars false
set_option linter.unusedSimpArgs false
set_option linter.unusedVariables false
set_option linter.unnecessarySimpa false
set_option maxHeartbeats 2000000
namespace Go.Pv
attribute [local irreducible] PWP POps PQuiet PSem XThen XBlock RetPost InlPost
open Go.Proofs
abbrev Str := List UInt8
structure SMode where
  days : Int
  crew : Int
  deriving DecidableEq
structure SItem where
  name : Str
  trade : Str
  modes : List SMode
  space : Str
  kind : Int
  crane : Bool
  after : List Str
  deriving DecidableEq
structure STrade where
  name : Str
  crew : Int
  rate : Int
structure SSpace where
  name : Str
  enclosed : Bool
  next : List Str
structure SExcl where
  a : Int
  b : Int
  reach : Int
structure SOut where
  frm : Int
  to : Int
structure SWork where
  items : List SItem
  trades : List STrade
  spaces : List SSpace
  excls : List SExcl
  outs : List SOut
  hire : Int
  due : Int
  late : Int
  last : Int
structure SSlot where
  item : Str
  mode : Int
  day : Int
abbrev I (n : Int) : PV := .int .i64 n
def eS (s : Str) : List PV := [.str s]
def eI (n : Int) : List PV := [I n]
def eMode (m : SMode) : List PV := [I m.days, I m.crew]
def eItem (x : SItem) : List PV := [.str x.name, .str x.trade, .sl (x.modes.map eMode), .str x.space, I x.kind, .bool x.crane, .sl (x.after.map eS)]
def eTrade (x : STrade) : List PV := [.str x.name, I x.crew, I x.rate]
def eSpace (x : SSpace) : List PV := [.str x.name, .bool x.enclosed, .sl (x.next.map eS)]
def eExcl (x : SExcl) : List PV := [I x.a, I x.b, I x.reach]
def eOut (x : SOut) : List PV := [I x.frm, I x.to]
def eSlot (x : SSlot) : List PV := [.str x.item, I x.mode, I x.day]
def eWork (w : SWork) : List PV := [.sl (w.items.map eItem), .sl (w.trades.map eTrade), .sl (w.spaces.map eSpace), .sl (w.excls.map eExcl), .sl (w.outs.map eOut), I w.hire, I w.due, I w.late, I w.last]
def idx {α : Type} (l : List α) (p : α → Bool) : Int := match l.findIdx? p with | some i => i | none => -1
theorem idx_found {α : Type} {l : List α} {p : α → Bool} {i : Nat} {a : α} (h : l[i]? = some a) (hp : p a = true) (hn : ∀ j b, j < i → l[j]? = some b → p b = false) : idx l p = i := by
  have : l.findIdx? p = some i := by
    rw [List.findIdx?_eq_some_iff_getElem]
    obtain ⟨hi, he⟩ := List.getElem?_eq_some_iff.1 h
    refine ⟨hi, by rw [he]; exact hp, fun j hj => ?_⟩
    have := hn j l[j] hj (List.getElem?_eq_getElem _)
    simp [this]
  simp [idx, this]
theorem idx_none {α : Type} {l : List α} {p : α → Bool} (hn : ∀ (j : Nat) b, l[j]? = some b → p b = false) : idx l p = -1 := by
  have : l.findIdx? p = none := by
    rw [List.findIdx?_eq_none_iff]
    intro x hx
    obtain ⟨j, hj, rfl⟩ := List.getElem_of_mem hx
    exact hn j _ (List.getElem?_eq_getElem hj)
  simp [idx, this]
def Clear {α : Type} (l : List α) (p : α → Bool) (k : Nat) : Prop := k ≤ l.length ∧ ∀ j b, j < k → l[j]? = some b → p b = false
theorem Clear.zero {α : Type} {l : List α} {p : α → Bool} : Clear l p 0 := ⟨Nat.zero_le _, fun j b h => by omega⟩
theorem Clear.succ {α : Type} {l : List α} {p : α → Bool} {k : Nat} {x : α} (h : Clear l p k) (hx : l[k]? = some x) (hp : p x = false) : Clear l p (k + 1) := by
  have := (List.getElem?_eq_some_iff.1 hx).1
  refine ⟨this, fun j b hj hb => ?_⟩
  rcases Nat.lt_or_ge j k with hlt | hge
  · exact h.2 j b hlt hb
  · have : j = k := by omega
    subst this; rw [hx] at hb; cases hb; exact hp
theorem Clear.found {α : Type} {l : List α} {p : α → Bool} {k : Nat} {x : α} (h : Clear l p k) (hx : l[k]? = some x) (hp : p x = true) : idx l p = k := idx_found hx hp h.2
theorem Clear.all {α : Type} {l : List α} {p : α → Bool} {k : Nat} (h : Clear l p k) (hk : ¬ k < l.length) : ∀ (j : Nat) b, l[j]? = some b → p b = false :=
  fun j b hb => h.2 j b (by have := (List.getElem?_eq_some_iff.1 hb).1; have := h.1; omega) hb
theorem Clear.none {α : Type} {l : List α} {p : α → Bool} {k : Nat} (h : Clear l p k) (hk : ¬ k < l.length) : idx l p = -1 := idx_none (h.all hk)
theorem Clear.any {α : Type} {l : List α} {p : α → Bool} {k : Nat} (h : Clear l p k) (hk : ¬ k < l.length) : l.any p = false := by
  rw [List.any_eq_false]
  intro x hx
  obtain ⟨j, hj, rfl⟩ := List.getElem_of_mem hx
  simp [h.all hk j _ (List.getElem?_eq_getElem hj)]
theorem any_of {α : Type} {l : List α} {p : α → Bool} {k : Nat} {x : α} (hx : l[k]? = some x) (hp : p x = true) : l.any p = true :=
  List.any_eq_true.2 ⟨x, List.mem_of_getElem? hx, hp⟩
theorem itemOf_ret (w : SWork) (n : Str) (hw : w.items.length ≤ 1000000) : Ret Tryz.prog .shared 34 [.agg (eWork w), .str n] (I (idx w.items (·.name == n))) := by
  refine Ret.of_pwp layOk mixed Go.Proofs.Tryz.func34 rfl (by decide) rfl rfl ?_
  repeat (refine stp rfl ?_ ?_;·repeat' constructor)
  refine pw_loop (Clear w.items (·.name == n)) (fun k => [(1, .str n), (2, .ptr 2 1 0 0), (5, I k)]) (fun _ => [(2, 1, ⟨28, 9, [eWork w], 2⟩)]) (fun k => w.items.length - k) 0 .zero ⟨rfl, rfl, rfl, rfl, trivial⟩ ?_
  intro k s hk
  repeat (refine stp rfl ?_ ?_;·repeat' constructor)
  refine pw_cond rfl (fun h => ?_) (fun h => ?_)
  · have hlt : k < w.items.length := by simpa using h
    obtain ⟨x, hx⟩ := get_lt hlt
    repeat (refine stp rfl ?_ ?_;·repeat' constructor)
    apply qst;exact rfl;exact rfl;exact q_idxm rfl rfl rfl rfl rfl (by omega) hx rfl
    repeat (refine stp rfl ?_ ?_;·repeat' constructor)
    refine pw_cond rfl (fun h => ?_) (fun h => ?_)
    · repeat (refine stp rfl ?_ ?_;·repeat' constructor)
      exact end1i rfl rfl (by rw [hk.found hx (by simpa using h)])
    · repeat (refine stp rfl ?_ ?_;·repeat' constructor)
      refine ⟨k + 1, hk.succ hx (by simpa using h), by omega, rfl, rfl, ?_, rfl, trivial⟩
      exact i64_next (by omega) (by omega)
  · repeat (refine stp rfl ?_ ?_;·repeat' constructor)
    exact end1i rfl rfl (by rw [hk.none (by simpa using h)])
end Go.Pv


set_option maxHeartbeats 2000000
namespace Go.Pv
attribute [local irreducible] PWP POps PQuiet PSem XThen XBlock RetPost InlPost
open Go.Proofs
theorem idx_nonneg {α : Type} (l : List α) (p : α → Bool) : decide (0 ≤ idx l p) = l.any p := by
  unfold idx
  cases h : l.findIdx? p with
  | none =>
    rw [List.findIdx?_eq_none_iff] at h
    have : l.any p = false := by rw [List.any_eq_false]; intro x hx; simp [h x hx]
    simp [this]
  | some i =>
    rw [List.findIdx?_eq_some_iff_getElem] at h
    obtain ⟨hi, h1, _⟩ := h
    have : l.any p = true := List.any_eq_true.2 ⟨l[i], by simp, h1⟩
    simp [this]
theorem idx_neg {α : Type} (l : List α) (p : α → Bool) : decide (idx l p < 0) = !l.any p := by
  rw [← idx_nonneg]
  by_cases h : 0 ≤ idx l p <;> simp [h] <;> omega
theorem idx_lt {α : Type} {l : List α} {p : α → Bool} (h : 0 ≤ idx l p) : ∃ x, l[(idx l p).toNat]? = some x ∧ p x = true := by
  unfold idx at *
  cases hf : l.findIdx? p with
  | none => rw [hf] at h; simp at h
  | some i =>
    rw [List.findIdx?_eq_some_iff_getElem] at hf
    obtain ⟨hi, h1, _⟩ := hf
    exact ⟨l[i], by simp [hi], h1⟩
theorem tradeOf_ret (w : SWork) (n : Str) (hw : w.trades.length ≤ 1000000) : Ret Tryz.prog .shared 71 [.agg (eWork w), .str n] (I (idx w.trades (·.name == n))) := by
  refine Ret.of_pwp layOk mixed Go.Proofs.Tryz.func71 rfl (by decide) rfl rfl ?_
  repeat (refine stp rfl ?_ ?_;·repeat' constructor)
  refine pw_loop (Clear w.trades (·.name == n)) (fun k => [(1, .str n), (2, .ptr 2 1 0 0), (5, I k)]) (fun _ => [(2, 1, ⟨28, 9, [eWork w], 2⟩)]) (fun k => w.trades.length - k) 0 .zero ⟨rfl, rfl, rfl, rfl, trivial⟩ ?_
  intro k s hk
  repeat (refine stp rfl ?_ ?_;·repeat' constructor)
  refine pw_cond rfl (fun h => ?_) (fun h => ?_)
  · have hlt : k < w.trades.length := by simpa using h
    obtain ⟨x, hx⟩ := get_lt hlt
    repeat (refine stp rfl ?_ ?_;·repeat' constructor)
    apply qst;exact rfl;exact rfl;exact q_idxm rfl rfl rfl rfl rfl (by omega) hx rfl
    repeat (refine stp rfl ?_ ?_;·repeat' constructor)
    refine pw_cond rfl (fun h => ?_) (fun h => ?_)
    · repeat (refine stp rfl ?_ ?_;·repeat' constructor)
      exact end1i rfl rfl (by rw [hk.found hx (by simpa using h)])
    · repeat (refine stp rfl ?_ ?_;·repeat' constructor)
      refine ⟨k + 1, hk.succ hx (by simpa using h), by omega, rfl, rfl, ?_, rfl, trivial⟩
      exact i64_next (by omega) (by omega)
  · repeat (refine stp rfl ?_ ?_;·repeat' constructor)
    exact end1i rfl rfl (by rw [hk.none (by simpa using h)])
theorem spaceOf_ret (w : SWork) (n : Str) (hw : w.spaces.length ≤ 1000000) : Ret Tryz.prog .shared 72 [.agg (eWork w), .str n] (I (idx w.spaces (·.name == n))) := by
  refine Ret.of_pwp layOk mixed Go.Proofs.Tryz.func72 rfl (by decide) rfl rfl ?_
  repeat (refine stp rfl ?_ ?_;·repeat' constructor)
  refine pw_loop (Clear w.spaces (·.name == n)) (fun k => [(1, .str n), (2, .ptr 2 1 0 0), (5, I k)]) (fun _ => [(2, 1, ⟨28, 9, [eWork w], 2⟩)]) (fun k => w.spaces.length - k) 0 .zero ⟨rfl, rfl, rfl, rfl, trivial⟩ ?_
  intro k s hk
  repeat (refine stp rfl ?_ ?_;·repeat' constructor)
  refine pw_cond rfl (fun h => ?_) (fun h => ?_)
  · have hlt : k < w.spaces.length := by simpa using h
    obtain ⟨x, hx⟩ := get_lt hlt
    repeat (refine stp rfl ?_ ?_;·repeat' constructor)
    apply qst;exact rfl;exact rfl;exact q_idxm rfl rfl rfl rfl rfl (by omega) hx rfl
    repeat (refine stp rfl ?_ ?_;·repeat' constructor)
    refine pw_cond rfl (fun h => ?_) (fun h => ?_)
    · repeat (refine stp rfl ?_ ?_;·repeat' constructor)
      exact end1i rfl rfl (by rw [hk.found hx (by simpa using h)])
    · repeat (refine stp rfl ?_ ?_;·repeat' constructor)
      refine ⟨k + 1, hk.succ hx (by simpa using h), by omega, rfl, rfl, ?_, rfl, trivial⟩
      exact i64_next (by omega) (by omega)
  · repeat (refine stp rfl ?_ ?_;·repeat' constructor)
    exact end1i rfl rfl (by rw [hk.none (by simpa using h)])
theorem among_ret (l : List Str) (n : Str) (hw : l.length ≤ 1000000) : Ret Tryz.prog .shared 73 [.sl (l.map eS), .str n] (.bool (l.any (· == n))) := by
  refine Ret.of_pwp layOk mixed Go.Proofs.Tryz.func73 rfl (by decide) rfl rfl ?_
  repeat (refine stp rfl ?_ ?_;·repeat' constructor)
  refine pw_loop (Clear l (· == n)) (fun k => [(0, .sl (l.map eS)), (1, .str n), (5, I k)]) (fun _ => []) (fun k => l.length - k) 0 .zero ⟨rfl, rfl, rfl, trivial⟩ ?_
  intro k s hk
  repeat (refine stp rfl ?_ ?_;·repeat' constructor)
  refine pw_cond rfl (fun h => ?_) (fun h => ?_)
  · have hlt : k < l.length := by simpa using h
    obtain ⟨x, hx⟩ := get_lt hlt
    repeat (refine stp rfl ?_ ?_;·repeat' constructor)
    apply qst;exact rfl;exact rfl;exact q_idxm rfl rfl rfl rfl rfl (by omega) hx rfl
    repeat (refine stp rfl ?_ ?_;·repeat' constructor)
    refine pw_cond rfl (fun h => ?_) (fun h => ?_)
    · repeat (refine stp rfl ?_ ?_;·repeat' constructor)
      exact end1b rfl rfl (by rw [any_of hx (by simpa using h)])
    · repeat (refine stp rfl ?_ ?_;·repeat' constructor)
      refine ⟨k + 1, hk.succ hx (by simpa using h), by omega, rfl, rfl, ?_, trivial⟩
      exact i64_next (by omega) (by omega)
  · repeat (refine stp rfl ?_ ?_;·repeat' constructor)
    exact end1b rfl rfl (by rw [hk.any (by simpa using h)])
theorem index_ret (l : List Str) (n : Str) (hw : l.length ≤ 1000000) : Ret Tryz.prog .shared 62 [.sl (l.map eS), .str n] (I (idx l (· == n))) := by
  refine Ret.of_pwp layOk mixed Go.Proofs.Tryz.func62 rfl (by decide) rfl rfl ?_
  repeat (refine stp rfl ?_ ?_;·repeat' constructor)
  refine pw_loop (Clear l (· == n)) (fun k => [(0, .sl (l.map eS)), (1, .str n), (7, I l.length), (8, I k)]) (fun _ => []) (fun k => l.length - k) 0 .zero ⟨rfl, rfl, ?_, rfl, trivial⟩ ?_
  · show I ((l.map eS).length) = _
    simp
  intro k s hk
  repeat (refine stp rfl ?_ ?_;·repeat' constructor)
  refine pw_cond rfl (fun h => ?_) (fun h => ?_)
  · have hlt : k < l.length := by simpa using h
    obtain ⟨x, hx⟩ := get_lt hlt
    repeat (refine stp rfl ?_ ?_;·repeat' constructor)
    apply qst;exact rfl;exact rfl;exact q_idxm rfl rfl rfl rfl rfl (by omega) hx rfl
    repeat (refine stp rfl ?_ ?_;·repeat' constructor)
    refine pw_cond rfl (fun h => ?_) (fun h => ?_)
    · repeat (refine stp rfl ?_ ?_;·repeat' constructor)
      exact end1i rfl rfl (by rw [hk.found hx (by have := of_decide_eq_true h; simp [this])])
    · repeat (refine stp rfl ?_ ?_;·repeat' constructor)
      refine ⟨k + 1, hk.succ hx (by have := of_decide_eq_false h; simp; exact fun e => this e.symm), by omega, rfl, rfl, rfl, ?_, trivial⟩
      exact i64_next (by omega) (by omega)
  · repeat (refine stp rfl ?_ ?_;·repeat' constructor)
    exact end1i rfl rfl (by rw [hk.none (by simpa using h)])
theorem contains_ret (l : List Str) (n : Str) (hw : l.length ≤ 1000000) : Ret Tryz.prog .shared 98 [.sl (l.map eS), .str n] (.bool (l.any (· == n))) := by
  refine Ret.of_pwp layOk mixed Go.Proofs.Tryz.func98 rfl (by decide) rfl rfl ?_
  repeat (refine stp rfl ?_ ?_;·repeat' constructor)
  apply qst;exact rfl;exact rfl;exact q_callP rfl (index_ret l n hw) rfl (by repeat' constructor) rfl rfl
  repeat (refine stp rfl ?_ ?_;·repeat' constructor)
  exact end1b rfl rfl (by rw [idx_nonneg])
def inside (n a b : Int) : Bool := decide (a ≤ n) && decide (n ≤ b)
theorem inside_ret (n a b : Int) : Ret Tryz.prog .shared 36 [I n, I a, I b] (.bool (inside n a b)) := by
  refine Ret.of_pwp layOk mixed Go.Proofs.Tryz.func36 rfl (by decide) rfl rfl ?_
  repeat (refine stp rfl ?_ ?_;·repeat' constructor)
  (first | refine ps_split rfl rfl (fun h => ?_) (fun h => ?_) | refine pq_split rfl rfl (fun h => ?_) (fun h => ?_) | refine p3_split rfl rfl (fun h => ?_) (fun h => ?_))
  · repeat (refine stp rfl ?_ ?_;·repeat' constructor)
    exact end1b rfl rfl (by simp [inside, of_decide_eq_true h])
  · repeat (refine stp rfl ?_ ?_;·repeat' constructor)
    exact end1b rfl rfl (by simp [inside, h])
theorem within_ret (n b : Int) : Ret Tryz.prog .shared 84 [I n, I b] (.bool (inside n 0 b)) := by
  refine Ret.of_pwp layOk mixed Go.Proofs.Tryz.func84 rfl (by decide) rfl rfl ?_
  repeat (refine stp rfl ?_ ?_;·repeat' constructor)
  (first | refine ps_split rfl rfl (fun h => ?_) (fun h => ?_) | refine pq_split rfl rfl (fun h => ?_) (fun h => ?_) | refine p3_split rfl rfl (fun h => ?_) (fun h => ?_))
  · repeat (refine stp rfl ?_ ?_;·repeat' constructor)
    exact end1b rfl rfl (by simp [inside, of_decide_eq_true h])
  · repeat (refine stp rfl ?_ ?_;·repeat' constructor)
    exact end1b rfl rfl (by simp [inside, h])
theorem texts_ret (l : List Str) (hw : l.length ≤ 1000000) : Ret Tryz.prog .shared 47 [.sl (l.map eS)] (.bool (!l.any fun s => decide (40 < s.length))) := by
  refine Ret.of_pwp layOk mixed Go.Proofs.Tryz.func47 rfl (by decide) rfl rfl ?_
  repeat (refine stp rfl ?_ ?_;·repeat' constructor)
  refine pw_loop (Clear l fun s => decide (40 < s.length)) (fun k => [(0, .sl (l.map eS)), (3, I k)]) (fun _ => []) (fun k => l.length - k) 0 .zero ⟨rfl, rfl, trivial⟩ ?_
  intro k s hk
  repeat (refine stp rfl ?_ ?_;·repeat' constructor)
  refine pw_cond rfl (fun h => ?_) (fun h => ?_)
  · have hlt : k < l.length := by simpa using h
    obtain ⟨x, hx⟩ := get_lt hlt
    repeat (refine stp rfl ?_ ?_;·repeat' constructor)
    apply qst;exact rfl;exact rfl;exact q_idxm rfl rfl rfl rfl rfl (by omega) hx rfl
    repeat (refine stp rfl ?_ ?_;·repeat' constructor)
    refine pw_cond rfl (fun h => ?_) (fun h => ?_)
    · repeat (refine stp rfl ?_ ?_;·repeat' constructor)
      exact end1b rfl rfl (by rw [any_of hx (by have := of_decide_eq_true h; simp; omega)]; rfl)
    · repeat (refine stp rfl ?_ ?_;·repeat' constructor)
      refine ⟨k + 1, hk.succ hx (by have := of_decide_eq_false h; simp; omega), by omega, rfl, ?_, trivial⟩
      exact i64_next (by omega) (by omega)
  · repeat (refine stp rfl ?_ ?_;·repeat' constructor)
    exact end1b rfl rfl (by rw [hk.any (by simpa using h)]; rfl)
theorem few_ret (l : List SSlot) : Ret Tryz.prog .shared 8 [.sl (l.map eSlot)] (.bool (decide (l.length ≤ 50) && !l.any fun s => decide (40 < s.item.length))) := by
  refine Ret.of_pwp layOk mixed Go.Proofs.Tryz.func8 rfl (by decide) rfl rfl ?_
  repeat (refine stp rfl ?_ ?_;·repeat' constructor)
  refine pw_loop (Clear l fun s => decide (40 < s.item.length)) (fun k => [(0, .sl (l.map eSlot)), (3, I k)]) (fun _ => []) (fun k => l.length - k) 0 .zero ⟨rfl, rfl, trivial⟩ ?_
  intro k s hk
  repeat (refine stp rfl ?_ ?_;·repeat' constructor)
  (first | refine ps_split rfl rfl (fun h => ?_) (fun h => ?_) | refine pq_split rfl rfl (fun h => ?_) (fun h => ?_) | refine p3_split rfl rfl (fun h => ?_) (fun h => ?_))
  · have hlt : k < l.length := by simpa using h
    obtain ⟨x, hx⟩ := get_lt hlt
    repeat (refine stp rfl ?_ ?_;·repeat' constructor)
    refine pw_cond rfl (fun h => ?_) (fun h => ?_)
    · have hle : l.length ≤ 50 := by have := of_decide_eq_true h; simp at this; omega
      repeat (refine stp rfl ?_ ?_;·repeat' constructor)
      apply qst;exact rfl;exact rfl;exact q_idxm rfl rfl rfl rfl rfl (by omega) hx rfl
      repeat (refine stp rfl ?_ ?_;·repeat' constructor)
      refine pw_cond rfl (fun h => ?_) (fun h => ?_)
      · repeat (refine stp rfl ?_ ?_;·repeat' constructor)
        exact end1b rfl rfl (by rw [any_of hx (by have := of_decide_eq_true h; simp; omega)]; simp)
      · repeat (refine stp rfl ?_ ?_;·repeat' constructor)
        refine ⟨k + 1, hk.succ hx (by have := of_decide_eq_false h; simp; omega), by omega, rfl, ?_, trivial⟩
        exact i64_next (by omega) (by omega)
    · repeat (refine stp rfl ?_ ?_;·repeat' constructor)
      have hgt : ¬ l.length ≤ 50 := by have := of_decide_eq_false h; simp at this; omega
      exact end1b rfl rfl (by simp [hgt]; omega)
  · repeat (refine stp rfl ?_ ?_;·repeat' constructor)
    exact end1b rfl rfl (by rw [hk.any (by simpa using h)]; simp; omega)
end Go.Pv


set_option maxHeartbeats 2000000
namespace Go.Pv
attribute [local irreducible] PWP POps PQuiet PSem XThen XBlock RetPost InlPost
open Go.Proofs
def fstE {α : Type} : List α → (Nat → α → Int) → Int
  | [], _ => 0
  | a :: l, f => if f 0 a = 0 then fstE l (fun i => f (i + 1)) else f 0 a
theorem fstE_found {α : Type} : ∀ {l : List α} {f : Nat → α → Int} {i : Nat} {a : α}, l[i]? = some a → f i a ≠ 0 → (∀ j b, j < i → l[j]? = some b → f j b = 0) → fstE l f = f i a
  | [], f, i, a, h, _, _ => by simp at h
  | b :: l, f, 0, a, h, he, _ => by
    simp at h; subst h
    simp [fstE, he]
  | b :: l, f, i + 1, a, h, he, hn => by
    have h0 := hn 0 b (by omega) rfl
    rw [fstE, if_pos h0]
    exact fstE_found (f := fun i => f (i + 1)) (by simpa using h) he fun j c hj hc => hn (j + 1) c (by omega) (by simpa using hc)
theorem fstE_none {α : Type} : ∀ {l : List α} {f : Nat → α → Int}, (∀ (j : Nat) b, l[j]? = some b → f j b = 0) → fstE l f = 0
  | [], f, _ => rfl
  | b :: l, f, hn => by
    rw [fstE, if_pos (hn 0 b rfl)]
    exact fstE_none fun j c hc => hn (j + 1) c (by simpa using hc)
theorem fstE_congr {α : Type} : ∀ {l : List α} {f g : Nat → α → Int}, (∀ (j : Nat) b, l[j]? = some b → (∀ i c, i < j → l[i]? = some c → f i c = 0) → f j b = g j b) → fstE l f = fstE l g
  | [], f, g, _ => rfl
  | b :: l, f, g, h => by
    have h0 := h 0 b rfl (fun i c hi => by omega)
    rw [fstE, fstE, h0]
    split
    · rename_i hz
      refine fstE_congr fun j c hc hn => h (j + 1) c (by simpa using hc) fun i d hi hd => ?_
      cases i with
      | zero => simp at hd; subst hd; rw [h0]; exact hz
      | succ i => exact hn i d (by omega) (by simpa using hd)
    · rfl
theorem fstE_zero {α : Type} : ∀ {l : List α} {f : Nat → α → Int}, fstE l f = 0 → ∀ (j : Nat) b, l[j]? = some b → f j b = 0
  | [], f, _, j, b, h => by simp at h
  | a :: l, f, h, j, b, hb => by
    rw [fstE] at h
    split at h
    · rename_i hz
      cases j with
      | zero => simp at hb; subst hb; exact hz
      | succ j => exact fstE_zero h j b (by simpa using hb)
    · contradiction
def ClearE {α : Type} (l : List α) (f : Nat → α → Int) (k : Nat) : Prop := k ≤ l.length ∧ ∀ j b, j < k → l[j]? = some b → f j b = 0
theorem ClearE.zero' {α : Type} {l : List α} {p : Nat → α → Int} : ClearE l p 0 := ⟨Nat.zero_le _, fun j b h => by omega⟩
theorem ClearE.succ {α : Type} {l : List α} {p : Nat → α → Int} {k : Nat} {x : α} (h : ClearE l p k) (hx : l[k]? = some x) (hp : p k x = 0) : ClearE l p (k + 1) := by
  have := (List.getElem?_eq_some_iff.1 hx).1
  refine ⟨this, fun j b hj hb => ?_⟩
  rcases Nat.lt_or_ge j k with hlt | hge
  · exact h.2 j b hlt hb
  · have : j = k := by omega
    subst this; rw [hx] at hb; cases hb; exact hp
theorem ClearE.found {α : Type} {l : List α} {p : Nat → α → Int} {k : Nat} {x : α} {e : Int} (h : ClearE l p k) (hx : l[k]? = some x) (hp : p k x = e) (he : e ≠ 0) : fstE l p = e := by
  subst hp; exact fstE_found hx he h.2
theorem ClearE.none {α : Type} {l : List α} {p : Nat → α → Int} {k : Nat} (h : ClearE l p k) (hk : ¬ k < l.length) : fstE l p = 0 :=
  fstE_none fun j b hb => h.2 j b (by have := (List.getElem?_eq_some_iff.1 hb).1; have := h.1; omega) hb
theorem take_snoc {α : Type} {l : List α} {k : Nat} {x : α} (hx : l[k]? = some x) : l.take (k + 1) = l.take k ++ [x] := by
  rw [List.take_add_one, hx]; rfl
def letter (c : UInt8) : Bool := (decide (97 ≤ (c.toNat : Int)) && decide ((c.toNat : Int) ≤ 122)) || (decide (65 ≤ (c.toNat : Int)) && decide ((c.toNat : Int) ≤ 90))
def badc (i : Nat) (c : UInt8) : Bool := !letter c && (decide ((i : Int) = 0) || (!decide ((c.toNat : Int) = 45) && (decide ((c.toNat : Int) < 48) || decide (57 < (c.toNat : Int)))))
def badE (i : Nat) (c : UInt8) : Int := if badc i c then 1 else 0
def isName (s : Str) : Bool := decide (1 ≤ s.length) && decide (s.length ≤ 12) && decide (fstE s badE = 0)
theorem isName_ret (l : Str) : Ret Tryz.prog .shared 127 [.str l] (.bool (isName l)) := by
  refine Ret.of_pwp layOk mixed Go.Proofs.Tryz.func127 rfl (by decide) rfl rfl ?_
  repeat' (first|(refine stp rfl ?_ ?_;·repeat' constructor)|refine ps_split rfl rfl (fun h => ?_) (fun h => ?_)|refine pq_split rfl rfl (fun h => ?_) (fun h => ?_)|refine p3_split rfl rfl (fun h => ?_) (fun h => ?_))
  · have := of_decide_eq_true h
    exact end1b rfl rfl (by simp [isName]; omega)
  have h1 := of_decide_eq_false h
  refine pw_cond rfl (fun h => ?_) (fun h => ?_)
  · have := of_decide_eq_true h
    repeat (refine stp rfl ?_ ?_;·repeat' constructor)
    exact end1b rfl rfl (by simp [isName]; omega)
  have h2 := of_decide_eq_false h
  repeat (refine stp rfl ?_ ?_;·repeat' constructor)
  refine pw_loop (ClearE l badE) (fun k => [(0, .str l), (15, I l.length), (16, I k)]) (fun _ => []) (fun k => l.length - k) 0 .zero' ⟨rfl, rfl, rfl, trivial⟩ ?_
  intro k s hk
  repeat (refine stp rfl ?_ ?_;·repeat' constructor)
  refine pw_cond rfl (fun h => ?_) (fun h => ?_)
  · have hlt : k < l.length := by simpa using h
    obtain ⟨x, hx⟩ := get_lt hlt
    have hget : l.getD k 0 = x := by rw [List.getD_eq_getElem?_getD, hx]; rfl
    repeat (refine stp rfl ?_ ?_;·repeat' constructor)
    refine ps_v rfl ⟨by omega, by omega⟩ ?_
    have hn : ((l.getD (Int.toNat (k : Int)) 0).toNat : Int) = x.toNat := by rw [Int.toNat_natCast, hget]
    rw [hn]
    have hkb : k < 12 := by omega
    clear h hn h1 h2
    refine ps_v rfl trivial ?_
    ((repeat (first | refine ps_nil ?_ | refine pq_nil ?_ | refine x_norm ?_ | refine pw_seq ?_)); refine pw_region ?_)
    refine ps_cut 100 [(0, .str l), (3, I k), (4, .int .u8 x.toNat), (5, .bool (letter x)), (15, I l.length), (16, I k)] [] ?_ ?_
    · repeat' (first|(refine stp rfl ?_ ?_;·repeat' constructor)|refine ps_split rfl rfl (fun h => ?_) (fun h => ?_)|refine pq_split rfl rfl (fun h => ?_) (fun h => ?_)|refine p3_split rfl rfl (fun h => ?_) (fun h => ?_))
      all_goals exact ⟨rfl, rfl, rfl, (congrArg PV.bool (by simp_all [letter] <;> omega)), rfl, rfl, trivial⟩
    intro s
    repeat' (first|(refine stp rfl ?_ ?_;·repeat' constructor)|refine ps_split rfl rfl (fun h => ?_) (fun h => ?_)|refine pq_split rfl rfl (fun h => ?_) (fun h => ?_)|refine p3_split rfl rfl (fun h => ?_) (fun h => ?_))
    all_goals try (refine pw_cond rfl (fun hc => ?_) (fun hc => ?_))
    all_goals repeat (refine stp rfl ?_ ?_;·repeat' constructor)
    all_goals first
      | (refine end1b rfl rfl ?_
         have hb : badE k x = 1 := by simp_all [badE, badc] <;> omega
         have := hk.found hx hb (by omega)
         simp [isName, this])
      | (refine ⟨k + 1, hk.succ hx (by simp_all [badE, badc] <;> omega), by omega, rfl, rfl, ?_, trivial⟩
         exact i64_next (by omega) (by omega))
  · repeat (refine stp rfl ?_ ?_;·repeat' constructor)
    exact end1b rfl rfl (by simp only [isName, hk.none (by simpa using h)]; simp; omega)
theorem isName_ref (l : Str) : Ret Tryz.prog .shared 33 [.str l] (.bool (isName l)) := by
  refine Ret.of_pwp layOk mixed Go.Proofs.Tryz.func33 rfl (by decide) rfl rfl ?_
  repeat' (first|(refine stp rfl ?_ ?_;·repeat' constructor)|refine ps_split rfl rfl (fun h => ?_) (fun h => ?_)|refine pq_split rfl rfl (fun h => ?_) (fun h => ?_)|refine p3_split rfl rfl (fun h => ?_) (fun h => ?_))
  · have := of_decide_eq_true h
    exact end1b rfl rfl (by simp [isName]; omega)
  have h1 := of_decide_eq_false h
  refine pw_cond rfl (fun h => ?_) (fun h => ?_)
  · have := of_decide_eq_true h
    repeat (refine stp rfl ?_ ?_;·repeat' constructor)
    exact end1b rfl rfl (by simp [isName]; omega)
  have h2 := of_decide_eq_false h
  repeat (refine stp rfl ?_ ?_;·repeat' constructor)
  refine pw_loop (ClearE l badE) (fun k => [(0, .str l), (3, I k)]) (fun _ => []) (fun k => l.length - k) 0 .zero' ⟨rfl, rfl, trivial⟩ ?_
  intro k s hk
  repeat (refine stp rfl ?_ ?_;·repeat' constructor)
  refine pw_cond rfl (fun h => ?_) (fun h => ?_)
  · have hlt : k < l.length := by simpa using h
    obtain ⟨x, hx⟩ := get_lt hlt
    have hget : l.getD k 0 = x := by rw [List.getD_eq_getElem?_getD, hx]; rfl
    repeat (refine stp rfl ?_ ?_;·repeat' constructor)
    refine ps_v rfl ⟨by omega, by omega⟩ ?_
    have hn : ((l.getD (Int.toNat (k : Int)) 0).toNat : Int) = x.toNat := by rw [Int.toNat_natCast, hget]
    rw [hn]
    have hkb : k < 12 := by omega
    clear h hn h1 h2
    refine ps_v rfl trivial ?_
    ((repeat (first | refine ps_nil ?_ | refine pq_nil ?_ | refine x_norm ?_ | refine pw_seq ?_)); refine pw_region ?_)
    refine ps_cut 100 [(0, .str l), (3, I k), (4, .int .u8 x.toNat), (5, .bool (letter x))] [] ?_ ?_
    · repeat' (first|(refine stp rfl ?_ ?_;·repeat' constructor)|refine ps_split rfl rfl (fun h => ?_) (fun h => ?_)|refine pq_split rfl rfl (fun h => ?_) (fun h => ?_)|refine p3_split rfl rfl (fun h => ?_) (fun h => ?_))
      all_goals exact ⟨rfl, rfl, rfl, (congrArg PV.bool (by simp_all [letter] <;> omega)), trivial⟩
    intro s
    repeat' (first|(refine stp rfl ?_ ?_;·repeat' constructor)|refine ps_split rfl rfl (fun h => ?_) (fun h => ?_)|refine pq_split rfl rfl (fun h => ?_) (fun h => ?_)|refine p3_split rfl rfl (fun h => ?_) (fun h => ?_))
    all_goals try (refine pw_cond rfl (fun hc => ?_) (fun hc => ?_))
    all_goals repeat (refine stp rfl ?_ ?_;·repeat' constructor)
    all_goals first
      | (refine end1b rfl rfl ?_
         have hb : badE k x = 1 := by simp_all [badE, badc] <;> omega
         have := hk.found hx hb (by omega)
         simp [isName, this])
      | (refine ⟨k + 1, hk.succ hx (by simp_all [badE, badc] <;> omega), by omega, rfl, ?_, trivial⟩
         exact i64_next (by omega) (by omega))
  · repeat (refine stp rfl ?_ ?_;·repeat' constructor)
    exact end1b rfl rfl (by simp only [isName, hk.none (by simpa using h)]; simp; omega)
end Go.Pv


set_option maxHeartbeats 2000000
namespace Go.Pv
attribute [local irreducible] PWP POps PQuiet PSem XThen XBlock RetPost InlPost
open Go.Proofs
theorem tradeName_ret (x : STrade) : Ret Tryz.prog .shared 129 [.agg (eTrade x)] (.str x.name) := by
  refine Ret.of_pwp layOk mixed Go.Proofs.Tryz.func129 rfl (by decide) rfl rfl ?_
  repeat (refine stp rfl ?_ ?_;·repeat' constructor)
  exact end1 rfl rfl rfl trivial rfl
theorem spaceName_ret (x : SSpace) : Ret Tryz.prog .shared 131 [.agg (eSpace x)] (.str x.name) := by
  refine Ret.of_pwp layOk mixed Go.Proofs.Tryz.func131 rfl (by decide) rfl rfl ?_
  repeat (refine stp rfl ?_ ?_;·repeat' constructor)
  exact end1 rfl rfl rfl trivial rfl
theorem itemName_ret (x : SItem) : Ret Tryz.prog .shared 104 [.agg (eItem x)] (.str x.name) := by
  refine Ret.of_pwp layOk mixed Go.Proofs.Tryz.func104 rfl (by decide) rfl rfl ?_
  repeat (refine stp rfl ?_ ?_;·repeat' constructor)
  exact end1 rfl rfl rfl trivial rfl
theorem namesT_ret (l : List STrade) (hw : l.length ≤ 1000000) : Ret Tryz.prog .shared 128 [.sl (l.map eTrade), .clo 129 []] (.sl ((l.map (·.name)).map eS)) := by
  have hrows : ∀ (k : Nat) x, l[k]? = some x → ((l.take (k + 1)).map (·.name)).map eS = ((l.take k).map (·.name)).map eS ++ [eS x.name] := fun k x hx => by rw [take_snoc hx, List.map_append, List.map_append]; rfl
  refine Ret.of_pwp layOk mixed Go.Proofs.Tryz.func128 rfl (by decide) rfl rfl ?_
  ((repeat (first | refine ps_nil ?_ | refine pq_nil ?_ | refine x_norm ?_ | refine pw_seq ?_)); refine pw_region ?_)
  refine ps_v rfl trivial ?_
  ((repeat (first | refine ps_nil ?_ | refine pq_nil ?_ | refine x_norm ?_ | refine pw_seq ?_)); refine pw_region ?_)
  (first | refine ps_run (o_nilm 9 1 0 rfl rfl ?_) | refine ps_run (o_nila 9 1 0 rfl rfl ?_))
  repeat (refine stp rfl ?_ ?_;·repeat' constructor)
  refine pw_loop (fun k => k ≤ l.length) (fun k => [(1, .clo 129 []), (5, .als 5 (k + 1) 0 (((l.take k).map (·.name)).map eS).length), (8, .sl (l.map eTrade)), (9, I l.length), (10, I k)]) (fun k => [(5, k + 1, ⟨9, 1, ((l.take k).map (·.name)).map eS, 0⟩)]) (fun k => l.length - k) 0 (Nat.zero_le _) ⟨rfl, rfl, rfl, ?_, rfl, rfl, trivial⟩ ?_
  · show I ((l.map eTrade).length) = _
    simp
  intro k s hk
  repeat (refine stp rfl ?_ ?_;·repeat' constructor)
  refine pw_cond rfl (fun h => ?_) (fun h => ?_)
  · have hlt : k < l.length := by simpa using h
    obtain ⟨x, hx⟩ := get_lt hlt
    repeat (refine stp rfl ?_ ?_;·repeat' constructor)
    apply qst;exact rfl;exact rfl;exact q_idxm rfl rfl rfl rfl rfl (by omega) hx rfl
    repeat (refine stp rfl ?_ ?_;·repeat' constructor)
    apply qst;exact rfl;exact rfl;exact q_callP rfl (tradeName_ret x) rfl (by repeat' constructor) rfl rfl
    repeat (refine stp rfl ?_ ?_;·repeat' constructor)
    refine ps_run (o_slit 0 rfl rfl rfl rfl rfl rfl rfl rfl rfl rfl rfl (by repeat' constructor) rfl ?_)
    repeat (refine stp rfl ?_ ?_;·repeat' constructor)
    refine ps_run (o_app 0 rfl rfl rfl rfl rfl rfl rfl rfl rfl rfl rfl (by repeat' constructor) (by intro row hr; first | (simp at hr; subst hr; rfl) | simp at hr) rfl rfl (by simp; omega) (by simp; omega) ?_)
    repeat (refine stp rfl ?_ ?_;·repeat' constructor)
    refine ⟨k + 1, hlt, by omega, rfl, ?_, rfl, rfl, ?_, ?_, trivial⟩
    · rw [hrows k x hx]; rfl
    · exact i64_next (by omega) (by omega)
    · rw [hrows k x hx]; rfl
  · have hge : k = l.length := by have := of_decide_eq_false h; omega
    repeat (refine stp rfl ?_ ?_;·repeat' constructor)
    exact end1 rfl rfl rfl ⟨rfl, rfl, rfl⟩ (by rw [hge, List.take_length])
theorem namesS_ret (l : List SSpace) (hw : l.length ≤ 1000000) : Ret Tryz.prog .shared 130 [.sl (l.map eSpace), .clo 131 []] (.sl ((l.map (·.name)).map eS)) := by
  have hrows : ∀ (k : Nat) x, l[k]? = some x → ((l.take (k + 1)).map (·.name)).map eS = ((l.take k).map (·.name)).map eS ++ [eS x.name] := fun k x hx => by rw [take_snoc hx, List.map_append, List.map_append]; rfl
  refine Ret.of_pwp layOk mixed Go.Proofs.Tryz.func130 rfl (by decide) rfl rfl ?_
  ((repeat (first | refine ps_nil ?_ | refine pq_nil ?_ | refine x_norm ?_ | refine pw_seq ?_)); refine pw_region ?_)
  refine ps_v rfl trivial ?_
  ((repeat (first | refine ps_nil ?_ | refine pq_nil ?_ | refine x_norm ?_ | refine pw_seq ?_)); refine pw_region ?_)
  (first | refine ps_run (o_nilm 9 1 0 rfl rfl ?_) | refine ps_run (o_nila 9 1 0 rfl rfl ?_))
  repeat (refine stp rfl ?_ ?_;·repeat' constructor)
  refine pw_loop (fun k => k ≤ l.length) (fun k => [(1, .clo 131 []), (5, .als 5 (k + 1) 0 (((l.take k).map (·.name)).map eS).length), (8, .sl (l.map eSpace)), (9, I l.length), (10, I k)]) (fun k => [(5, k + 1, ⟨9, 1, ((l.take k).map (·.name)).map eS, 0⟩)]) (fun k => l.length - k) 0 (Nat.zero_le _) ⟨rfl, rfl, rfl, ?_, rfl, rfl, trivial⟩ ?_
  · show I ((l.map eSpace).length) = _
    simp
  intro k s hk
  repeat (refine stp rfl ?_ ?_;·repeat' constructor)
  refine pw_cond rfl (fun h => ?_) (fun h => ?_)
  · have hlt : k < l.length := by simpa using h
    obtain ⟨x, hx⟩ := get_lt hlt
    repeat (refine stp rfl ?_ ?_;·repeat' constructor)
    apply qst;exact rfl;exact rfl;exact q_idxm rfl rfl rfl rfl rfl (by omega) hx rfl
    repeat (refine stp rfl ?_ ?_;·repeat' constructor)
    apply qst;exact rfl;exact rfl;exact q_callP rfl (spaceName_ret x) rfl (by repeat' constructor) rfl rfl
    repeat (refine stp rfl ?_ ?_;·repeat' constructor)
    refine ps_run (o_slit 0 rfl rfl rfl rfl rfl rfl rfl rfl rfl rfl rfl (by repeat' constructor) rfl ?_)
    repeat (refine stp rfl ?_ ?_;·repeat' constructor)
    refine ps_run (o_app 0 rfl rfl rfl rfl rfl rfl rfl rfl rfl rfl rfl (by repeat' constructor) (by intro row hr; first | (simp at hr; subst hr; rfl) | simp at hr) rfl rfl (by simp; omega) (by simp; omega) ?_)
    repeat (refine stp rfl ?_ ?_;·repeat' constructor)
    refine ⟨k + 1, hlt, by omega, rfl, ?_, rfl, rfl, ?_, ?_, trivial⟩
    · rw [hrows k x hx]; rfl
    · exact i64_next (by omega) (by omega)
    · rw [hrows k x hx]; rfl
  · have hge : k = l.length := by have := of_decide_eq_false h; omega
    repeat (refine stp rfl ?_ ?_;·repeat' constructor)
    exact end1 rfl rfl rfl ⟨rfl, rfl, rfl⟩ (by rw [hge, List.take_length])
theorem namesI_ret (l : List SItem) (hw : l.length ≤ 1000000) : Ret Tryz.prog .shared 103 [.sl (l.map eItem), .clo 104 []] (.sl ((l.map (·.name)).map eS)) := by
  have hrows : ∀ (k : Nat) x, l[k]? = some x → ((l.take (k + 1)).map (·.name)).map eS = ((l.take k).map (·.name)).map eS ++ [eS x.name] := fun k x hx => by rw [take_snoc hx, List.map_append, List.map_append]; rfl
  refine Ret.of_pwp layOk mixed Go.Proofs.Tryz.func103 rfl (by decide) rfl rfl ?_
  ((repeat (first | refine ps_nil ?_ | refine pq_nil ?_ | refine x_norm ?_ | refine pw_seq ?_)); refine pw_region ?_)
  refine ps_v rfl trivial ?_
  ((repeat (first | refine ps_nil ?_ | refine pq_nil ?_ | refine x_norm ?_ | refine pw_seq ?_)); refine pw_region ?_)
  (first | refine ps_run (o_nilm 9 1 0 rfl rfl ?_) | refine ps_run (o_nila 9 1 0 rfl rfl ?_))
  repeat (refine stp rfl ?_ ?_;·repeat' constructor)
  refine pw_loop (fun k => k ≤ l.length) (fun k => [(1, .clo 104 []), (5, .als 5 (k + 1) 0 (((l.take k).map (·.name)).map eS).length), (8, .sl (l.map eItem)), (9, I l.length), (10, I k)]) (fun k => [(5, k + 1, ⟨9, 1, ((l.take k).map (·.name)).map eS, 0⟩)]) (fun k => l.length - k) 0 (Nat.zero_le _) ⟨rfl, rfl, rfl, ?_, rfl, rfl, trivial⟩ ?_
  · show I ((l.map eItem).length) = _
    simp
  intro k s hk
  repeat (refine stp rfl ?_ ?_;·repeat' constructor)
  refine pw_cond rfl (fun h => ?_) (fun h => ?_)
  · have hlt : k < l.length := by simpa using h
    obtain ⟨x, hx⟩ := get_lt hlt
    repeat (refine stp rfl ?_ ?_;·repeat' constructor)
    apply qst;exact rfl;exact rfl;exact q_idxm rfl rfl rfl rfl rfl (by omega) hx rfl
    repeat (refine stp rfl ?_ ?_;·repeat' constructor)
    apply qst;exact rfl;exact rfl;exact q_callP rfl (itemName_ret x) rfl (by repeat' constructor) rfl rfl
    repeat (refine stp rfl ?_ ?_;·repeat' constructor)
    refine ps_run (o_slit 0 rfl rfl rfl rfl rfl rfl rfl rfl rfl rfl rfl (by repeat' constructor) rfl ?_)
    repeat (refine stp rfl ?_ ?_;·repeat' constructor)
    refine ps_run (o_app 0 rfl rfl rfl rfl rfl rfl rfl rfl rfl rfl rfl (by repeat' constructor) (by intro row hr; first | (simp at hr; subst hr; rfl) | simp at hr) rfl rfl (by simp; omega) (by simp; omega) ?_)
    repeat (refine stp rfl ?_ ?_;·repeat' constructor)
    refine ⟨k + 1, hlt, by omega, rfl, ?_, rfl, rfl, ?_, ?_, trivial⟩
    · rw [hrows k x hx]; rfl
    · exact i64_next (by omega) (by omega)
    · rw [hrows k x hx]; rfl
  · have hge : k = l.length := by have := of_decide_eq_false h; omega
    repeat (refine stp rfl ?_ ?_;·repeat' constructor)
    exact end1 rfl rfl rfl ⟨rfl, rfl, rfl⟩ (by rw [hge, List.take_length])
theorem tradeNames_ret (w : SWork) (hw : w.trades.length ≤ 1000000) : Ret Tryz.prog .shared 92 [.agg (eWork w)] (.sl ((w.trades.map (·.name)).map eS)) := by
  refine Ret.of_pwp layOk mixed Go.Proofs.Tryz.func92 rfl (by decide) rfl rfl ?_
  repeat (refine stp rfl ?_ ?_;·repeat' constructor)
  apply qst;exact rfl;exact rfl;exact q_call rfl (namesT_ret w.trades hw) rfl (by repeat' constructor) rfl
  repeat (refine stp rfl ?_ ?_;·repeat' constructor)
  exact end1 rfl rfl rfl trivial rfl
theorem spaceNames_ret (w : SWork) (hw : w.spaces.length ≤ 1000000) : Ret Tryz.prog .shared 94 [.agg (eWork w)] (.sl ((w.spaces.map (·.name)).map eS)) := by
  refine Ret.of_pwp layOk mixed Go.Proofs.Tryz.func94 rfl (by decide) rfl rfl ?_
  repeat (refine stp rfl ?_ ?_;·repeat' constructor)
  apply qst;exact rfl;exact rfl;exact q_call rfl (namesS_ret w.spaces hw) rfl (by repeat' constructor) rfl
  repeat (refine stp rfl ?_ ?_;·repeat' constructor)
  exact end1 rfl rfl rfl trivial rfl
theorem itemNames_ret (w : SWork) (hw : w.items.length ≤ 1000000) : Ret Tryz.prog .shared 61 [.agg (eWork w)] (.sl ((w.items.map (·.name)).map eS)) := by
  refine Ret.of_pwp layOk mixed Go.Proofs.Tryz.func61 rfl (by decide) rfl rfl ?_
  repeat (refine stp rfl ?_ ?_;·repeat' constructor)
  apply qst;exact rfl;exact rfl;exact q_call rfl (namesI_ret w.items hw) rfl (by repeat' constructor) rfl
  repeat (refine stp rfl ?_ ?_;·repeat' constructor)
  exact end1 rfl rfl rfl trivial rfl
end Go.Pv


set_option maxHeartbeats 2000000
namespace Go.Pv
attribute [local irreducible] PWP POps PQuiet PSem XThen XBlock RetPost InlPost
open Go.Proofs
theorem q_slhm {P : Program} {L : Lay} {s : St} {d : Nat} {ty : TypeId} {pos : String} {af : Array Edge} {g : Option (Nat × Bool)} {T E : TypeId} {x hi : Operand} {r re : LRow} {α : Type} {enc : α → List PV} {l : List α} {k : IntKind} {n : Int} (hr : L T = some r) (hs : r.sh = .sl E) (hre : L E = some re)
    (hx : s.ev x = .sl (l.map enc)) (hix : s.ev hi = .int k n) (h0 : 0 ≤ n) (hle : n ≤ l.length) (hlen : ∀ a, (enc a).length = re.size) : QOp P L s ⟨some d, .slice T x none (some hi) none, ty, pos, af, g⟩ (.sl ((l.take n.toNat).map enc)) := by
  have := QOp.slh (P := P) (L := L) (s := s) (o := ⟨some d, .slice T x none (some hi) none, ty, pos, af, g⟩) rfl hr hs hre hx hix h0 (by simpa using hle) (by intro row h; obtain ⟨a, _, rfl⟩ := List.mem_map.1 h; exact hlen a)
  rwa [← List.map_take] at this
theorem q_slcm {P : Program} {L : Lay} {s : St} {d : Nat} {ty : TypeId} {pos : String} {af : Array Edge} {g : Option (Nat × Bool)} {T E : TypeId} {x lo : Operand} {r re : LRow} {α : Type} {enc : α → List PV} {l : List α} {k : IntKind} {n : Int} (hr : L T = some r) (hs : r.sh = .sl E) (hre : L E = some re)
    (hx : s.ev x = .sl (l.map enc)) (hix : s.ev lo = .int k n) (h0 : 0 ≤ n) (hle : n ≤ l.length) (hlen : ∀ a, (enc a).length = re.size) : QOp P L s ⟨some d, .slice T x (some lo) none none, ty, pos, af, g⟩ (.sl ((l.drop n.toNat).map enc)) := by
  have := QOp.slc (P := P) (L := L) (s := s) (o := ⟨some d, .slice T x (some lo) none none, ty, pos, af, g⟩) rfl hr hs hre hx hix h0 (by simpa using hle) (by intro row h; obtain ⟨a, _, rfl⟩ := List.mem_map.1 h; exact hlen a)
  rwa [← List.map_drop] at this
def namedS (l : List Str) (most : Int) (own : Nat → Int) : Int :=
  if most < l.length then 8 else fstE l fun i s => if isName s then (if (l.take i).any (· == s) then 5 else own i) else 4
theorem named_ret1 (l : List Str) (most : Int) (hm : most ≤ 1000000) (f : FuncId) (c0 : List PV) (own : Nat → Int) (hf : ∀ i : Nat, i < l.length → Ret Tryz.prog .shared f (I i :: [.dref c0 0]) (I (own i))) : Ret Tryz.prog .shared 91 [.sl (l.map eS), I most, .clo f [.dref c0 0]] (I (namedS l most own)) := by
  refine Ret.of_pwp layOk mixed Go.Proofs.Tryz.func91 rfl (by decide) rfl rfl ?_
  repeat (refine stp rfl ?_ ?_;·repeat' constructor)
  refine pw_cond rfl (fun h => ?_) (fun h => ?_)
  · repeat (refine stp rfl ?_ ?_;·repeat' constructor)
    exact end1i rfl rfl (by have := of_decide_eq_true h; simp at this; simp [namedS, this])
  have hlen : ¬ most < (l.length : Int) := by have := of_decide_eq_false h; simpa using this
  repeat (refine stp rfl ?_ ?_;·repeat' constructor)
  refine pw_loop (ClearE l fun i s => if isName s then (if (l.take i).any (· == s) then 5 else own i) else 4) (fun k => [(0, .sl (l.map eS)), (2, .clo f [.dref c0 0]), (14, .sl (l.map eS)), (15, I l.length), (16, I k)]) (fun _ => []) (fun k => l.length - k) 0 .zero' ⟨rfl, rfl, rfl, ?_, rfl, trivial⟩ ?_
  · show I ((l.map eS).length) = _
    simp
  intro k s hk
  repeat (refine stp rfl ?_ ?_;·repeat' constructor)
  refine pw_cond rfl (fun h => ?_) (fun h => ?_)
  · have hlt : k < l.length := by simpa using h
    obtain ⟨x, hx⟩ := get_lt hlt
    repeat (refine stp rfl ?_ ?_;·repeat' constructor)
    apply qst;exact rfl;exact rfl;exact q_idxm rfl rfl rfl rfl rfl (by omega) hx rfl
    repeat (refine stp rfl ?_ ?_;·repeat' constructor)
    apply qst;exact rfl;exact rfl;exact q_callP rfl (isName_ret x) rfl (by repeat' constructor) rfl rfl
    repeat (refine stp rfl ?_ ?_;·repeat' constructor)
    refine pw_cond rfl (fun h => ?_) (fun h => ?_)
    · repeat (refine stp rfl ?_ ?_;·repeat' constructor)
      exact end1i rfl rfl (by rw [namedS, if_neg hlen, hk.found (e := 4) hx (by simp_all) (by omega)])
    have hnm : isName x = true := by simpa using h
    repeat (refine stp rfl ?_ ?_;·repeat' constructor)
    refine ps_q (q_slhm rfl rfl rfl rfl rfl (by omega) (by omega) (fun _ => rfl)) ?_
    repeat (refine stp rfl ?_ ?_;·repeat' constructor)
    apply qst;exact rfl;exact rfl;exact q_callP rfl (contains_ret (l.take (Int.toNat k)) x (by simp; omega)) rfl (by repeat' constructor) rfl rfl
    repeat (refine stp rfl ?_ ?_;·repeat' constructor)
    refine pw_cond rfl (fun h => ?_) (fun h => ?_)
    · repeat (refine stp rfl ?_ ?_;·repeat' constructor)
      exact end1i rfl rfl (by rw [namedS, if_neg hlen, hk.found (e := 5) hx (by simp_all) (by omega)])
    have hct : (l.take k).any (· == x) = false := h
    have hown : (if isName x then (if (l.take k).any (· == x) then 5 else own k) else 4) = own k := by rw [if_pos hnm, hct]; rfl
    repeat (refine stp rfl ?_ ?_;·repeat' constructor)
    apply qst;exact rfl;exact rfl;exact q_callP rfl (hf k hlt) rfl (by repeat' constructor) rfl rfl
    repeat (refine stp rfl ?_ ?_;·repeat' constructor)
    refine pw_cond rfl (fun h => ?_) (fun h => ?_)
    · repeat (refine stp rfl ?_ ?_;·repeat' constructor)
      exact end1i rfl rfl (by rw [namedS, if_neg hlen, hk.found (e := own k) hx hown (by simpa using h)])
    · repeat (refine stp rfl ?_ ?_;·repeat' constructor)
      refine ⟨k + 1, hk.succ hx (hown.trans (by simpa using h)), by omega, rfl, rfl, rfl, rfl, ?_, trivial⟩
      exact i64_next (by omega) (by omega)
  · repeat (refine stp rfl ?_ ?_;·repeat' constructor)
    exact end1i rfl rfl (by rw [namedS, if_neg hlen, hk.none (by simpa using h)])
theorem named_ret2 (l : List Str) (most : Int) (hm : most ≤ 1000000) (f : FuncId) (c0 c1 : List PV) (own : Nat → Int) (hf : ∀ i : Nat, i < l.length → Ret Tryz.prog .shared f (I i :: [.dref c0 0, .dref c1 0]) (I (own i))) : Ret Tryz.prog .shared 91 [.sl (l.map eS), I most, .clo f [.dref c0 0, .dref c1 0]] (I (namedS l most own)) := by
  refine Ret.of_pwp layOk mixed Go.Proofs.Tryz.func91 rfl (by decide) rfl rfl ?_
  repeat (refine stp rfl ?_ ?_;·repeat' constructor)
  refine pw_cond rfl (fun h => ?_) (fun h => ?_)
  · repeat (refine stp rfl ?_ ?_;·repeat' constructor)
    exact end1i rfl rfl (by have := of_decide_eq_true h; simp at this; simp [namedS, this])
  have hlen : ¬ most < (l.length : Int) := by have := of_decide_eq_false h; simpa using this
  repeat (refine stp rfl ?_ ?_;·repeat' constructor)
  refine pw_loop (ClearE l fun i s => if isName s then (if (l.take i).any (· == s) then 5 else own i) else 4) (fun k => [(0, .sl (l.map eS)), (2, .clo f [.dref c0 0, .dref c1 0]), (14, .sl (l.map eS)), (15, I l.length), (16, I k)]) (fun _ => []) (fun k => l.length - k) 0 .zero' ⟨rfl, rfl, rfl, ?_, rfl, trivial⟩ ?_
  · show I ((l.map eS).length) = _
    simp
  intro k s hk
  repeat (refine stp rfl ?_ ?_;·repeat' constructor)
  refine pw_cond rfl (fun h => ?_) (fun h => ?_)
  · have hlt : k < l.length := by simpa using h
    obtain ⟨x, hx⟩ := get_lt hlt
    repeat (refine stp rfl ?_ ?_;·repeat' constructor)
    apply qst;exact rfl;exact rfl;exact q_idxm rfl rfl rfl rfl rfl (by omega) hx rfl
    repeat (refine stp rfl ?_ ?_;·repeat' constructor)
    apply qst;exact rfl;exact rfl;exact q_callP rfl (isName_ret x) rfl (by repeat' constructor) rfl rfl
    repeat (refine stp rfl ?_ ?_;·repeat' constructor)
    refine pw_cond rfl (fun h => ?_) (fun h => ?_)
    · repeat (refine stp rfl ?_ ?_;·repeat' constructor)
      exact end1i rfl rfl (by rw [namedS, if_neg hlen, hk.found (e := 4) hx (by simp_all) (by omega)])
    have hnm : isName x = true := by simpa using h
    repeat (refine stp rfl ?_ ?_;·repeat' constructor)
    refine ps_q (q_slhm rfl rfl rfl rfl rfl (by omega) (by omega) (fun _ => rfl)) ?_
    repeat (refine stp rfl ?_ ?_;·repeat' constructor)
    apply qst;exact rfl;exact rfl;exact q_callP rfl (contains_ret (l.take (Int.toNat k)) x (by simp; omega)) rfl (by repeat' constructor) rfl rfl
    repeat (refine stp rfl ?_ ?_;·repeat' constructor)
    refine pw_cond rfl (fun h => ?_) (fun h => ?_)
    · repeat (refine stp rfl ?_ ?_;·repeat' constructor)
      exact end1i rfl rfl (by rw [namedS, if_neg hlen, hk.found (e := 5) hx (by simp_all) (by omega)])
    have hct : (l.take k).any (· == x) = false := h
    have hown : (if isName x then (if (l.take k).any (· == x) then 5 else own k) else 4) = own k := by rw [if_pos hnm, hct]; rfl
    repeat (refine stp rfl ?_ ?_;·repeat' constructor)
    apply qst;exact rfl;exact rfl;exact q_callP rfl (hf k hlt) rfl (by repeat' constructor) rfl rfl
    repeat (refine stp rfl ?_ ?_;·repeat' constructor)
    refine pw_cond rfl (fun h => ?_) (fun h => ?_)
    · repeat (refine stp rfl ?_ ?_;·repeat' constructor)
      exact end1i rfl rfl (by rw [namedS, if_neg hlen, hk.found (e := own k) hx hown (by simpa using h)])
    · repeat (refine stp rfl ?_ ?_;·repeat' constructor)
      refine ⟨k + 1, hk.succ hx (hown.trans (by simpa using h)), by omega, rfl, rfl, rfl, rfl, ?_, trivial⟩
      exact i64_next (by omega) (by omega)
  · repeat (refine stp rfl ?_ ?_;·repeat' constructor)
    exact end1i rfl rfl (by rw [namedS, if_neg hlen, hk.none (by simpa using h)])
theorem indexF_ret (l : List Str) (f : FuncId) (c0 : List PV) (p : Str → Bool) (hw : l.length ≤ 1000000) (hf : ∀ x, x ∈ l → Ret Tryz.prog .shared f (.str x :: [.dref c0 0]) (.bool (p x))) : Ret Tryz.prog .shared 132 [.sl (l.map eS), .clo f [.dref c0 0]] (I (idx l p)) := by
  refine Ret.of_pwp layOk mixed Go.Proofs.Tryz.func132 rfl (by decide) rfl rfl ?_
  repeat (refine stp rfl ?_ ?_;·repeat' constructor)
  refine pw_loop (Clear l p) (fun k => [(0, .sl (l.map eS)), (1, .clo f [.dref c0 0]), (7, I l.length), (8, I k)]) (fun _ => []) (fun k => l.length - k) 0 .zero ⟨rfl, rfl, ?_, rfl, trivial⟩ ?_
  · show I ((l.map eS).length) = _
    simp
  intro k s hk
  repeat (refine stp rfl ?_ ?_;·repeat' constructor)
  refine pw_cond rfl (fun h => ?_) (fun h => ?_)
  · have hlt : k < l.length := by simpa using h
    obtain ⟨x, hx⟩ := get_lt hlt
    repeat (refine stp rfl ?_ ?_;·repeat' constructor)
    apply qst;exact rfl;exact rfl;exact q_idxm rfl rfl rfl rfl rfl (by omega) hx rfl
    repeat (refine stp rfl ?_ ?_;·repeat' constructor)
    apply qst;exact rfl;exact rfl;exact q_callP rfl (hf x (List.mem_of_getElem? hx)) rfl (by repeat' constructor) rfl rfl
    repeat (refine stp rfl ?_ ?_;·repeat' constructor)
    refine pw_cond rfl (fun h => ?_) (fun h => ?_)
    · repeat (refine stp rfl ?_ ?_;·repeat' constructor)
      exact end1i rfl rfl (by rw [hk.found hx h])
    · repeat (refine stp rfl ?_ ?_;·repeat' constructor)
      refine ⟨k + 1, hk.succ hx h, by omega, rfl, rfl, rfl, ?_, trivial⟩
      exact i64_next (by omega) (by omega)
  · repeat (refine stp rfl ?_ ?_;·repeat' constructor)
    exact end1i rfl rfl (by rw [hk.none (by simpa using h)])
theorem containsF_ret (l : List Str) (f : FuncId) (c0 : List PV) (p : Str → Bool) (hw : l.length ≤ 1000000) (hf : ∀ x, x ∈ l → Ret Tryz.prog .shared f (.str x :: [.dref c0 0]) (.bool (p x))) : Ret Tryz.prog .shared 96 [.sl (l.map eS), .clo f [.dref c0 0]] (.bool (l.any p)) := by
  refine Ret.of_pwp layOk mixed Go.Proofs.Tryz.func96 rfl (by decide) rfl rfl ?_
  repeat (refine stp rfl ?_ ?_;·repeat' constructor)
  apply qst;exact rfl;exact rfl;exact q_callP rfl (indexF_ret l f c0 p hw hf) rfl (by repeat' constructor) rfl rfl
  repeat (refine stp rfl ?_ ?_;·repeat' constructor)
  exact end1b rfl rfl (by rw [idx_nonneg])
def tradeE (t : STrade) : Int := if inside t.crew 0 1000 && inside t.rate 0 1000000 then 0 else 2
theorem tradeOwn_ret (w : SWork) (i : Nat) (t : STrade) (ht : w.trades[i]? = some t) : Ret Tryz.prog .shared 93 [I i, .dref (eWork w) 0] (I (tradeE t)) := by
  refine Ret.of_pwp layOk mixed Go.Proofs.Tryz.func93 rfl (by decide) rfl rfl ?_
  repeat (refine stp rfl ?_ ?_;·repeat' constructor)
  apply qst;exact rfl;exact rfl;exact q_idxm rfl rfl rfl rfl rfl (by omega) ht rfl
  repeat (refine stp rfl ?_ ?_;·repeat' constructor)
  apply qst;exact rfl;exact rfl;exact q_callP rfl (within_ret t.crew 1000) rfl (by repeat' constructor) rfl rfl
  repeat (refine stp rfl ?_ ?_;·repeat' constructor)
  (first | refine ps_split rfl rfl (fun h => ?_) (fun h => ?_) | refine pq_split rfl rfl (fun h => ?_) (fun h => ?_) | refine p3_split rfl rfl (fun h => ?_) (fun h => ?_))
  · repeat (refine stp rfl ?_ ?_;·repeat' constructor)
    exact end1i rfl rfl (by simp [tradeE] at *; simp [h])
  · repeat (refine stp rfl ?_ ?_;·repeat' constructor)
    apply qst;exact rfl;exact rfl;exact q_idxm rfl rfl rfl rfl rfl (by omega) ht rfl
    repeat (refine stp rfl ?_ ?_;·repeat' constructor)
    apply qst;exact rfl;exact rfl;exact q_callP rfl (within_ret t.rate 1000000) rfl (by repeat' constructor) rfl rfl
    repeat (refine stp rfl ?_ ?_;·repeat' constructor)
    refine pw_cond rfl (fun h => ?_) (fun h => ?_)
    · repeat (refine stp rfl ?_ ?_;·repeat' constructor)
      exact end1i rfl rfl (by simp_all [tradeE])
    · repeat (refine stp rfl ?_ ?_;·repeat' constructor)
      exact end1i rfl rfl (by simp_all [tradeE])
def noSpace (w : SWork) (s : Str) : Bool := !(w.spaces.map (·.name)).any (· == s)
theorem noSpace_ret (w : SWork) (hw : w.spaces.length ≤ 1000000) (n : Str) : Ret Tryz.prog .shared 97 [.str n, .dref [.sl ((w.spaces.map (·.name)).map eS)] 0] (.bool (noSpace w n)) := by
  refine Ret.of_pwp layOk mixed Go.Proofs.Tryz.func97 rfl (by decide) rfl rfl ?_
  repeat (refine stp rfl ?_ ?_;·repeat' constructor)
  apply qst;exact rfl;exact rfl;exact q_callP rfl (contains_ret (w.spaces.map (·.name)) n (by simpa using hw)) rfl (by repeat' constructor) rfl rfl
  repeat (refine stp rfl ?_ ?_;·repeat' constructor)
  exact end1b rfl rfl rfl
def spaceE (w : SWork) (x : SSpace) : Int := if x.next.any (noSpace w) then 6 else 0
theorem spaceOwn_ret (w : SWork) (hw : w.spaces.length ≤ 1000000) (i : Nat) (x : SSpace) (hx : w.spaces[i]? = some x) (hn : x.next.length ≤ 1000000) : Ret Tryz.prog .shared 95 [I i, .dref (eWork w) 0, .dref [.sl ((w.spaces.map (·.name)).map eS)] 0] (I (spaceE w x)) := by
  refine Ret.of_pwp layOk mixed Go.Proofs.Tryz.func95 rfl (by decide) rfl rfl ?_
  repeat (refine stp rfl ?_ ?_;·repeat' constructor)
  apply qst;exact rfl;exact rfl;exact q_idxm rfl rfl rfl rfl rfl (by omega) hx rfl
  repeat (refine stp rfl ?_ ?_;·repeat' constructor)
  apply qst;exact rfl;exact rfl;exact q_callP rfl (containsF_ret x.next 97 [.sl ((w.spaces.map (·.name)).map eS)] (noSpace w) hn (fun s _ => noSpace_ret w hw s)) rfl (by repeat' constructor) rfl rfl
  repeat (refine stp rfl ?_ ?_;·repeat' constructor)
  refine pw_cond rfl (fun h => ?_) (fun h => ?_)
  · repeat (refine stp rfl ?_ ?_;·repeat' constructor)
    exact end1i rfl rfl (by simp_all [spaceE])
  · repeat (refine stp rfl ?_ ?_;·repeat' constructor)
    exact end1i rfl rfl (by simp_all [spaceE])
end Go.Pv


set_option maxHeartbeats 2000000
namespace Go.Pv
attribute [local irreducible] PWP POps PQuiet PSem XThen XBlock RetPost InlPost
open Go.Proofs
def exclE (x : SExcl) : Int := if inside x.a 0 5 && inside x.b 0 5 && inside x.reach 0 2 then 0 else 2
def outE (o : SOut) : Int := if inside o.frm 0 400 && inside o.to 0 400 then (if o.to ≤ o.frm then 10 else 0) else 2
def rulesE (w : SWork) : Int :=
  if 30 < w.excls.length then 8 else if fstE w.excls (fun _ x => exclE x) = 0 then (if 20 < w.outs.length then 8 else fstE w.outs fun _ o => outE o) else fstE w.excls (fun _ x => exclE x)
theorem rulesErr_ret (w : SWork) (h1 : w.excls.length ≤ 1000000) (h2 : w.outs.length ≤ 1000000) : Ret Tryz.prog .shared 99 [.agg (eWork w)] (I (rulesE w)) := by
  refine Ret.of_pwp layOk mixed Go.Proofs.Tryz.func99 rfl (by decide) rfl rfl ?_
  repeat (refine stp rfl ?_ ?_;·repeat' constructor)
  refine pw_cond rfl (fun h => ?_) (fun h => ?_)
  · repeat (refine stp rfl ?_ ?_;·repeat' constructor)
    exact end1i rfl rfl (by have := of_decide_eq_true h; simp at this; rw [rulesE, if_pos (by omega)])
  have hl : ¬ 30 < w.excls.length := by have := of_decide_eq_false h; simp at this; omega
  repeat (refine stp rfl ?_ ?_;·repeat' constructor)
  refine pw_loop (ClearE w.excls fun _ x => exclE x) (fun k => [(1, .ptr 1 1 0 0), (12, .sl (w.excls.map eExcl)), (13, I w.excls.length), (14, I k)]) (fun _ => [(1, 1, ⟨28, 9, [eWork w], 2⟩)]) (fun k => w.excls.length - k) 0 .zero' ⟨rfl, rfl, ?_, rfl, rfl, trivial⟩ ?_
  · show I ((w.excls.map eExcl).length) = _
    simp
  intro k s hk
  repeat (refine stp rfl ?_ ?_;·repeat' constructor)
  refine pw_cond rfl (fun h => ?_) (fun h => ?_)
  · have hlt : k < w.excls.length := by simpa using h
    obtain ⟨x, hx⟩ := get_lt hlt
    clear h
    have bad : exclE x = 2 → rulesE w = 2 := fun hb => by
      have := hk.found (e := 2) hx hb (by omega)
      rw [rulesE, if_neg hl, this]; rfl
    repeat (refine stp rfl ?_ ?_;·repeat' constructor)
    apply qst;exact rfl;exact rfl;exact q_idxm rfl rfl rfl rfl rfl (by omega) hx rfl
    repeat (refine stp rfl ?_ ?_;·repeat' constructor)
    apply qst;exact rfl;exact rfl;exact q_callP rfl (within_ret x.a 5) rfl (by repeat' constructor) rfl rfl
    repeat (refine stp rfl ?_ ?_;·repeat' constructor)
    (first | refine ps_split rfl rfl (fun h => ?_) (fun h => ?_) | refine pq_split rfl rfl (fun h => ?_) (fun h => ?_) | refine p3_split rfl rfl (fun h => ?_) (fun h => ?_))
    · repeat (refine stp rfl ?_ ?_;·repeat' constructor)
      exact end1i rfl rfl (by rw [bad]; simp_all [exclE])
    have ha := h
    repeat (refine stp rfl ?_ ?_;·repeat' constructor)
    apply qst;exact rfl;exact rfl;exact q_callP rfl (within_ret x.b 5) rfl (by repeat' constructor) rfl rfl
    repeat (refine stp rfl ?_ ?_;·repeat' constructor)
    (first | refine ps_split rfl rfl (fun h => ?_) (fun h => ?_) | refine pq_split rfl rfl (fun h => ?_) (fun h => ?_) | refine p3_split rfl rfl (fun h => ?_) (fun h => ?_))
    · repeat (refine stp rfl ?_ ?_;·repeat' constructor)
      exact end1i rfl rfl (by rw [bad]; simp_all [exclE])
    have hb := h
    repeat (refine stp rfl ?_ ?_;·repeat' constructor)
    apply qst;exact rfl;exact rfl;exact q_callP rfl (within_ret x.reach 2) rfl (by repeat' constructor) rfl rfl
    repeat (refine stp rfl ?_ ?_;·repeat' constructor)
    refine pw_cond rfl (fun h => ?_) (fun h => ?_)
    · repeat (refine stp rfl ?_ ?_;·repeat' constructor)
      exact end1i rfl rfl (by rw [bad]; simp_all [exclE])
    · repeat (refine stp rfl ?_ ?_;·repeat' constructor)
      refine ⟨k + 1, hk.succ hx (by simp_all [exclE]), by omega, rfl, rfl, rfl, ?_, rfl, trivial⟩
      exact i64_next (by omega) (by omega)
  have hz : fstE w.excls (fun _ x => exclE x) = 0 := hk.none (by simpa using h)
  clear h hk
  repeat (refine stp rfl ?_ ?_;·repeat' constructor)
  refine pw_cond rfl (fun h => ?_) (fun h => ?_)
  · repeat (refine stp rfl ?_ ?_;·repeat' constructor)
    exact end1i rfl rfl (by have := of_decide_eq_true h; simp at this; rw [rulesE, if_neg hl, if_pos hz, if_pos (by omega)])
  have hl2 : ¬ 20 < w.outs.length := by have := of_decide_eq_false h; simp at this; omega
  repeat (refine stp rfl ?_ ?_;·repeat' constructor)
  refine pw_loop (ClearE w.outs fun _ x => outE x) (fun k => [(1, .ptr 1 1 0 0), (40, .sl (w.outs.map eOut)), (41, I w.outs.length), (42, I k)]) (fun _ => [(1, 1, ⟨28, 9, [eWork w], 2⟩)]) (fun k => w.outs.length - k) 0 .zero' ⟨rfl, rfl, ?_, rfl, rfl, trivial⟩ ?_
  · show I ((w.outs.map eOut).length) = _
    simp
  intro k s hk
  repeat (refine stp rfl ?_ ?_;·repeat' constructor)
  refine pw_cond rfl (fun h => ?_) (fun h => ?_)
  · have hlt : k < w.outs.length := by simpa using h
    obtain ⟨x, hx⟩ := get_lt hlt
    clear h
    have bad : ∀ e, outE x = e → e ≠ 0 → rulesE w = e := fun e hb he => by
      have := hk.found (e := e) hx hb he
      rw [rulesE, if_neg hl, if_pos hz, if_neg hl2, this]
    repeat (refine stp rfl ?_ ?_;·repeat' constructor)
    apply qst;exact rfl;exact rfl;exact q_idxm rfl rfl rfl rfl rfl (by omega) hx rfl
    repeat (refine stp rfl ?_ ?_;·repeat' constructor)
    apply qst;exact rfl;exact rfl;exact q_callP rfl (within_ret x.frm 400) rfl (by repeat' constructor) rfl rfl
    repeat (refine stp rfl ?_ ?_;·repeat' constructor)
    (first | refine ps_split rfl rfl (fun h => ?_) (fun h => ?_) | refine pq_split rfl rfl (fun h => ?_) (fun h => ?_) | refine p3_split rfl rfl (fun h => ?_) (fun h => ?_))
    · repeat (refine stp rfl ?_ ?_;·repeat' constructor)
      exact end1i rfl rfl (by rw [bad 2 _ (by omega)]; simp_all [outE])
    have ha := h
    repeat (refine stp rfl ?_ ?_;·repeat' constructor)
    apply qst;exact rfl;exact rfl;exact q_callP rfl (within_ret x.to 400) rfl (by repeat' constructor) rfl rfl
    repeat (refine stp rfl ?_ ?_;·repeat' constructor)
    refine pw_cond rfl (fun h => ?_) (fun h => ?_)
    · repeat (refine stp rfl ?_ ?_;·repeat' constructor)
      exact end1i rfl rfl (by rw [bad 2 _ (by omega)]; simp_all [outE])
    have hb := h
    repeat (refine stp rfl ?_ ?_;·repeat' constructor)
    refine pw_cond rfl (fun h => ?_) (fun h => ?_)
    · repeat (refine stp rfl ?_ ?_;·repeat' constructor)
      exact end1i rfl rfl (by rw [bad 10 _ (by omega)]; simp_all [outE])
    · repeat (refine stp rfl ?_ ?_;·repeat' constructor)
      refine ⟨k + 1, hk.succ hx (by simp_all [outE]), by omega, rfl, rfl, rfl, ?_, rfl, trivial⟩
      exact i64_next (by omega) (by omega)
  · repeat (refine stp rfl ?_ ?_;·repeat' constructor)
    exact end1i rfl rfl (by rw [rulesE, if_neg hl, if_pos hz, if_neg hl2, hk.none (by simpa using h)])
end Go.Pv


set_option maxHeartbeats 2000000
namespace Go.Pv
attribute [local irreducible] PWP POps PQuiet PSem XThen XBlock RetPost InlPost
open Go.Proofs
def modeE (c : Int) (m : SMode) : Int := if inside m.days 1 60 && inside m.crew 0 1000 then (if c < m.crew then 23 else 0) else 2
def afterE (w : SWork) (x : SItem) (s : Str) : Int := if (w.items.map (·.name)).any (· == s) then (if s = x.name then 3 else 0) else 6
def crewOf (w : SWork) (x : SItem) : Int := match w.trades[(idx w.trades (·.name == x.trade)).toNat]? with | some t => t.crew | none => 0
def itemE (w : SWork) (x : SItem) : Int :=
  if idx w.trades (·.name == x.trade) < 0 then 6
  else if x.modes.length < 1 || decide (3 < x.modes.length) then 2
  else if fstE x.modes (fun _ m => modeE (crewOf w x) m) = 0 then
    (if x.space ≠ [] ∧ noSpace w x.space = true then 6
     else if inside x.kind (-1) 5 then (if x.kind ≠ -1 ∧ x.space = [] then 3 else fstE x.after fun _ s => afterE w x s)
     else 2)
  else fstE x.modes (fun _ m => modeE (crewOf w x) m)
theorem idx_map {α β : Type} (l : List α) (f : α → β) (p : β → Bool) : idx (l.map f) p = idx l (fun a => p (f a)) := by
  unfold idx
  rw [List.findIdx?_map]; rfl
theorem itemErr_ret (w : SWork) (x : SItem) (h1 : w.trades.length ≤ 1000000) (h2 : w.spaces.length ≤ 1000000) (h3 : w.items.length ≤ 1000000) (h4 : x.after.length ≤ 1000000) :
    Ret Tryz.prog .shared 101 [.agg (eWork w), .agg (eItem x), .sl ((w.items.map (·.name)).map eS)] (I (itemE w x)) := by
  refine Ret.of_pwp layOk mixed Go.Proofs.Tryz.func101 rfl (by decide) rfl rfl ?_
  repeat (refine stp rfl ?_ ?_;·repeat' constructor)
  refine pw_draw 6 [12, 13, 14, 15, 16, 7] (by decide +kernel) ?_
  repeat (refine stp rfl ?_ ?_;·repeat' constructor)
  apply qst;exact rfl;exact rfl;exact q_call rfl (tradeNames_ret w h1) rfl (by repeat' constructor) rfl
  repeat (refine stp rfl ?_ ?_;·repeat' constructor)
  apply qst;exact rfl;exact rfl;exact q_callP rfl (index_ret (w.trades.map (·.name)) x.trade (by simpa using h1)) rfl (by repeat' constructor) rfl rfl
  rw [idx_map]
  repeat (refine stp rfl ?_ ?_;·repeat' constructor)
  refine pw_cond rfl (fun h => ?_) (fun h => ?_)
  · repeat (refine stp rfl ?_ ?_;·repeat' constructor)
    exact end1i rfl rfl (by rw [itemE, if_pos (of_decide_eq_true h)])
  have ht : ¬ idx w.trades (·.name == x.trade) < 0 := of_decide_eq_false h
  clear h
  obtain ⟨t, htr, _⟩ := idx_lt (Int.not_lt.1 ht)
  have hcrew : crewOf w x = t.crew := by rw [crewOf, htr]
  have it : itemE w x = itemE w x := rfl
  conv at it => rhs; rw [itemE, if_neg ht]
  have hml : ((x.modes.map eMode).length : Int) = x.modes.length := by simp
  repeat (refine stp rfl ?_ ?_;·repeat' constructor)
  (first | refine ps_split rfl rfl (fun h => ?_) (fun h => ?_) | refine pq_split rfl rfl (fun h => ?_) (fun h => ?_) | refine p3_split rfl rfl (fun h => ?_) (fun h => ?_))
  · repeat (refine stp rfl ?_ ?_;·repeat' constructor)
    exact end1i rfl rfl (by have h' := of_decide_eq_true h; rw [it, if_pos]; rw [Bool.or_eq_true]; exact .inl (decide_eq_true (by omega)))
  have hm1 := of_decide_eq_false h
  repeat (refine stp rfl ?_ ?_;·repeat' constructor)
  refine pw_cond rfl (fun h => ?_) (fun h => ?_)
  · repeat (refine stp rfl ?_ ?_;·repeat' constructor)
    exact end1i rfl rfl (by have h' := of_decide_eq_true h; rw [it, if_pos]; rw [Bool.or_eq_true]; exact .inr (decide_eq_true (by omega)))
  have hm2 := of_decide_eq_false h
  have hm : ¬ (decide (x.modes.length < 1) || decide (3 < x.modes.length)) = true := by
    rw [Bool.or_eq_true, decide_eq_true_eq, decide_eq_true_eq]; omega
  clear h hm1
  rw [if_neg hm] at it
  repeat (refine stp rfl ?_ ?_;·repeat' constructor)
  refine pw_loop (ClearE x.modes fun _ m => modeE (crewOf w x) m) (fun k => [(2, .sl ((w.items.map (·.name)).map eS)), (3, .ptr 3 1 0 0), (4, .ptr 4 1 0 0), (7, I (idx w.trades (·.name == x.trade))), (30, .sl (x.modes.map eMode)), (31, I x.modes.length), (32, I k)]) (fun _ => [(3, 1, ⟨28, 9, [eWork w], 2⟩), (4, 1, ⟨73, 7, [eItem x], 2⟩)]) (fun k => x.modes.length - k) 0 .zero' ⟨rfl, rfl, rfl, rfl, rfl, ?_, rfl, rfl, rfl, trivial⟩ ?_
  · show I ((x.modes.map eMode).length) = _
    simp
  intro k s hk
  repeat (refine stp rfl ?_ ?_;·repeat' constructor)
  refine pw_cond rfl (fun h => ?_) (fun h => ?_)
  · have hlt : k < x.modes.length := by simpa using h
    obtain ⟨m, hx⟩ := get_lt hlt
    clear h
    have bad : ∀ e, modeE t.crew m = e → e ≠ 0 → itemE w x = e := fun e hb he => by
      have := hk.found (e := e) hx (by rw [hcrew]; exact hb) he
      rw [it, this, if_neg he]
    repeat (refine stp rfl ?_ ?_;·repeat' constructor)
    apply qst;exact rfl;exact rfl;exact q_idxm rfl rfl rfl rfl rfl (by omega) hx rfl
    repeat (refine stp rfl ?_ ?_;·repeat' constructor)
    (first | refine ps_split rfl rfl (fun h => ?_) (fun h => ?_) | refine pq_split rfl rfl (fun h => ?_) (fun h => ?_) | refine p3_split rfl rfl (fun h => ?_) (fun h => ?_))
    · repeat (refine stp rfl ?_ ?_;·repeat' constructor)
      exact end1i rfl rfl (by rw [bad 2 _ (by omega)]; have h' := of_decide_eq_true h; rw [modeE, if_neg]; simp [inside]; omega)
    have hd1 := of_decide_eq_false h
    repeat (refine stp rfl ?_ ?_;·repeat' constructor)
    (first | refine ps_split rfl rfl (fun h => ?_) (fun h => ?_) | refine pq_split rfl rfl (fun h => ?_) (fun h => ?_) | refine p3_split rfl rfl (fun h => ?_) (fun h => ?_))
    · repeat (refine stp rfl ?_ ?_;·repeat' constructor)
      exact end1i rfl rfl (by rw [bad 2 _ (by omega)]; have h' := of_decide_eq_true h; rw [modeE, if_neg]; simp [inside]; omega)
    have hd2 := of_decide_eq_false h
    repeat (refine stp rfl ?_ ?_;·repeat' constructor)
    apply qst;exact rfl;exact rfl;exact q_callP rfl (within_ret m.crew 1000) rfl (by repeat' constructor) rfl rfl
    repeat (refine stp rfl ?_ ?_;·repeat' constructor)
    refine pw_cond rfl (fun h => ?_) (fun h => ?_)
    · repeat (refine stp rfl ?_ ?_;·repeat' constructor)
      exact end1i rfl rfl (by rw [bad 2 _ (by omega)]; rw [modeE, if_neg]; simp_all)
    have hc : inside m.crew 0 1000 = true := by simpa using h
    have hd : inside m.days 1 60 = true := by simp [inside]; omega
    repeat (refine stp rfl ?_ ?_;·repeat' constructor)
    refine pw_draw 9 [50, 51, 52, 53, 54, 55, 56, 57, 58] (by decide +kernel) ?_
    repeat (refine stp rfl ?_ ?_;·repeat' constructor)
    apply qst;exact rfl;exact rfl;exact q_idxm rfl rfl rfl rfl rfl (by omega) htr rfl
    repeat (refine stp rfl ?_ ?_;·repeat' constructor)
    refine pw_cond rfl (fun h => ?_) (fun h => ?_)
    · repeat (refine stp rfl ?_ ?_;·repeat' constructor)
      exact end1i rfl rfl (by rw [bad 23 _ (by omega)]; rw [modeE, if_pos (by rw [hd, hc]; rfl), if_pos (of_decide_eq_true h)])
    · repeat (refine stp rfl ?_ ?_;·repeat' constructor)
      refine ⟨k + 1, hk.succ hx (by rw [hcrew, modeE, if_pos (by rw [hd, hc]; rfl), if_neg (of_decide_eq_false h)]), by omega, rfl, rfl, rfl, rfl, rfl, rfl, ?_, rfl, rfl, trivial⟩
      exact i64_next (by omega) (by omega)
  have hz := hk.none (by simpa using h)
  rw [if_pos hz] at it
  clear h hk
  repeat (first | refine pw_exit ?_ | refine pw_skip ?_ | refine x_norm ?_ | refine x_exit ?_ | refine xb_norm ?_ | refine xb_here ?_ | refine xb_away rfl ?_)
  refine pw_cutP (¬ (x.space ≠ [] ∧ noSpace w x.space = true) ∧ inside x.kind (-1) 5 = true ∧ ¬ (x.kind ≠ -1 ∧ x.space = [])) [(2, .sl ((w.items.map (·.name)).map eS)), (3, .ptr 3 1 0 0), (4, .ptr 4 1 0 0)] [(3, 1, ⟨28, 9, [eWork w], 2⟩), (4, 1, ⟨73, 7, [eItem x], 2⟩)] ?_ ?_
  · refine pw_block ?_
    refine pw_cutP True [(60, .bool (!decide (x.space = []) && noSpace w x.space)), (2, .sl ((w.items.map (·.name)).map eS)), (3, .ptr 3 1 0 0), (4, .ptr 4 1 0 0)] [(3, 1, ⟨28, 9, [eWork w], 2⟩), (4, 1, ⟨73, 7, [eItem x], 2⟩)] ?_ ?_
    · refine pw_draw 12 [61, 62, 63, 64, 65, 66, 67, 68, 69, 70, 71, 60] (by decide +kernel) ?_
      repeat (refine stp rfl ?_ ?_;·repeat' constructor)
      (first | refine ps_split rfl rfl (fun h => ?_) (fun h => ?_) | refine pq_split rfl rfl (fun h => ?_) (fun h => ?_) | refine p3_split rfl rfl (fun h => ?_) (fun h => ?_))
      · repeat (refine stp rfl ?_ ?_;·repeat' constructor)
        apply qst;exact rfl;exact rfl;exact q_call rfl (spaceNames_ret w h2) rfl (by repeat' constructor) rfl
        repeat (refine stp rfl ?_ ?_;·repeat' constructor)
        apply qst;exact rfl;exact rfl;exact q_callP rfl (contains_ret (w.spaces.map (·.name)) x.space (by simpa using h2)) rfl (by repeat' constructor) rfl rfl
        repeat (refine stp rfl ?_ ?_;·repeat' constructor)
        refine ⟨trivial, ?_, rfl, rfl, rfl, rfl, rfl, trivial⟩
        rw [h]; rfl
      · repeat (refine stp rfl ?_ ?_;·repeat' constructor)
        refine ⟨trivial, ?_, rfl, rfl, rfl, rfl, rfl, trivial⟩
        rw [h]; rfl
    intro _ s
    refine pw_cond rfl (fun h => ?_) (fun h => ?_)
    · repeat (refine stp rfl ?_ ?_;·repeat' constructor)
      exact end1i rfl rfl (by rw [it, if_pos]; simpa using h)
    have hs1 : ¬ (x.space ≠ [] ∧ noSpace w x.space = true) := by
      intro hh; rw [hh.2] at h; simp [hh.1] at h
    clear h
    rw [if_neg hs1] at it
    repeat (refine stp rfl ?_ ?_;·repeat' constructor)
    (first | refine ps_split rfl rfl (fun h => ?_) (fun h => ?_) | refine pq_split rfl rfl (fun h => ?_) (fun h => ?_) | refine p3_split rfl rfl (fun h => ?_) (fun h => ?_))
    · repeat (refine stp rfl ?_ ?_;·repeat' constructor)
      exact end1i rfl rfl (by have h' := of_decide_eq_true h; rw [it, if_neg]; simp [inside]; omega)
    have hk1 := of_decide_eq_false h
    repeat (refine stp rfl ?_ ?_;·repeat' constructor)
    refine pw_cond rfl (fun h => ?_) (fun h => ?_)
    · repeat (refine stp rfl ?_ ?_;·repeat' constructor)
      exact end1i rfl rfl (by have h' := of_decide_eq_true h; rw [it, if_neg]; simp [inside]; omega)
    have hk2 := of_decide_eq_false h
    have hin : inside x.kind (-1) 5 = true := by simp [inside]; omega
    rw [if_pos hin] at it
    repeat (refine stp rfl ?_ ?_;·repeat' constructor)
    (first | refine ps_split rfl rfl (fun h => ?_) (fun h => ?_) | refine pq_split rfl rfl (fun h => ?_) (fun h => ?_) | refine p3_split rfl rfl (fun h => ?_) (fun h => ?_))
    · have hne : x.kind ≠ -1 := by simpa using h
      repeat (refine stp rfl ?_ ?_;·repeat' constructor)
      refine pw_cond rfl (fun h => ?_) (fun h => ?_)
      · repeat (refine stp rfl ?_ ?_;·repeat' constructor)
        exact end1i rfl rfl (by rw [it, if_pos ⟨hne, of_decide_eq_true h⟩])
      · repeat (refine stp rfl ?_ ?_;·repeat' constructor)
        exact ⟨⟨hs1, hin, fun hh => of_decide_eq_false h hh.2⟩, rfl, rfl, rfl, rfl, rfl, trivial⟩
    · repeat (refine stp rfl ?_ ?_;·repeat' constructor)
      have he : x.kind = -1 := by simpa using h
      exact ⟨⟨hs1, hin, fun hh => hh.1 he⟩, rfl, rfl, rfl, rfl, rfl, trivial⟩
  rintro ⟨hs1, hin, hf⟩ s
  rw [if_neg hs1, if_pos hin, if_neg hf] at it
  repeat (refine stp rfl ?_ ?_;·repeat' constructor)
  refine pw_loop (ClearE x.after fun _ s => afterE w x s) (fun k => [(2, .sl ((w.items.map (·.name)).map eS)), (4, .ptr 4 1 0 0), (91, .sl (x.after.map eS)), (92, I x.after.length), (93, I k)]) (fun _ => [(4, 1, ⟨73, 7, [eItem x], 2⟩)]) (fun k => x.after.length - k) 0 .zero' ⟨rfl, rfl, rfl, ?_, rfl, rfl, trivial⟩ ?_
  · show I ((x.after.map eS).length) = _
    simp
  intro k s hk
  repeat (refine stp rfl ?_ ?_;·repeat' constructor)
  refine pw_cond rfl (fun h => ?_) (fun h => ?_)
  · have hlt : k < x.after.length := by simpa using h
    obtain ⟨m, hx⟩ := get_lt hlt
    clear h
    have bad : ∀ e, afterE w x m = e → e ≠ 0 → itemE w x = e := fun e hb he => by
      rw [it, hk.found (e := e) hx hb he]
    repeat (refine stp rfl ?_ ?_;·repeat' constructor)
    apply qst;exact rfl;exact rfl;exact q_idxm rfl rfl rfl rfl rfl (by omega) hx rfl
    repeat (refine stp rfl ?_ ?_;·repeat' constructor)
    apply qst;exact rfl;exact rfl;exact q_callP rfl (contains_ret (w.items.map (·.name)) m (by simpa using h3)) rfl (by repeat' constructor) rfl rfl
    repeat (refine stp rfl ?_ ?_;·repeat' constructor)
    refine pw_cond rfl (fun h => ?_) (fun h => ?_)
    · repeat (refine stp rfl ?_ ?_;·repeat' constructor)
      exact end1i rfl rfl (by rw [bad 6 _ (by omega)]; rw [afterE, if_neg]; simp_all)
    have hc : (w.items.map (·.name)).any (· == m) = true := by simpa using h
    repeat (refine stp rfl ?_ ?_;·repeat' constructor)
    refine pw_cond rfl (fun h => ?_) (fun h => ?_)
    · repeat (refine stp rfl ?_ ?_;·repeat' constructor)
      exact end1i rfl rfl (by rw [bad 3 _ (by omega)]; rw [afterE, if_pos hc, if_pos (of_decide_eq_true h)])
    · repeat (refine stp rfl ?_ ?_;·repeat' constructor)
      refine ⟨k + 1, hk.succ hx (by rw [afterE, if_pos hc, if_neg (of_decide_eq_false h)]), by omega, rfl, rfl, rfl, rfl, ?_, rfl, trivial⟩
      exact i64_next (by omega) (by omega)
  · repeat (refine stp rfl ?_ ?_;·repeat' constructor)
    exact end1i rfl rfl (by rw [it, hk.none (by simpa using h)])
end Go.Pv


set_option maxHeartbeats 2000000
namespace Go.Pv
attribute [local irreducible] PWP POps PQuiet PSem XThen XBlock RetPost InlPost
open Go.Proofs
theorem noSpace_idx (w : SWork) (n : Str) : decide (idx w.spaces (·.name == n) < 0) = noSpace w n := by
  rw [idx_neg, noSpace, List.any_map]; rfl
def tradesE (w : SWork) : Int := if 6 < w.trades.length then 8 else fstE w.trades fun i t => if isName t.name then (if idx w.trades (·.name == t.name) = i then tradeE t else 5) else 4
def spacesE (w : SWork) : Int := if 12 < w.spaces.length then 8 else fstE w.spaces fun i x => if isName x.name then (if idx w.spaces (·.name == x.name) = i then spaceE w x else 5) else 4
def roomE (w : SWork) : Int := if spacesE w = 0 then rulesE w else spacesE w
theorem checkTrades_ret (w : SWork) (hw : w.trades.length ≤ 1000000) : Ret Tryz.prog .shared 31 [.agg (eWork w)] (I (tradesE w)) := by
  refine Ret.of_pwp layOk mixed Go.Proofs.Tryz.func31 rfl (by decide) rfl rfl ?_
  repeat (refine stp rfl ?_ ?_;·repeat' constructor)
  have hml : ((w.trades.map eTrade).length : Int) = w.trades.length := by simp
  refine pw_cond rfl (fun h => ?_) (fun h => ?_)
  · repeat (refine stp rfl ?_ ?_;·repeat' constructor)
    exact end1i rfl rfl (by have h' := of_decide_eq_true h; rw [tradesE, if_pos]; omega)
  have hl : ¬ 6 < w.trades.length := by have h' := of_decide_eq_false h; omega
  clear h
  repeat (refine stp rfl ?_ ?_;·repeat' constructor)
  refine pw_loop (ClearE w.trades fun i t => if isName t.name then (if idx w.trades (·.name == t.name) = i then tradeE t else 5) else 4) (fun k => [(1, .ptr 1 1 0 0), (3, I k)]) (fun _ => [(1, 1, ⟨28, 9, [eWork w], 2⟩)]) (fun k => w.trades.length - k) 0 .zero' ⟨rfl, rfl, rfl, trivial⟩ ?_
  intro k s hk
  repeat (refine stp rfl ?_ ?_;·repeat' constructor)
  refine pw_cond rfl (fun h => ?_) (fun h => ?_)
  · have hlt : k < w.trades.length := by simpa using h
    obtain ⟨x, hx⟩ := get_lt hlt
    clear h
    have bad : ∀ e, (if isName x.name then (if idx w.trades (·.name == x.name) = k then tradeE x else 5) else 4) = e → e ≠ 0 → tradesE w = e := fun e hb he => by
      rw [tradesE, if_neg hl, hk.found (e := e) hx hb he]
    repeat (refine stp rfl ?_ ?_;·repeat' constructor)
    apply qst;exact rfl;exact rfl;exact q_idxm rfl rfl rfl rfl rfl (by omega) hx rfl
    repeat (refine stp rfl ?_ ?_;·repeat' constructor)
    apply qst;exact rfl;exact rfl;exact q_callP rfl (isName_ref x.name) rfl (by repeat' constructor) rfl rfl
    repeat (refine stp rfl ?_ ?_;·repeat' constructor)
    refine pw_cond rfl (fun h => ?_) (fun h => ?_)
    · have hn : ¬ isName x.name = true := by simpa using h
      repeat (refine stp rfl ?_ ?_;·repeat' constructor)
      exact end1i rfl rfl (by rw [bad 4 (if_neg hn) (by omega)])
    have hn : isName x.name = true := by simpa using h
    repeat (refine stp rfl ?_ ?_;·repeat' constructor)
    apply qst;exact rfl;exact rfl;exact q_callP rfl (tradeOf_ret w x.name hw) rfl (by repeat' constructor) rfl rfl
    repeat (refine stp rfl ?_ ?_;·repeat' constructor)
    refine pw_cond rfl (fun h => ?_) (fun h => ?_)
    · have hi : ¬ idx w.trades (·.name == x.name) = k := by simpa using h
      repeat (refine stp rfl ?_ ?_;·repeat' constructor)
      exact end1i rfl rfl (by rw [bad 5 (by rw [if_pos hn, if_neg hi]) (by omega)])
    have hi : idx w.trades (·.name == x.name) = k := by simpa using h
    have own : (if isName x.name then (if idx w.trades (·.name == x.name) = k then tradeE x else 5) else 4) = tradeE x := by rw [if_pos hn, if_pos hi]
    repeat (refine stp rfl ?_ ?_;·repeat' constructor)
    apply qst;exact rfl;exact rfl;exact q_callP rfl (inside_ret x.crew 0 1000) rfl (by repeat' constructor) rfl rfl
    repeat (refine stp rfl ?_ ?_;·repeat' constructor)
    (first | refine ps_split rfl rfl (fun h => ?_) (fun h => ?_) | refine pq_split rfl rfl (fun h => ?_) (fun h => ?_) | refine p3_split rfl rfl (fun h => ?_) (fun h => ?_))
    · repeat (refine stp rfl ?_ ?_;·repeat' constructor)
      exact end1i rfl rfl (by rw [bad 2 _ (by omega)]; rw [own, tradeE, if_neg]; simp_all)
    have hc : inside x.crew 0 1000 = true := by simpa using h
    repeat (refine stp rfl ?_ ?_;·repeat' constructor)
    apply qst;exact rfl;exact rfl;exact q_callP rfl (inside_ret x.rate 0 1000000) rfl (by repeat' constructor) rfl rfl
    repeat (refine stp rfl ?_ ?_;·repeat' constructor)
    refine pw_cond rfl (fun h => ?_) (fun h => ?_)
    · repeat (refine stp rfl ?_ ?_;·repeat' constructor)
      exact end1i rfl rfl (by rw [bad 2 _ (by omega)]; rw [own, tradeE, if_neg]; simp_all)
    have hr : inside x.rate 0 1000000 = true := by simpa using h
    repeat (refine stp rfl ?_ ?_;·repeat' constructor)
    refine ⟨k + 1, hk.succ hx (own.trans (by rw [tradeE, hc, hr]; rfl)), by omega, rfl, ?_, rfl, trivial⟩
    exact i64_next (by omega) (by omega)
  · repeat (refine stp rfl ?_ ?_;·repeat' constructor)
    exact end1i rfl rfl (by rw [tradesE, if_neg hl, hk.none (by simpa using h)])
theorem checkSpaces_ret (w : SWork) (hw : w.spaces.length ≤ 1000000) (hn : ∀ x ∈ w.spaces, x.next.length ≤ 1000000) : Ret Tryz.prog .shared 32 [.agg (eWork w)] (I (roomE w)) := by
  refine Ret.of_pwp layOk mixed Go.Proofs.Tryz.func32 rfl (by decide) rfl rfl ?_
  repeat (refine stp rfl ?_ ?_;·repeat' constructor)
  have hml : ((w.spaces.map eSpace).length : Int) = w.spaces.length := by simp
  refine pw_cond rfl (fun h => ?_) (fun h => ?_)
  · repeat (refine stp rfl ?_ ?_;·repeat' constructor)
    exact end1i rfl rfl (by have h' := of_decide_eq_true h; have : spacesE w = 8 := (by rw [spacesE, if_pos]; omega); rw [roomE, this]; rfl)
  have hl : ¬ 12 < w.spaces.length := by have h' := of_decide_eq_false h; omega
  clear h
  repeat (refine stp rfl ?_ ?_;·repeat' constructor)
  refine pw_loop (ClearE w.spaces fun i x => if isName x.name then (if idx w.spaces (·.name == x.name) = i then spaceE w x else 5) else 4) (fun k => [(1, .ptr 1 1 0 0), (3, I k)]) (fun _ => [(1, 1, ⟨28, 9, [eWork w], 2⟩)]) (fun k => w.spaces.length - k) 0 .zero' ⟨rfl, rfl, rfl, trivial⟩ ?_
  intro k s hk
  repeat (refine stp rfl ?_ ?_;·repeat' constructor)
  refine pw_cond rfl (fun h => ?_) (fun h => ?_)
  · have hlt : k < w.spaces.length := by simpa using h
    obtain ⟨x, hx⟩ := get_lt hlt
    clear h
    have bad : ∀ e, (if isName x.name then (if idx w.spaces (·.name == x.name) = k then spaceE w x else 5) else 4) = e → e ≠ 0 → roomE w = e := fun e hb he => by
      have : spacesE w = e := by rw [spacesE, if_neg hl, hk.found (e := e) hx hb he]
      rw [roomE, this, if_neg he]
    have hxn := hn x (List.mem_of_getElem? hx)
    repeat (refine stp rfl ?_ ?_;·repeat' constructor)
    apply qst;exact rfl;exact rfl;exact q_idxm rfl rfl rfl rfl rfl (by omega) hx rfl
    repeat (refine stp rfl ?_ ?_;·repeat' constructor)
    apply qst;exact rfl;exact rfl;exact q_callP rfl (isName_ref x.name) rfl (by repeat' constructor) rfl rfl
    repeat (refine stp rfl ?_ ?_;·repeat' constructor)
    refine pw_cond rfl (fun h => ?_) (fun h => ?_)
    · have hn : ¬ isName x.name = true := by simpa using h
      repeat (refine stp rfl ?_ ?_;·repeat' constructor)
      exact end1i rfl rfl (by rw [bad 4 (if_neg hn) (by omega)])
    have hn : isName x.name = true := by simpa using h
    repeat (refine stp rfl ?_ ?_;·repeat' constructor)
    apply qst;exact rfl;exact rfl;exact q_callP rfl (spaceOf_ret w x.name hw) rfl (by repeat' constructor) rfl rfl
    repeat (refine stp rfl ?_ ?_;·repeat' constructor)
    refine pw_cond rfl (fun h => ?_) (fun h => ?_)
    · have hi : ¬ idx w.spaces (·.name == x.name) = k := by simpa using h
      repeat (refine stp rfl ?_ ?_;·repeat' constructor)
      exact end1i rfl rfl (by rw [bad 5 (by rw [if_pos hn, if_neg hi]) (by omega)])
    have hi : idx w.spaces (·.name == x.name) = k := by simpa using h
    have own : (if isName x.name then (if idx w.spaces (·.name == x.name) = k then spaceE w x else 5) else 4) = spaceE w x := by rw [if_pos hn, if_pos hi]
    repeat (refine stp rfl ?_ ?_;·repeat' constructor)
    refine pw_loop (Clear x.next (noSpace w)) (fun j => [(1, .ptr 1 1 0 0), (3, I k), (4, .ptr 4 ((s.own 4).1 + 1) 0 0), (5, I j)]) (fun _ => [(1, 1, ⟨28, 9, [eWork w], 2⟩), (4, (s.own 4).1 + 1, ⟨95, 3, [eSpace x], 2⟩)]) (fun j => x.next.length - j) 0 .zero ⟨rfl, rfl, rfl, rfl, rfl, rfl, trivial⟩ ?_
    clear h
    intro j s' hj
    repeat (refine stp rfl ?_ ?_;·repeat' constructor)
    refine pw_cond rfl (fun h => ?_) (fun h => ?_)
    · have hlt' : j < x.next.length := by simpa using h
      obtain ⟨y, hy⟩ := get_lt hlt'
      clear h
      repeat (refine stp rfl ?_ ?_;·repeat' constructor)
      refine pw_draw 8 [43, 44, 45, 46, 47, 48, 49, 50] (by decide +kernel) ?_
      repeat (refine stp rfl ?_ ?_;·repeat' constructor)
      apply qst;exact rfl;exact rfl;exact q_idxm rfl rfl rfl rfl rfl (by omega) hy rfl
      repeat (refine stp rfl ?_ ?_;·repeat' constructor)
      apply qst;exact rfl;exact rfl;exact q_callP rfl (spaceOf_ret w y hw) rfl (by repeat' constructor) rfl rfl
      repeat (refine stp rfl ?_ ?_;·repeat' constructor)
      rw [noSpace_idx]
      refine pw_cond rfl (fun h => ?_) (fun h => ?_)
      · repeat (refine stp rfl ?_ ?_;·repeat' constructor)
        exact end1i rfl rfl (by rw [bad 6 _ (by omega)]; rw [own, spaceE, if_pos (any_of hy h)])
      · repeat (refine stp rfl ?_ ?_;·repeat' constructor)
        refine ⟨j + 1, hj.succ hy h, by omega, rfl, rfl, rfl, ?_, rfl, rfl, trivial⟩
        exact i64_next (by omega) (by omega)
    · have hz : spaceE w x = 0 := by rw [spaceE, hj.any (by simpa using h)]; rfl
      repeat (refine stp rfl ?_ ?_;·repeat' constructor)
      refine ⟨k + 1, hk.succ hx (own.trans hz), by omega, rfl, ?_, rfl, trivial⟩
      exact i64_next (by omega) (by omega)
  have hz : spacesE w = 0 := by rw [spacesE, if_neg hl, hk.none (by simpa using h)]
  have he : roomE w = rulesE w := by rw [roomE, if_pos hz]
  rw [he]
  clear h hk hl hml he hz
  repeat (refine stp rfl ?_ ?_;·repeat' constructor)
  have hml : ((w.excls.map eExcl).length : Int) = w.excls.length := by simp
  refine pw_cond rfl (fun h => ?_) (fun h => ?_)
  · repeat (refine stp rfl ?_ ?_;·repeat' constructor)
    exact end1i rfl rfl (by have h' := of_decide_eq_true h; rw [rulesE, if_pos (by omega)])
  have hl : ¬ 30 < w.excls.length := by have h' := of_decide_eq_false h; omega
  clear h
  repeat (refine stp rfl ?_ ?_;·repeat' constructor)
  refine pw_loop (ClearE w.excls fun _ x => exclE x) (fun k => [(1, .ptr 1 1 0 0), (6, I k)]) (fun _ => [(1, 1, ⟨28, 9, [eWork w], 2⟩)]) (fun k => w.excls.length - k) 0 .zero' ⟨rfl, rfl, rfl, trivial⟩ ?_
  intro k s hk
  repeat (refine stp rfl ?_ ?_;·repeat' constructor)
  refine pw_cond rfl (fun h => ?_) (fun h => ?_)
  · have hlt : k < w.excls.length := by simpa using h
    obtain ⟨x, hx⟩ := get_lt hlt
    clear h
    have bad : exclE x = 2 → rulesE w = 2 := fun hb => by
      have := hk.found (e := 2) hx hb (by omega)
      rw [rulesE, if_neg hl, this]; rfl
    repeat (refine stp rfl ?_ ?_;·repeat' constructor)
    apply qst;exact rfl;exact rfl;exact q_idxm rfl rfl rfl rfl rfl (by omega) hx rfl
    repeat (refine stp rfl ?_ ?_;·repeat' constructor)
    apply qst;exact rfl;exact rfl;exact q_callP rfl (inside_ret x.a 0 5) rfl (by repeat' constructor) rfl rfl
    repeat (refine stp rfl ?_ ?_;·repeat' constructor)
    (first | refine ps_split rfl rfl (fun h => ?_) (fun h => ?_) | refine pq_split rfl rfl (fun h => ?_) (fun h => ?_) | refine p3_split rfl rfl (fun h => ?_) (fun h => ?_))
    · repeat (refine stp rfl ?_ ?_;·repeat' constructor)
      exact end1i rfl rfl (by rw [bad]; simp_all [exclE])
    have ha := h
    repeat (refine stp rfl ?_ ?_;·repeat' constructor)
    apply qst;exact rfl;exact rfl;exact q_callP rfl (inside_ret x.b 0 5) rfl (by repeat' constructor) rfl rfl
    repeat (refine stp rfl ?_ ?_;·repeat' constructor)
    (first | refine ps_split rfl rfl (fun h => ?_) (fun h => ?_) | refine pq_split rfl rfl (fun h => ?_) (fun h => ?_) | refine p3_split rfl rfl (fun h => ?_) (fun h => ?_))
    · repeat (refine stp rfl ?_ ?_;·repeat' constructor)
      exact end1i rfl rfl (by rw [bad]; simp_all [exclE])
    have hb := h
    repeat (refine stp rfl ?_ ?_;·repeat' constructor)
    apply qst;exact rfl;exact rfl;exact q_callP rfl (inside_ret x.reach 0 2) rfl (by repeat' constructor) rfl rfl
    repeat (refine stp rfl ?_ ?_;·repeat' constructor)
    refine pw_cond rfl (fun h => ?_) (fun h => ?_)
    · repeat (refine stp rfl ?_ ?_;·repeat' constructor)
      exact end1i rfl rfl (by rw [bad]; simp_all [exclE])
    · repeat (refine stp rfl ?_ ?_;·repeat' constructor)
      refine ⟨k + 1, hk.succ hx (by simp_all [exclE]), by omega, rfl, ?_, rfl, trivial⟩
      exact i64_next (by omega) (by omega)
  have hz : fstE w.excls (fun _ x => exclE x) = 0 := hk.none (by simpa using h)
  clear h hk hml
  repeat (refine stp rfl ?_ ?_;·repeat' constructor)
  have hml : ((w.outs.map eOut).length : Int) = w.outs.length := by simp
  refine pw_cond rfl (fun h => ?_) (fun h => ?_)
  · repeat (refine stp rfl ?_ ?_;·repeat' constructor)
    exact end1i rfl rfl (by have h' := of_decide_eq_true h; rw [rulesE, if_neg hl, if_pos hz, if_pos (by omega)])
  have hl2 : ¬ 20 < w.outs.length := by have h' := of_decide_eq_false h; omega
  repeat (refine stp rfl ?_ ?_;·repeat' constructor)
  refine pw_loop (ClearE w.outs fun _ x => outE x) (fun k => [(1, .ptr 1 1 0 0), (8, I k)]) (fun _ => [(1, 1, ⟨28, 9, [eWork w], 2⟩)]) (fun k => w.outs.length - k) 0 .zero' ⟨rfl, rfl, rfl, trivial⟩ ?_
  intro k s hk
  repeat (refine stp rfl ?_ ?_;·repeat' constructor)
  refine pw_cond rfl (fun h => ?_) (fun h => ?_)
  · have hlt : k < w.outs.length := by simpa using h
    obtain ⟨x, hx⟩ := get_lt hlt
    clear h
    have bad : ∀ e, outE x = e → e ≠ 0 → rulesE w = e := fun e hb he => by
      have := hk.found (e := e) hx hb he
      rw [rulesE, if_neg hl, if_pos hz, if_neg hl2, this]
    repeat (refine stp rfl ?_ ?_;·repeat' constructor)
    apply qst;exact rfl;exact rfl;exact q_idxm rfl rfl rfl rfl rfl (by omega) hx rfl
    repeat (refine stp rfl ?_ ?_;·repeat' constructor)
    apply qst;exact rfl;exact rfl;exact q_callP rfl (inside_ret x.frm 0 400) rfl (by repeat' constructor) rfl rfl
    repeat (refine stp rfl ?_ ?_;·repeat' constructor)
    (first | refine ps_split rfl rfl (fun h => ?_) (fun h => ?_) | refine pq_split rfl rfl (fun h => ?_) (fun h => ?_) | refine p3_split rfl rfl (fun h => ?_) (fun h => ?_))
    · repeat (refine stp rfl ?_ ?_;·repeat' constructor)
      exact end1i rfl rfl (by rw [bad 2 _ (by omega)]; simp_all [outE])
    have ha := h
    repeat (refine stp rfl ?_ ?_;·repeat' constructor)
    apply qst;exact rfl;exact rfl;exact q_callP rfl (inside_ret x.to 0 400) rfl (by repeat' constructor) rfl rfl
    repeat (refine stp rfl ?_ ?_;·repeat' constructor)
    refine pw_cond rfl (fun h => ?_) (fun h => ?_)
    · repeat (refine stp rfl ?_ ?_;·repeat' constructor)
      exact end1i rfl rfl (by rw [bad 2 _ (by omega)]; simp_all [outE])
    have hb := h
    repeat (refine stp rfl ?_ ?_;·repeat' constructor)
    refine pw_cond rfl (fun h => ?_) (fun h => ?_)
    · repeat (refine stp rfl ?_ ?_;·repeat' constructor)
      exact end1i rfl rfl (by rw [bad 10 _ (by omega)]; simp_all [outE])
    · repeat (refine stp rfl ?_ ?_;·repeat' constructor)
      refine ⟨k + 1, hk.succ hx (by simp_all [outE]), by omega, rfl, ?_, rfl, trivial⟩
      exact i64_next (by omega) (by omega)
  · repeat (refine stp rfl ?_ ?_;·repeat' constructor)
    exact end1i rfl rfl (by rw [rulesE, if_neg hl, if_pos hz, if_neg hl2, hk.none (by simpa using h)])
end Go.Pv


set_option maxHeartbeats 2000000
namespace Go.Pv
attribute [local irreducible] PWP POps PQuiet PSem XThen XBlock RetPost InlPost
open Go.Proofs
theorem noItem_idx (w : SWork) (n : Str) : decide (idx w.items (·.name == n) < 0) = !(w.items.map (·.name)).any (· == n) := by
  rw [idx_neg, List.any_map]; rfl
theorem checkItem_ret (w : SWork) (x : SItem) (h1 : w.trades.length ≤ 1000000) (h2 : w.spaces.length ≤ 1000000) (h3 : w.items.length ≤ 1000000) (h4 : x.after.length ≤ 1000000) :
    Ret Tryz.prog .shared 35 [.agg (eWork w), .agg (eItem x)] (I (itemE w x)) := by
  have hml : ((x.modes.map eMode).length : Int) = x.modes.length := by simp
  refine Ret.of_pwp layOk mixed Go.Proofs.Tryz.func35 rfl (by decide) rfl rfl ?_
  repeat (refine stp rfl ?_ ?_;·repeat' constructor)
  apply qst;exact rfl;exact rfl;exact q_callP rfl (tradeOf_ret w x.trade h1) rfl (by repeat' constructor) rfl rfl
  repeat (refine stp rfl ?_ ?_;·repeat' constructor)
  refine pw_cond rfl (fun h => ?_) (fun h => ?_)
  · repeat (refine stp rfl ?_ ?_;·repeat' constructor)
    exact end1i rfl rfl (by rw [itemE, if_pos (of_decide_eq_true h)])
  have ht : ¬ idx w.trades (·.name == x.trade) < 0 := of_decide_eq_false h
  clear h
  obtain ⟨t, htr, _⟩ := idx_lt (Int.not_lt.1 ht)
  have hcrew : crewOf w x = t.crew := by rw [crewOf, htr]
  have it : itemE w x = itemE w x := rfl
  conv at it => rhs; rw [itemE, if_neg ht]
  repeat (refine stp rfl ?_ ?_;·repeat' constructor)
  (first | refine ps_split rfl rfl (fun h => ?_) (fun h => ?_) | refine pq_split rfl rfl (fun h => ?_) (fun h => ?_) | refine p3_split rfl rfl (fun h => ?_) (fun h => ?_))
  · repeat (refine stp rfl ?_ ?_;·repeat' constructor)
    exact end1i rfl rfl (by have h' := of_decide_eq_true h; rw [it, if_pos]; rw [Bool.or_eq_true]; exact .inl (decide_eq_true (by omega)))
  have hm1 := of_decide_eq_false h
  repeat (refine stp rfl ?_ ?_;·repeat' constructor)
  refine pw_cond rfl (fun h => ?_) (fun h => ?_)
  · repeat (refine stp rfl ?_ ?_;·repeat' constructor)
    exact end1i rfl rfl (by have h' := of_decide_eq_true h; rw [it, if_pos]; rw [Bool.or_eq_true]; exact .inr (decide_eq_true (by omega)))
  have hm2 := of_decide_eq_false h
  have hm : ¬ (decide (x.modes.length < 1) || decide (3 < x.modes.length)) = true := by
    rw [Bool.or_eq_true, decide_eq_true_eq, decide_eq_true_eq]; omega
  clear h hm1
  rw [if_neg hm] at it
  repeat (refine stp rfl ?_ ?_;·repeat' constructor)
  refine pw_loop (ClearE x.modes fun _ m => modeE (crewOf w x) m) (fun k => [(2, .ptr 2 1 0 0), (3, .ptr 3 1 0 0), (5, I (idx w.trades (·.name == x.trade))), (6, I k)]) (fun _ => [(2, 1, ⟨28, 9, [eWork w], 2⟩), (3, 1, ⟨73, 7, [eItem x], 2⟩)]) (fun k => x.modes.length - k) 0 .zero' ⟨rfl, rfl, rfl, rfl, rfl, rfl, trivial⟩ ?_
  intro k s hk
  repeat (refine stp rfl ?_ ?_;·repeat' constructor)
  refine pw_cond rfl (fun h => ?_) (fun h => ?_)
  · have hlt : k < x.modes.length := by simpa using h
    obtain ⟨m, hx⟩ := get_lt hlt
    clear h
    have bad : ∀ e, modeE t.crew m = e → e ≠ 0 → itemE w x = e := fun e hb he => by
      have := hk.found (e := e) hx (by rw [hcrew]; exact hb) he
      rw [it, this, if_neg he]
    repeat (refine stp rfl ?_ ?_;·repeat' constructor)
    apply qst;exact rfl;exact rfl;exact q_idxm rfl rfl rfl rfl rfl (by omega) hx rfl
    repeat (refine stp rfl ?_ ?_;·repeat' constructor)
    apply qst;exact rfl;exact rfl;exact q_callP rfl (inside_ret m.days 1 60) rfl (by repeat' constructor) rfl rfl
    repeat (refine stp rfl ?_ ?_;·repeat' constructor)
    (first | refine ps_split rfl rfl (fun h => ?_) (fun h => ?_) | refine pq_split rfl rfl (fun h => ?_) (fun h => ?_) | refine p3_split rfl rfl (fun h => ?_) (fun h => ?_))
    · repeat (refine stp rfl ?_ ?_;·repeat' constructor)
      exact end1i rfl rfl (by rw [bad 2 _ (by omega)]; rw [modeE, if_neg]; simp_all)
    have hd : inside m.days 1 60 = true := by simpa using h
    repeat (refine stp rfl ?_ ?_;·repeat' constructor)
    apply qst;exact rfl;exact rfl;exact q_callP rfl (inside_ret m.crew 0 1000) rfl (by repeat' constructor) rfl rfl
    repeat (refine stp rfl ?_ ?_;·repeat' constructor)
    refine pw_cond rfl (fun h => ?_) (fun h => ?_)
    · repeat (refine stp rfl ?_ ?_;·repeat' constructor)
      exact end1i rfl rfl (by rw [bad 2 _ (by omega)]; rw [modeE, if_neg]; simp_all)
    have hc : inside m.crew 0 1000 = true := by simpa using h
    repeat (refine stp rfl ?_ ?_;·repeat' constructor)
    refine pw_draw 9 [47, 48, 49, 50, 51, 52, 53, 54, 55] (by decide +kernel) ?_
    repeat (refine stp rfl ?_ ?_;·repeat' constructor)
    apply qst;exact rfl;exact rfl;exact q_idxm rfl rfl rfl rfl rfl (by omega) htr rfl
    repeat (refine stp rfl ?_ ?_;·repeat' constructor)
    refine pw_cond rfl (fun h => ?_) (fun h => ?_)
    · repeat (refine stp rfl ?_ ?_;·repeat' constructor)
      exact end1i rfl rfl (by rw [bad 23 _ (by omega)]; rw [modeE, if_pos (by rw [hd, hc]; rfl), if_pos (of_decide_eq_true h)])
    · repeat (refine stp rfl ?_ ?_;·repeat' constructor)
      refine ⟨k + 1, hk.succ hx (by rw [hcrew, modeE, if_pos (by rw [hd, hc]; rfl), if_neg (of_decide_eq_false h)]), by omega, rfl, rfl, rfl, ?_, rfl, rfl, trivial⟩
      exact i64_next (by omega) (by omega)
  have hz := hk.none (by simpa using h)
  rw [if_pos hz] at it
  clear h hk hml
  repeat (first | refine pw_exit ?_ | refine pw_skip ?_ | refine x_norm ?_ | refine x_exit ?_ | refine xb_norm ?_ | refine xb_here ?_ | refine xb_away rfl ?_)
  refine pw_seq ?_
  refine pw_cutP True [(65, .bool (!decide (x.space = []) && noSpace w x.space)), (2, .ptr 2 1 0 0), (3, .ptr 3 1 0 0)] [(2, 1, ⟨28, 9, [eWork w], 2⟩), (3, 1, ⟨73, 7, [eItem x], 2⟩)] ?_ ?_
  · repeat (refine stp rfl ?_ ?_;·repeat' constructor)
    (first | refine ps_split rfl rfl (fun h => ?_) (fun h => ?_) | refine pq_split rfl rfl (fun h => ?_) (fun h => ?_) | refine p3_split rfl rfl (fun h => ?_) (fun h => ?_))
    · repeat (refine stp rfl ?_ ?_;·repeat' constructor)
      apply qst;exact rfl;exact rfl;exact q_callP rfl (spaceOf_ret w x.space h2) rfl (by repeat' constructor) rfl rfl
      repeat (refine stp rfl ?_ ?_;·repeat' constructor)
      refine ⟨trivial, ?_, rfl, rfl, rfl, rfl, trivial⟩
      rw [h, ← noSpace_idx]; rfl
    · repeat (refine stp rfl ?_ ?_;·repeat' constructor)
      refine ⟨trivial, ?_, rfl, rfl, rfl, rfl, trivial⟩
      rw [h]; rfl
  intro _ s
  repeat (refine stp rfl ?_ ?_;·repeat' constructor)
  refine pw_cond rfl (fun h => ?_) (fun h => ?_)
  · repeat (refine stp rfl ?_ ?_;·repeat' constructor)
    exact end1i rfl rfl (by rw [it, if_pos]; simpa using h)
  have hs1 : ¬ (x.space ≠ [] ∧ noSpace w x.space = true) := by
    intro hh; rw [hh.2] at h; simp [hh.1] at h
  clear h
  rw [if_neg hs1] at it
  repeat (refine stp rfl ?_ ?_;·repeat' constructor)
  apply qst;exact rfl;exact rfl;exact q_callP rfl (inside_ret x.kind (-1) 5) rfl (by repeat' constructor) rfl rfl
  repeat (refine stp rfl ?_ ?_;·repeat' constructor)
  refine pw_cond rfl (fun h => ?_) (fun h => ?_)
  · have hin : ¬ inside x.kind (-1) 5 = true := by simpa using h
    repeat (refine stp rfl ?_ ?_;·repeat' constructor)
    exact end1i rfl rfl (by rw [it, if_neg hin])
  have hin : inside x.kind (-1) 5 = true := by simpa using h
  rw [if_pos hin] at it
  clear h
  repeat (first | refine pw_exit ?_ | refine pw_skip ?_ | refine x_norm ?_ | refine x_exit ?_ | refine xb_norm ?_ | refine xb_here ?_ | refine xb_away rfl ?_)
  refine pw_seq ?_
  refine pw_cutP True [(77, .bool (!decide (x.kind = -1) && decide (x.space = []))), (2, .ptr 2 1 0 0), (3, .ptr 3 1 0 0)] [(2, 1, ⟨28, 9, [eWork w], 2⟩), (3, 1, ⟨73, 7, [eItem x], 2⟩)] ?_ ?_
  · repeat (refine stp rfl ?_ ?_;·repeat' constructor)
    (first | refine ps_split rfl rfl (fun h => ?_) (fun h => ?_) | refine pq_split rfl rfl (fun h => ?_) (fun h => ?_) | refine p3_split rfl rfl (fun h => ?_) (fun h => ?_))
    · repeat (refine stp rfl ?_ ?_;·repeat' constructor)
      refine ⟨trivial, ?_, rfl, rfl, rfl, rfl, trivial⟩
      rw [h]; rfl
    · repeat (refine stp rfl ?_ ?_;·repeat' constructor)
      refine ⟨trivial, ?_, rfl, rfl, rfl, rfl, trivial⟩
      rw [h]; rfl
  intro _ s
  repeat (refine stp rfl ?_ ?_;·repeat' constructor)
  refine pw_cond rfl (fun h => ?_) (fun h => ?_)
  · repeat (refine stp rfl ?_ ?_;·repeat' constructor)
    exact end1i rfl rfl (by rw [it, if_pos]; simpa using h)
  have hf : ¬ (x.kind ≠ -1 ∧ x.space = []) := by intro hh; simp [hh.1, hh.2] at h
  rw [if_neg hf] at it
  clear h
  repeat (refine stp rfl ?_ ?_;·repeat' constructor)
  refine pw_loop (ClearE x.after fun _ s => afterE w x s) (fun k => [(2, .ptr 2 1 0 0), (3, .ptr 3 1 0 0), (8, I k)]) (fun _ => [(2, 1, ⟨28, 9, [eWork w], 2⟩), (3, 1, ⟨73, 7, [eItem x], 2⟩)]) (fun k => x.after.length - k) 0 .zero' ⟨rfl, rfl, rfl, rfl, rfl, trivial⟩ ?_
  intro k s hk
  repeat (refine stp rfl ?_ ?_;·repeat' constructor)
  refine pw_cond rfl (fun h => ?_) (fun h => ?_)
  · have hlt : k < x.after.length := by simpa using h
    obtain ⟨m, hx⟩ := get_lt hlt
    clear h
    have bad : ∀ e, afterE w x m = e → e ≠ 0 → itemE w x = e := fun e hb he => by
      rw [it, hk.found (e := e) hx hb he]
    repeat (refine stp rfl ?_ ?_;·repeat' constructor)
    refine pw_draw 8 [85, 86, 87, 88, 89, 90, 91, 92] (by decide +kernel) ?_
    repeat (refine stp rfl ?_ ?_;·repeat' constructor)
    apply qst;exact rfl;exact rfl;exact q_idxm rfl rfl rfl rfl rfl (by omega) hx rfl
    repeat (refine stp rfl ?_ ?_;·repeat' constructor)
    apply qst;exact rfl;exact rfl;exact q_callP rfl (itemOf_ret w m h3) rfl (by repeat' constructor) rfl rfl
    repeat (refine stp rfl ?_ ?_;·repeat' constructor)
    rw [noItem_idx]
    refine pw_cond rfl (fun h => ?_) (fun h => ?_)
    · repeat (refine stp rfl ?_ ?_;·repeat' constructor)
      exact end1i rfl rfl (by rw [bad 6 _ (by omega)]; rw [afterE, if_neg]; simp_all)
    have hc : (w.items.map (·.name)).any (· == m) = true := by simpa using h
    clear h
    repeat (refine stp rfl ?_ ?_;·repeat' constructor)
    refine pw_draw 8 [93, 94, 95, 96, 97, 98, 99, 100] (by decide +kernel) ?_
    repeat (refine stp rfl ?_ ?_;·repeat' constructor)
    apply qst;exact rfl;exact rfl;exact q_idxm rfl rfl rfl rfl rfl (by omega) hx rfl
    repeat (refine stp rfl ?_ ?_;·repeat' constructor)
    refine pw_cond rfl (fun h => ?_) (fun h => ?_)
    · repeat (refine stp rfl ?_ ?_;·repeat' constructor)
      exact end1i rfl rfl (by rw [bad 3 _ (by omega)]; rw [afterE, if_pos hc, if_pos (of_decide_eq_true h)])
    · repeat (refine stp rfl ?_ ?_;·repeat' constructor)
      refine ⟨k + 1, hk.succ hx (by rw [afterE, if_pos hc, if_neg (of_decide_eq_false h)]), by omega, rfl, rfl, ?_, rfl, rfl, trivial⟩
      exact i64_next (by omega) (by omega)
  · repeat (refine stp rfl ?_ ?_;·repeat' constructor)
    exact end1i rfl rfl (by rw [it, hk.none (by simpa using h)])
end Go.Pv


set_option maxHeartbeats 2000000
namespace Go.Pv
attribute [local irreducible] PWP POps PQuiet PSem XThen XBlock RetPost InlPost
open Go.Proofs
def eL (l : List Int) : List PV := [.sl (l.map eI)]
def aft (w : SWork) (x : SItem) : List Int := x.after.map fun s => idx (w.items.map (·.name)) (· == s)
def bef (w : SWork) : List (List Int) := w.items.map (aft w)
def befRows (w : SWork) (k : Nat) : List (List PV) := ((bef w).take k).map eL ++ List.replicate (w.items.length - k) [.nil]
theorem befRows_len (w : SWork) {k : Nat} (hk : k ≤ w.items.length) : (befRows w k).length = w.items.length := by
  simp [befRows, bef]; omega
theorem befRows_at (w : SWork) {k : Nat} (hk : k < w.items.length) : (befRows w k)[k]? = some [.nil] := by
  have h1 : (((bef w).take k).map eL).length = k := by simp [bef]; omega
  rw [befRows, List.getElem?_append_right (by omega), h1, Nat.sub_self, List.getElem?_replicate, if_pos (by omega)]
theorem befRows_set (w : SWork) {k : Nat} {x : SItem} (hx : w.items[k]? = some x) : (befRows w k).set k (eL (aft w x)) = befRows w (k + 1) := by
  have hk := (List.getElem?_eq_some_iff.1 hx).1
  have h1 : (((bef w).take k).map eL).length = k := by simp [bef]; omega
  have hb : (bef w)[k]? = some (aft w x) := by rw [bef, List.getElem?_map, hx]; rfl
  rw [befRows, befRows, List.set_append, if_neg (by omega), h1, Nat.sub_self, take_snoc hb, List.map_append, show w.items.length - k = (w.items.length - (k + 1)) + 1 by omega, List.replicate_succ, List.set_cons_zero, List.append_assoc]
  rfl
theorem befRows_all (w : SWork) : befRows w w.items.length = (bef w).map eL := by
  rw [befRows, Nat.sub_self, List.take_of_length_le (by simp [bef])]; simp
theorem befRows_updown (w : SWork) (k : Nat) : ((befRows w k).map (·.map up0)).map (·.map (nrm 0)) = befRows w k := by
  rw [List.map_map]
  conv => rhs; rw [← List.map_id (befRows w k)]
  apply List.map_congr_left
  intro row hr
  rw [befRows] at hr
  rcases List.mem_append.1 hr with h | h
  · obtain ⟨l, _, rfl⟩ := List.mem_map.1 h; rfl
  · rw [List.eq_of_mem_replicate h]; rfl
theorem befRows_ok (w : SWork) (k : Nat) : ∀ row ∈ (befRows w k).map (·.map up0), row.all (kOk 0) = true := by
  intro row hr
  obtain ⟨row0, hr0, rfl⟩ := List.mem_map.1 hr
  rw [befRows] at hr0
  rcases List.mem_append.1 hr0 with h | h
  · obtain ⟨l, _, rfl⟩ := List.mem_map.1 h; rfl
  · rw [List.eq_of_mem_replicate h]; rfl
theorem before_ret (w : SWork) (h1 : w.items.length ≤ 100000) (h2 : ∀ x ∈ w.items, x.after.length ≤ 100000) : Ret Tryz.prog .shared 76 [.agg (eWork w)] (.sl ((bef w).map eL)) := by
  have hn : ((w.items.map (·.name)).map eS).length = w.items.length := by simp
  have hml : (w.items.map eItem).length = w.items.length := by simp
  refine Ret.of_pwp layOk mixed Go.Proofs.Tryz.func76 rfl (by decide) rfl rfl ?_
  repeat (refine stp rfl ?_ ?_;·repeat' constructor)
  apply qst;exact rfl;exact rfl;exact q_call rfl (itemNames_ret w (by omega)) rfl (by repeat' constructor) rfl
  repeat (refine stp rfl ?_ ?_;·repeat' constructor)
  refine ps_run (o_make rfl rfl rfl rfl rfl rfl rfl rfl (by omega) (by rw [hn]; show ((24 : Nat) : Int) * _ ≤ _; omega) (by rw [hn]; omega) ?_)
  repeat (refine stp rfl ?_ ?_;·repeat' constructor)
  refine pw_loop (fun k => k ≤ w.items.length) (fun k => [(1, .ptr 1 1 0 0), (3, .sl ((w.items.map (·.name)).map eS)), (4, .als 13 1 0 w.items.length), (15, .sl (w.items.map eItem)), (16, I w.items.length), (17, I k)]) (fun k => [(1, 1, ⟨28, 9, [eWork w], 2⟩), (13, 1, ⟨80, 1, befRows w k, 0⟩)]) (fun k => w.items.length - k) 0 (Nat.zero_le _) ⟨rfl, rfl, ?_, rfl, ?_, rfl, rfl, ?_, trivial⟩ ?_
  · show PV.als 13 1 0 (List.length (List.replicate (Int.toNat ((w.items.map (·.name)).map eS).length) _)) = _
    simp
  · show I ((w.items.map eItem).length) = _
    rw [hml]
  · show (1, some (Cont.mk 80 1 (List.replicate (Int.toNat ((w.items.map (·.name)).map eS).length) _) 0)) = _
    simp [befRows]
  intro k s hk
  repeat (refine stp rfl ?_ ?_;·repeat' constructor)
  refine pw_cond rfl (fun h => ?_) (fun h => ?_)
  · have hlt : k < w.items.length := by simpa using h
    obtain ⟨x, hx⟩ := get_lt hlt
    clear h
    have hax : x.after.length ≤ 100000 := h2 x (List.mem_of_getElem? hx)
    have hml2 : (x.after.map eS).length = x.after.length := by simp
    repeat (refine stp rfl ?_ ?_;·repeat' constructor)
    apply qst;exact rfl;exact rfl;exact q_idxm rfl rfl rfl rfl rfl (by omega) hx rfl
    repeat (refine stp rfl ?_ ?_;·repeat' constructor)
    refine pw_ghost (Ghost.raise (k0 := 13) rfl rfl rfl) ?_
    refine pw_ghost (Ghost.nilcell (k := 39) (k0 := 13) (i := k) (j := 0) 3 1 0 rfl rfl rfl rfl (row := [.nil]) (by rw [List.getElem?_map, befRows_at w hlt]; rfl) rfl rfl) ?_
    refine pw_loop (fun j => j ≤ x.after.length) (fun j => [(1, .ptr 1 1 0 0), (3, .sl ((w.items.map (·.name)).map eS)), (4, .als 13 1 0 w.items.length), (5, I k), (15, .sl (w.items.map eItem)), (16, I w.items.length), (17, I k), (23, .sl (x.after.map eS)), (24, I x.after.length), (25, I j)])
      (fun j => [(1, 1, ⟨28, 9, [eWork w], 2⟩), (13, 1, ⟨80, 1, ((befRows w k).map (·.map up0)).set k [.als 39 ((s.own 39).1 + 1 + j) 0 (((aft w x).take j).map eI).length], 2⟩), (39, (s.own 39).1 + 1 + j, ⟨3, 1, ((aft w x).take j).map eI, 0⟩)]) (fun j => x.after.length - j) 0 (Nat.zero_le _) ⟨rfl, rfl, rfl, rfl, rfl, rfl, rfl, rfl, ?_, rfl, rfl, rfl, rfl, trivial⟩ ?_
    · show I ((x.after.map eS).length) = _
      rw [hml2]
    intro j s' hj
    have hset : ∀ c : List PV, (((befRows w k).map (·.map up0)).set k c)[k]? = some c := fun c => List.getElem?_set_self (by rw [List.length_map, befRows_len w hk]; exact hlt)
    repeat (refine stp rfl ?_ ?_;·repeat' constructor)
    refine pw_cond rfl (fun h => ?_) (fun h => ?_)
    · have hlt' : j < x.after.length := by simpa using h
      obtain ⟨y, hy⟩ := get_lt hlt'
      clear h
      have hay : (aft w x)[j]? = some (idx (w.items.map (·.name)) (· == y)) := by rw [aft, List.getElem?_map, hy]; rfl
      repeat (refine stp rfl ?_ ?_;·repeat' constructor)
      apply qst;exact rfl;exact rfl;exact q_idxm rfl rfl rfl rfl rfl (by omega) hy rfl
      repeat (refine stp rfl ?_ ?_;·repeat' constructor)
      refine pw_draw2 10 0 [29, 30, 31, 32, 33, 34, 35, 36, 37, 38] [0,1] (by decide +kernel) rfl ?_
      repeat (refine stp rfl ?_ ?_;·repeat' constructor)
      refine pq_q (q_idxA rfl rfl rfl rfl rfl rfl rfl (by omega) (by omega)) ?_
      rw [Nat.zero_add, Int.toNat_natCast]
      refine pq_q (q_ldp rfl rfl rfl (hset _) rfl) ?_
      repeat (refine stp rfl ?_ ?_;·repeat' constructor)
      apply qst;exact rfl;exact rfl;exact q_callP rfl (index_ret (w.items.map (·.name)) y (by simp; omega)) rfl (by repeat' constructor) rfl rfl
      repeat (refine stp rfl ?_ ?_;·repeat' constructor)
      apply qst;exact rfl;exact rfl;exact q_slit rfl rfl rfl rfl rfl rfl rfl rfl rfl rfl (by repeat' constructor) rfl
      repeat (refine stp rfl ?_ ?_;·repeat' constructor)
      refine ps_run (o_app 0 rfl rfl rfl rfl rfl rfl rfl rfl rfl rfl rfl (by repeat' constructor) (by intro row hr; simp at hr; subst hr; rfl) rfl rfl (by simp [aft]; omega) (by simp [aft]; omega) ?_)
      repeat (refine stp rfl ?_ ?_;·repeat' constructor)
      refine ps_q (q_idxA rfl rfl rfl rfl rfl rfl rfl (by omega) (by omega)) ?_
      rw [Nat.zero_add, Int.toNat_natCast]
      refine ps_run0 (o_store (kd' := 2) rfl rfl rfl (hset _) rfl rfl (by repeat' constructor) rfl rfl rfl rfl ?_)
      repeat (refine stp rfl ?_ ?_;·repeat' constructor)
      have hrows : ((aft w x).take (j + 1)).map eI = ((aft w x).take j).map eI ++ [eI (idx (w.items.map (·.name)) (· == y))] := by rw [take_snoc hay, List.map_append]; rfl
      refine ⟨j + 1, hlt', by omega, rfl, rfl, rfl, rfl, rfl, rfl, rfl, rfl, rfl, ?_, rfl, ?_, ?_, trivial⟩
      · exact i64_next (by omega) (by omega)
      · refine Eq.trans (b := (1, some (Cont.mk 80 1 ((((befRows w k).map (·.map up0)).set k [.als 39 ((s.own 39).1 + 1 + j) 0 (((aft w x).take j).map eI).length]).set k [.als 39 ((s.own 39).1 + 1 + j + 1) 0 (((aft w x).take j).map eI ++ [eI (idx (w.items.map (·.name)) (· == y))]).length]) 2))) rfl ?_
        rw [List.set_set, ← hrows]; rfl
      · rw [hrows]; rfl
    · have hge : j = x.after.length := by have := of_decide_eq_false h; omega
      subst hge
      have hta : (aft w x).take x.after.length = aft w x := by rw [List.take_of_length_le]; simp [aft]
      rw [hta]
      clear h
      repeat (first | refine pw_exit ?_ | refine pw_skip ?_ | refine x_norm ?_ | refine x_exit ?_ | refine xb_norm ?_ | refine xb_here ?_ | refine xb_away rfl ?_)
      refine pw_ghost (Ghost.freeze (k := 39) (k0 := 13) (i := k) (j := 0) rfl rfl rfl rfl rfl (hset _) rfl rfl rfl) ?_
      refine pw_ghost (Ghost.lower (k0 := 13) 0 rfl rfl rfl ?_) ?_
      · intro row hr
        replace hr : row ∈ (((befRows w k).map (·.map up0)).set k [.als 39 ((s.own 39).1 + 1 + x.after.length) 0 ((aft w x).map eI).length]).set k [.fsl ((aft w x).map eI)] := hr
        rw [List.set_set] at hr
        rcases List.mem_or_eq_of_mem_set hr with hr | rfl
        · exact befRows_ok w k row hr
        · rfl
      repeat (refine stp rfl ?_ ?_;·repeat' constructor)
      refine ⟨k + 1, hlt, by omega, rfl, rfl, rfl, rfl, rfl, ?_, rfl, ?_, trivial⟩
      · exact i64_next (by omega) (by omega)
      · refine Eq.trans (b := (1, some (Cont.mk 80 1 (((((befRows w k).map (·.map up0)).set k [.als 39 ((s.own 39).1 + 1 + x.after.length) 0 ((aft w x).map eI).length]).set k [.fsl ((aft w x).map eI)]).map (·.map (nrm 0))) 0))) rfl ?_
        rw [List.set_set, List.map_set, befRows_updown, ← befRows_set w hx]; rfl
  · have hge : k = w.items.length := by have := of_decide_eq_false h; omega
    subst hge
    repeat (refine stp rfl ?_ ?_;·repeat' constructor)
    exact end1 rfl rfl rfl ⟨rfl, rfl, (befRows_len w (Nat.le_refl _)).symm⟩ (by rw [befRows_all])
end Go.Pv


set_option maxHeartbeats 2000000
namespace Go.Pv
attribute [local irreducible] PWP POps PQuiet PSem XThen XBlock RetPost InlPost
open Go.Proofs
theorem indexI_ret (l : List Int) (n : Int) (hw : l.length ≤ 1000000) : Ret Tryz.prog .shared 109 [.sl (l.map eI), I n] (I (idx l (· == n))) := by
  refine Ret.of_pwp layOk mixed Go.Proofs.Tryz.func109 rfl (by decide) rfl rfl ?_
  repeat (refine stp rfl ?_ ?_;·repeat' constructor)
  refine pw_loop (Clear l (· == n)) (fun k => [(0, .sl (l.map eI)), (1, I n), (7, I l.length), (8, I k)]) (fun _ => []) (fun k => l.length - k) 0 .zero ⟨rfl, rfl, ?_, rfl, trivial⟩ ?_
  · show I ((l.map eI).length) = _
    simp
  intro k s hk
  repeat (refine stp rfl ?_ ?_;·repeat' constructor)
  refine pw_cond rfl (fun h => ?_) (fun h => ?_)
  · have hlt : k < l.length := by simpa using h
    obtain ⟨x, hx⟩ := get_lt hlt
    repeat (refine stp rfl ?_ ?_;·repeat' constructor)
    apply qst;exact rfl;exact rfl;exact q_idxm rfl rfl rfl rfl rfl (by omega) hx rfl
    repeat (refine stp rfl ?_ ?_;·repeat' constructor)
    refine pw_cond rfl (fun h => ?_) (fun h => ?_)
    · repeat (refine stp rfl ?_ ?_;·repeat' constructor)
      exact end1i rfl rfl (by rw [hk.found hx (by have := of_decide_eq_true h; simp [this])])
    · repeat (refine stp rfl ?_ ?_;·repeat' constructor)
      refine ⟨k + 1, hk.succ hx (by have := of_decide_eq_false h; simp; exact fun e => this e.symm), by omega, rfl, rfl, rfl, ?_, trivial⟩
      exact i64_next (by omega) (by omega)
  · repeat (refine stp rfl ?_ ?_;·repeat' constructor)
    exact end1i rfl rfl (by rw [hk.none (by simpa using h)])
theorem containsI_ret (l : List Int) (n : Int) (hw : l.length ≤ 1000000) : Ret Tryz.prog .shared 113 [.sl (l.map eI), I n] (.bool (l.any (· == n))) := by
  refine Ret.of_pwp layOk mixed Go.Proofs.Tryz.func113 rfl (by decide) rfl rfl ?_
  repeat (refine stp rfl ?_ ?_;·repeat' constructor)
  apply qst;exact rfl;exact rfl;exact q_callP rfl (indexI_ret l n hw) rfl (by repeat' constructor) rfl rfl
  repeat (refine stp rfl ?_ ?_;·repeat' constructor)
  exact end1b rfl rfl (by rw [idx_nonneg])
theorem indexFI_ret (l : List Int) (f : FuncId) (c0 : List PV) (p : Int → Bool) (hw : l.length ≤ 1000000) (hf : ∀ x, x ∈ l → Ret Tryz.prog .shared f (I x :: [.dref c0 0]) (.bool (p x))) : Ret Tryz.prog .shared 111 [.sl (l.map eI), .clo f [.dref c0 0]] (I (idx l p)) := by
  refine Ret.of_pwp layOk mixed Go.Proofs.Tryz.func111 rfl (by decide) rfl rfl ?_
  repeat (refine stp rfl ?_ ?_;·repeat' constructor)
  refine pw_loop (Clear l p) (fun k => [(0, .sl (l.map eI)), (1, .clo f [.dref c0 0]), (7, I l.length), (8, I k)]) (fun _ => []) (fun k => l.length - k) 0 .zero ⟨rfl, rfl, ?_, rfl, trivial⟩ ?_
  · show I ((l.map eI).length) = _
    simp
  intro k s hk
  repeat (refine stp rfl ?_ ?_;·repeat' constructor)
  refine pw_cond rfl (fun h => ?_) (fun h => ?_)
  · have hlt : k < l.length := by simpa using h
    obtain ⟨x, hx⟩ := get_lt hlt
    repeat (refine stp rfl ?_ ?_;·repeat' constructor)
    apply qst;exact rfl;exact rfl;exact q_idxm rfl rfl rfl rfl rfl (by omega) hx rfl
    repeat (refine stp rfl ?_ ?_;·repeat' constructor)
    apply qst;exact rfl;exact rfl;exact q_callP rfl (hf x (List.mem_of_getElem? hx)) rfl (by repeat' constructor) rfl rfl
    repeat (refine stp rfl ?_ ?_;·repeat' constructor)
    refine pw_cond rfl (fun h => ?_) (fun h => ?_)
    · repeat (refine stp rfl ?_ ?_;·repeat' constructor)
      exact end1i rfl rfl (by rw [hk.found hx h])
    · repeat (refine stp rfl ?_ ?_;·repeat' constructor)
      refine ⟨k + 1, hk.succ hx h, by omega, rfl, rfl, rfl, ?_, trivial⟩
      exact i64_next (by omega) (by omega)
  · repeat (refine stp rfl ?_ ?_;·repeat' constructor)
    exact end1i rfl rfl (by rw [hk.none (by simpa using h)])
theorem containsFI_ret (l : List Int) (f : FuncId) (c0 : List PV) (p : Int → Bool) (hw : l.length ≤ 1000000) (hf : ∀ x, x ∈ l → Ret Tryz.prog .shared f (I x :: [.dref c0 0]) (.bool (p x))) : Ret Tryz.prog .shared 135 [.sl (l.map eI), .clo f [.dref c0 0]] (.bool (l.any p)) := by
  refine Ret.of_pwp layOk mixed Go.Proofs.Tryz.func135 rfl (by decide) rfl rfl ?_
  repeat (refine stp rfl ?_ ?_;·repeat' constructor)
  apply qst;exact rfl;exact rfl;exact q_callP rfl (indexFI_ret l f c0 p hw hf) rfl (by repeat' constructor) rfl rfl
  repeat (refine stp rfl ?_ ?_;·repeat' constructor)
  exact end1b rfl rfl (by rw [idx_nonneg])
def readyB (out l : List Int) : Bool := !l.any fun k => !out.any (· == k)
theorem ord11_ret (out : List Int) (ho : out.length ≤ 1000000) (k : Int) : Ret Tryz.prog .shared 136 [I k, .dref [.sl (out.map eI)] 0] (.bool (!out.any (· == k))) := by
  refine Ret.of_pwp layOk mixed Go.Proofs.Tryz.func136 rfl (by decide) rfl rfl ?_
  repeat (refine stp rfl ?_ ?_;·repeat' constructor)
  apply qst;exact rfl;exact rfl;exact q_callP rfl (containsI_ret out k ho) rfl (by repeat' constructor) rfl rfl
  repeat (refine stp rfl ?_ ?_;·repeat' constructor)
  exact end1b rfl rfl rfl
theorem ord1_ret (out : List Int) (ho : out.length ≤ 1000000) (l : List Int) (hl : l.length ≤ 1000000) : Ret Tryz.prog .shared 134 [.sl (l.map eI), .dref [.sl (out.map eI)] 0] (.bool (readyB out l)) := by
  refine Ret.of_pwp layOk mixed Go.Proofs.Tryz.func134 rfl (by decide) rfl rfl ?_
  repeat (refine stp rfl ?_ ?_;·repeat' constructor)
  apply qst;exact rfl;exact rfl;exact q_callP rfl (containsFI_ret l 136 [.sl (out.map eI)] (fun k => !out.any (· == k)) hl (fun k _ => ord11_ret out ho k)) rfl (by repeat' constructor) rfl rfl
  repeat (refine stp rfl ?_ ?_;·repeat' constructor)
  exact end1b rfl rfl rfl
theorem ord21_ret (out : List Int) (ho : out.length ≤ 1000000) (k : Int) : Ret Tryz.prog .shared 138 [I k, .dref [.sl (out.map eI)] 0] (.bool (!out.any (· == k))) := by
  refine Ret.of_pwp layOk mixed Go.Proofs.Tryz.func138 rfl (by decide) rfl rfl ?_
  repeat (refine stp rfl ?_ ?_;·repeat' constructor)
  apply qst;exact rfl;exact rfl;exact q_callP rfl (containsI_ret out k ho) rfl (by repeat' constructor) rfl rfl
  repeat (refine stp rfl ?_ ?_;·repeat' constructor)
  exact end1b rfl rfl rfl
theorem ord2_ret (out : List Int) (ho : out.length ≤ 1000000) (l : List Int) (hl : l.length ≤ 1000000) : Ret Tryz.prog .shared 137 [.sl (l.map eI), .dref [.sl (out.map eI)] 0] (.bool (readyB out l)) := by
  refine Ret.of_pwp layOk mixed Go.Proofs.Tryz.func137 rfl (by decide) rfl rfl ?_
  repeat (refine stp rfl ?_ ?_;·repeat' constructor)
  apply qst;exact rfl;exact rfl;exact q_callP rfl (containsFI_ret l 138 [.sl (out.map eI)] (fun k => !out.any (· == k)) hl (fun k _ => ord21_ret out ho k)) rfl (by repeat' constructor) rfl rfl
  repeat (refine stp rfl ?_ ?_;·repeat' constructor)
  exact end1b rfl rfl rfl
theorem indexFL_ret (l : List (List Int)) (f : FuncId) (c0 : List PV) (p : (List Int) → Bool) (hw : l.length ≤ 1000000) (hf : ∀ x, x ∈ l → Ret Tryz.prog .shared f (.sl (x.map eI) :: [.dref c0 0]) (.bool (p x))) : Ret Tryz.prog .shared 133 [.sl (l.map eL), .clo f [.dref c0 0]] (I (idx l p)) := by
  refine Ret.of_pwp layOk mixed Go.Proofs.Tryz.func133 rfl (by decide) rfl rfl ?_
  repeat (refine stp rfl ?_ ?_;·repeat' constructor)
  refine pw_loop (Clear l p) (fun k => [(0, .sl (l.map eL)), (1, .clo f [.dref c0 0]), (7, I l.length), (8, I k)]) (fun _ => []) (fun k => l.length - k) 0 .zero ⟨rfl, rfl, ?_, rfl, trivial⟩ ?_
  · show I ((l.map eL).length) = _
    simp
  intro k s hk
  repeat (refine stp rfl ?_ ?_;·repeat' constructor)
  refine pw_cond rfl (fun h => ?_) (fun h => ?_)
  · have hlt : k < l.length := by simpa using h
    obtain ⟨x, hx⟩ := get_lt hlt
    repeat (refine stp rfl ?_ ?_;·repeat' constructor)
    apply qst;exact rfl;exact rfl;exact q_idxm rfl rfl rfl rfl rfl (by omega) hx rfl
    repeat (refine stp rfl ?_ ?_;·repeat' constructor)
    apply qst;exact rfl;exact rfl;exact q_callP rfl (hf x (List.mem_of_getElem? hx)) rfl (by repeat' constructor) rfl rfl
    repeat (refine stp rfl ?_ ?_;·repeat' constructor)
    refine pw_cond rfl (fun h => ?_) (fun h => ?_)
    · repeat (refine stp rfl ?_ ?_;·repeat' constructor)
      exact end1i rfl rfl (by rw [hk.found hx h])
    · repeat (refine stp rfl ?_ ?_;·repeat' constructor)
      refine ⟨k + 1, hk.succ hx h, by omega, rfl, rfl, rfl, ?_, trivial⟩
      exact i64_next (by omega) (by omega)
  · repeat (refine stp rfl ?_ ?_;·repeat' constructor)
    exact end1i rfl rfl (by rw [hk.none (by simpa using h)])
end Go.Pv


set_option maxHeartbeats 2000000
namespace Go.Pv
attribute [local irreducible] PWP POps PQuiet PSem XThen XBlock RetPost InlPost
open Go.Proofs
theorem idx_cases {α : Type} (l : List α) (p : α → Bool) : (idx l p = -1 ∧ ∀ (j : Nat) b, l[j]? = some b → p b = false) ∨ ∃ (i : Nat) (a : α), idx l p = i ∧ l[i]? = some a ∧ p a = true ∧ ∀ (j : Nat) b, j < i → l[j]? = some b → p b = false := by
  unfold idx
  cases h : l.findIdx? p with
  | none =>
    rw [List.findIdx?_eq_none_iff] at h
    exact .inl ⟨rfl, fun j b hb => h b (List.mem_of_getElem? hb)⟩
  | some i =>
    rw [List.findIdx?_eq_some_iff_getElem] at h
    obtain ⟨hi, h1, h2⟩ := h
    refine .inr ⟨i, l[i], rfl, List.getElem?_eq_getElem hi, h1, fun j b hj hb => ?_⟩
    have := h2 j hj
    obtain ⟨hjl, rfl⟩ := List.getElem?_eq_some_iff.1 hb
    simpa using this
def fitB (b : List (List Int)) (out : List Int) (i : Nat) : Bool := readyB out (b.getD i []) && !out.any (· == (i : Int))
def nextO (b : List (List Int)) (out : List Int) : Int := idx (List.range b.length) (fitB b out)
def orderF : Nat → List (List Int) → List Int → List Int
  | 0, _, out => out
  | f + 1, b, out => if nextO b out < 0 then out else orderF f b (out ++ [nextO b out])
def ordS (w : SWork) : List Int := orderF (bef w).length (bef w) []
theorem nextO_found {b : List (List Int)} {out : List Int} {i : Nat} {l : List Int} (hi : b[i]? = some l) (hr : readyB out l = true) (hn : out.any (· == (i : Int)) = false) (hall : ∀ (j : Nat) l', j < i → b[j]? = some l' → readyB out l' = true → out.any (· == (j : Int)) = true) : nextO b out = i := by
  have hlt := (List.getElem?_eq_some_iff.1 hi).1
  refine idx_found (a := i) (by rw [List.getElem?_range hlt]) ?_ fun j c hj hc => ?_
  · simp [fitB, List.getD_eq_getElem?_getD, hi, hr, hn]
  · have hjl : j < b.length := by omega
    rw [List.getElem?_range hjl] at hc
    have hc := Option.some.inj hc
    subst hc
    have hbj : b[j]? = some b[j] := List.getElem?_eq_getElem hjl
    have := hall j b[j] hj hbj
    unfold fitB
    rw [List.getD_eq_getElem?_getD, hbj]
    cases hrd : readyB out b[j] with
    | false => simp [hrd]
    | true => rw [this hrd]; simp
theorem nextO_none {b : List (List Int)} {out : List Int} (hall : ∀ (j : Nat) l', b[j]? = some l' → readyB out l' = true → out.any (· == (j : Int)) = true) : nextO b out = -1 := by
  refine idx_none fun j c hc => ?_
  have hjl : j < b.length := by have := (List.getElem?_eq_some_iff.1 hc).1; simpa using this
  rw [List.getElem?_range hjl] at hc
  have hc := Option.some.inj hc
  subst hc
  have hbj : b[j]? = some b[j] := List.getElem?_eq_getElem hjl
  have := hall j b[j] hbj
  unfold fitB
  rw [List.getD_eq_getElem?_getD, hbj]
  cases hrd : readyB out b[j] with
  | false => simp [hrd]
  | true => rw [this hrd]; simp
def NextAt (b : List (List Int)) (out : List Int) (nx : Int) : Prop :=
  (nx = -1 ∧ ∀ (j : Nat) l', b[j]? = some l' → readyB out l' = true → out.any (· == (j : Int)) = true) ∨
  ∃ (i : Nat) (l : List Int), nx = i ∧ b[i]? = some l ∧ readyB out l = true ∧ ∀ (j : Nat) l', j < i → b[j]? = some l' → readyB out l' = true → out.any (· == (j : Int)) = true
theorem NextAt.start (b : List (List Int)) (out : List Int) : NextAt b out (idx b (readyB out)) := by
  rcases idx_cases b (readyB out) with ⟨h1, h2⟩ | ⟨i, l, h1, h2, h3, h4⟩
  · exact .inl ⟨h1, fun j l' hl hr => by rw [h2 j l' hl] at hr; cases hr⟩
  · exact .inr ⟨i, l, h1, h2, h3, fun j l' hj hl hr => by rw [h4 j l' hj hl] at hr; cases hr⟩
theorem NextAt.lt {b : List (List Int)} {out : List Int} {nx : Int} (h : NextAt b out nx) : -1 ≤ nx ∧ nx < b.length := by
  rcases h with ⟨h1, _⟩ | ⟨i, l, h1, h2, _⟩
  · omega
  · have := (List.getElem?_eq_some_iff.1 h2).1; omega
theorem NextAt.done {b : List (List Int)} {out : List Int} {nx : Int} (h : NextAt b out nx) (hn : nx < 0 ∨ out.any (· == nx) = false) : nextO b out = nx := by
  rcases h with ⟨h1, h2⟩ | ⟨i, l, h1, h2, h3, h4⟩
  · rw [h1]; exact nextO_none h2
  · rcases hn with hn | hn
    · omega
    · rw [h1] at hn ⊢; exact nextO_found h2 h3 hn h4
theorem NextAt.step {b : List (List Int)} {out : List Int} {i : Nat} (h : NextAt b out i) (hin : out.any (· == (i : Int)) = true) :
    NextAt b out (if idx (b.drop (i + 1)) (readyB out) < 0 then -1 else (i : Int) + (1 + idx (b.drop (i + 1)) (readyB out))) := by
  have hpre : ∀ (j : Nat) l', j < i + 1 → b[j]? = some l' → readyB out l' = true → out.any (· == (j : Int)) = true := by
    intro j l' hj hl hr
    rcases h with ⟨h1, _⟩ | ⟨i', l, h1, h2, h3, h4⟩
    · omega
    · have : i' = i := by omega
      subst this
      rcases Nat.lt_or_ge j i' with hlt | hge
      · exact h4 j l' hlt hl hr
      · have : j = i' := by omega
        subst this; exact hin
  rcases idx_cases (b.drop (i + 1)) (readyB out) with ⟨h1, h2⟩ | ⟨r, l, h1, h2, h3, h4⟩
  · rw [h1, if_pos (by omega)]
    refine .inl ⟨rfl, fun j l' hl hr => ?_⟩
    rcases Nat.lt_or_ge j (i + 1) with hlt | hge
    · exact hpre j l' hlt hl hr
    · have := h2 (j - (i + 1)) l' (by rw [List.getElem?_drop]; rw [show i + 1 + (j - (i + 1)) = j by omega]; exact hl)
      rw [this] at hr; cases hr
  · rw [h1, if_neg (by omega)]
    refine .inr ⟨i + 1 + r, l, by omega, by rw [List.getElem?_drop] at h2; exact h2, h3, fun j l' hj hl hr => ?_⟩
    rcases Nat.lt_or_ge j (i + 1) with hlt | hge
    · exact hpre j l' hlt hl hr
    · have := h4 (j - (i + 1)) l' (by omega) (by rw [List.getElem?_drop]; rw [show i + 1 + (j - (i + 1)) = j by omega]; exact hl)
      rw [this] at hr; cases hr
theorem ordered_ret (w : SWork) (h1 : w.items.length ≤ 100000) (h2 : ∀ x ∈ w.items, x.after.length ≤ 100000) : Ret Tryz.prog .shared 102 [.agg (eWork w)] (.sl ((ordS w).map eI)) := by
  have hbl : (bef w).length = w.items.length := by simp [bef]
  have hbe : ∀ l ∈ bef w, l.length ≤ 1000000 := fun l hl => by
    obtain ⟨x, hx, rfl⟩ := List.mem_map.1 hl
    have := h2 x hx
    simp [aft]; omega
  have hml : ((bef w).map eL).length = w.items.length := by rw [List.length_map, hbl]
  refine Ret.of_pwp layOk mixed Go.Proofs.Tryz.func102 rfl (by decide) rfl rfl ?_
  repeat (refine stp rfl ?_ ?_;·repeat' constructor)
  apply qst;exact rfl;exact rfl;exact q_call rfl (before_ret w h1 h2) rfl (by repeat' constructor) rfl
  repeat (refine stp rfl ?_ ?_;·repeat' constructor)
  refine pw_ghost (Ghost.nilcell (k := 42) (k0 := 4) (i := 0) (j := 0) 3 1 0 rfl rfl rfl rfl (row := [.nil]) rfl rfl rfl) ?_
  refine pw_loop (fun out : List Int => out.length ≤ w.items.length ∧ ordS w = orderF ((bef w).length - out.length) (bef w) out) (fun _ => [(1, .ptr 1 1 0 0), (3, .sl ((bef w).map eL)), (4, .ptr 4 1 0 0)])
    (fun out => [(1, 1, ⟨28, 9, [eWork w], 2⟩), (4, 1, ⟨80, 1, [[.als 42 (1 + out.length) 0 (out.map eI).length]], 2⟩), (42, 1 + out.length, ⟨3, 1, out.map eI, 0⟩)]) (fun out => w.items.length - out.length) [] ⟨by simp, rfl⟩ ⟨rfl, rfl, rfl, rfl, rfl, rfl, trivial⟩ ?_
  rintro out s ⟨hol, hos⟩
  have hoe : (out.map eI).length = out.length := by simp
  repeat (refine stp rfl ?_ ?_;·repeat' constructor)
  refine pw_cond rfl (fun h => ?_) (fun h => ?_)
  · have hlt : out.length < w.items.length := by have := of_decide_eq_true h; omega
    clear h
    repeat (refine stp rfl ?_ ?_;·repeat' constructor)
    apply qst;exact rfl;exact rfl;exact q_callP rfl (indexFL_ret (bef w) 134 [.sl (out.map eI)] (readyB out) (by omega) (fun l hl => ord1_ret out (by omega) l (hbe l hl))) rfl (by repeat' constructor) rfl rfl
    repeat (refine stp rfl ?_ ?_;·repeat' constructor)
    refine pw_loop (fun nx : Int => NextAt (bef w) out nx) (fun nx => [(1, .ptr 1 1 0 0), (3, .sl ((bef w).map eL)), (4, .ptr 4 1 0 0), (5, I nx)])
      (fun _ => [(1, 1, ⟨28, 9, [eWork w], 2⟩), (4, 1, ⟨80, 1, [[.als 42 (1 + out.length) 0 (out.map eI).length]], 2⟩), (42, 1 + out.length, ⟨3, 1, out.map eI, 0⟩)]) (fun nx => if nx < 0 then 0 else ((bef w).length - nx).toNat + 1) _ (.start _ _) ⟨rfl, rfl, rfl, rfl, rfl, rfl, rfl, trivial⟩ ?_
    intro nx s' hnx
    have hb := hnx.lt
    repeat (refine stp rfl ?_ ?_;·repeat' constructor)
    (first | refine ps_split rfl rfl (fun h => ?_) (fun h => ?_) | refine pq_split rfl rfl (fun h => ?_) (fun h => ?_) | refine p3_split rfl rfl (fun h => ?_) (fun h => ?_))
    · have h0 := of_decide_eq_true h
      repeat (refine stp rfl ?_ ?_;·repeat' constructor)
      apply qst;exact rfl;exact rfl;exact q_callP rfl (containsI_ret out nx (by omega)) rfl (by repeat' constructor) rfl rfl
      repeat (refine stp rfl ?_ ?_;·repeat' constructor)
      refine pw_cond rfl (fun h => ?_) (fun h => ?_)
      · have hin := h
        clear h
        obtain ⟨i, rfl⟩ : ∃ i : Nat, nx = i := ⟨nx.toNat, by omega⟩
        have hw1 : IntKind.i64.wrap ((i : Int) + 1) = (i + 1 : Nat) := by rw [wrap_i64 (by omega) (by omega)]; omega
        have hst := hnx.step hin
        have hrl := (NextAt.start ((bef w).drop (i + 1)) out).lt
        rw [List.length_drop] at hrl
        repeat (refine stp rfl ?_ ?_;·repeat' constructor)
        rw [hw1]
        refine ps_q (q_slcm rfl rfl rfl rfl rfl (by omega) (by omega) (fun _ => rfl)) ?_
        rw [Int.toNat_natCast]
        repeat (refine stp rfl ?_ ?_;·repeat' constructor)
        apply qst;exact rfl;exact rfl;exact q_callP rfl (indexFL_ret ((bef w).drop (i + 1)) 137 [.sl (out.map eI)] (readyB out) (by rw [List.length_drop]; omega) (fun l hl => ord2_ret out (by omega) l (hbe l (List.mem_of_mem_drop hl)))) rfl (by repeat' constructor) rfl rfl
        repeat (refine stp rfl ?_ ?_;·repeat' constructor)
        refine pw_cond rfl (fun h => ?_) (fun h => ?_)
        · have hneg := of_decide_eq_true h
          rw [if_pos hneg] at hst
          repeat (refine stp rfl ?_ ?_;·repeat' constructor)
          refine ⟨-1, hst, by rw [if_pos (by omega), if_neg (by omega)]; omega, rfl, rfl, rfl, rfl, rfl, rfl, rfl, trivial⟩
        · have hneg := of_decide_eq_false h
          rw [if_neg hneg] at hst
          have hlt2 := hst.lt
          repeat (refine stp rfl ?_ ?_;·repeat' constructor)
          refine ⟨_, hst, by rw [if_neg (by omega), if_neg (by omega)]; omega, rfl, rfl, rfl, ?_, rfl, rfl, rfl, trivial⟩
          show PV.int .i64 (IntKind.i64.wrap (_ + IntKind.i64.wrap (1 + _))) = _
          rw [wrap_i64 (n := 1 + _) (by omega) (by omega), wrap_i64 (by omega) (by omega)]
      · have hnin := h
        clear h
        have hnext := hnx.done (.inr hnin)
        have hol2 : (out ++ [nx]).length = out.length + 1 := by simp
        have hoapp : (out ++ [nx]).map eI = out.map eI ++ [eI nx] := by rw [List.map_append]; rfl
        repeat (refine stp rfl ?_ ?_;·repeat' constructor)
        refine pw_cond rfl (fun h => ?_) (fun h => ?_)
        · have := of_decide_eq_true h; omega
        repeat (refine stp rfl ?_ ?_;·repeat' constructor)
        refine ps_run (o_slit 0 rfl rfl rfl rfl rfl rfl rfl rfl rfl rfl rfl (by repeat' constructor) rfl ?_)
        repeat (refine stp rfl ?_ ?_;·repeat' constructor)
        refine ps_run (o_app 0 rfl rfl rfl rfl rfl rfl rfl rfl rfl rfl rfl (by repeat' constructor) (by intro row hr; first | (simp at hr; subst hr; rfl) | simp at hr) rfl rfl (by simp; omega) (by simp; omega) ?_)
        repeat (refine stp rfl ?_ ?_;·repeat' constructor)
        refine ⟨out ++ [nx], ⟨by simp; omega, ?_⟩, by simp; omega, rfl, rfl, rfl, rfl, ?_, ?_, trivial⟩
        · rw [hos, show (bef w).length - out.length = ((bef w).length - (out ++ [nx]).length) + 1 by simp; omega, orderF, hnext, if_neg (by omega)]
        · show (1, some (Cont.mk 80 1 [[PV.als 42 (1 + out.length + 1) 0 (out.map eI ++ [eI nx]).length]] 2)) = _
          rw [hoapp, hol2]; rfl
        · show (1 + out.length + 1, some (Cont.mk 3 1 (out.map eI ++ [eI nx]) 0)) = _
          rw [hoapp, hol2]; rfl
    · have h0 := of_decide_eq_false h
      have hnext := hnx.done (.inl (by omega))
      repeat (refine stp rfl ?_ ?_;·repeat' constructor)
      refine pw_cond rfl (fun h => ?_) (fun h => ?_)
      · repeat (refine stp rfl ?_ ?_;·repeat' constructor)
        exact end1 rfl rfl rfl ⟨rfl, rfl, rfl⟩ (by rw [hos, show (bef w).length - out.length = ((bef w).length - out.length - 1) + 1 by omega, orderF, hnext, if_pos (by omega)])
      · have := of_decide_eq_false h; omega
  · have hge : (bef w).length - out.length = 0 := by have := of_decide_eq_false h; omega
    repeat (refine stp rfl ?_ ?_;·repeat' constructor)
    exact end1 rfl rfl rfl ⟨rfl, rfl, rfl⟩ (by rw [hos, hge]; rfl)
end Go.Pv


set_option maxHeartbeats 2000000
namespace Go.Pv
attribute [local irreducible] PWP POps PQuiet PSem XThen XBlock RetPost InlPost
open Go.Proofs
theorem fstE_map {α β : Type} (f : α → β) : ∀ (l : List α) (g : Nat → β → Int), fstE (l.map f) g = fstE l fun i a => g i (f a)
  | [], _ => rfl
  | a :: l, g => by
    rw [List.map_cons, fstE, fstE, fstE_map f l]
theorem taken_iff {α : Type} {l : List α} {nm : α → Str} {j : Nat} {b : α} (hb : l[j]? = some b) : ((l.map nm).take j).any (· == nm b) = !decide (idx l (fun a => nm a == nm b) = j) := by
  have hp : (fun a => nm a == nm b) b = true := by simp
  cases hany : ((l.map nm).take j).any (· == nm b) with
  | false =>
    have : idx l (fun a => nm a == nm b) = j := by
      refine idx_found hb hp fun i c hi hc => ?_
      rw [List.any_eq_false] at hany
      have hm : nm c ∈ (l.map nm).take j := by
        refine List.mem_of_getElem? (i := i) ?_
        rw [List.getElem?_take, if_pos hi, List.getElem?_map, hc]; rfl
      simpa using hany _ hm
    simp [this]
  | true =>
    have : idx l (fun a => nm a == nm b) ≠ j := by
      intro he
      obtain ⟨x, hx, hxe⟩ := List.any_eq_true.1 hany
      obtain ⟨i, hi, rfl⟩ := List.getElem_of_mem hx
      simp only [List.length_take, List.length_map] at hi
      rcases idx_cases l (fun a => nm a == nm b) with ⟨h1, _⟩ | ⟨i', a, h1, _, _, h4⟩
      · omega
      · have hii : i' = j := by omega
        subst hii
        have hil : i < l.length := by omega
        have := h4 i l[i] (by omega) (List.getElem?_eq_getElem hil)
        simp only [List.getElem_take, List.getElem_map] at hxe
        rw [this] at hxe; cases hxe
    simp [this]
theorem named_eq {α : Type} (l : List α) (nm : α → Str) (most : Int) (own : Nat → Int) (E : α → Int) (h : ∀ (i : Nat) a, l[i]? = some a → own i = E a) :
    namedS (l.map nm) most own = if most < l.length then 8 else fstE l fun i a => if isName (nm a) then (if idx l (fun b => nm b == nm a) = i then E a else 5) else 4 := by
  rw [namedS, List.length_map]
  split
  · rfl
  · rw [fstE_map]
    refine fstE_congr fun j b hb _ => ?_
    rw [taken_iff hb, h j b hb]
    by_cases hi : idx l (fun a => nm a == nm b) = j
    · simp [hi]
    · simp [hi]
def itemsE (w : SWork) : Int := if 40 < w.items.length then 8 else fstE w.items fun i x => if isName x.name then (if idx w.items (·.name == x.name) = i then itemE w x else 5) else 4
def figE (w : SWork) : Bool := inside w.hire 0 1000000000 && inside w.late 0 1000000000 && inside w.due 0 400 && inside w.last 0 400
def workE (w : SWork) : Int :=
  if tradesE w = 0 then (if roomE w = 0 then (if itemsE w = 0 then (if figE w then (if (ordS w).length < w.items.length then 22 else 0) else 2) else itemsE w) else roomE w) else tradesE w
structure Sane (w : SWork) : Prop where
  items : w.items.length ≤ 100000
  trades : w.trades.length ≤ 100000
  spaces : w.spaces.length ≤ 100000
  excls : w.excls.length ≤ 100000
  outs : w.outs.length ≤ 100000
  next : ∀ x ∈ w.spaces, x.next.length ≤ 100000
  after : ∀ x ∈ w.items, x.after.length ≤ 100000
theorem itemOwn_ret (w : SWork) (hw : Sane w) (i : Nat) (x : SItem) (hx : w.items[i]? = some x) : Ret Tryz.prog .shared 100 [I i, .dref (eWork w) 0, .dref [.sl ((w.items.map (·.name)).map eS)] 0] (I (itemE w x)) := by
  have h1 := hw.items
  have h2 := hw.trades
  have h3 := hw.spaces
  have h4 := hw.after x (List.mem_of_getElem? hx)
  refine Ret.of_pwp layOk mixed Go.Proofs.Tryz.func100 rfl (by decide) rfl rfl ?_
  repeat (refine stp rfl ?_ ?_;·repeat' constructor)
  refine pw_draw 9 [5, 6, 7, 8, 9, 10, 11, 12, 4] (by decide +kernel) ?_
  repeat (refine stp rfl ?_ ?_;·repeat' constructor)
  apply qst;exact rfl;exact rfl;exact q_idxm rfl rfl rfl rfl rfl (by omega) hx rfl
  repeat (refine stp rfl ?_ ?_;·repeat' constructor)
  apply qst;exact rfl;exact rfl;exact q_callP rfl (itemErr_ret w x (by omega) (by omega) (by omega) (by omega)) rfl (by repeat' constructor) rfl rfl
  repeat (refine stp rfl ?_ ?_;·repeat' constructor)
  exact end1i rfl rfl rfl
def ownT (w : SWork) (i : Nat) : Int := match w.trades[i]? with | some t => tradeE t | none => 0
def ownS (w : SWork) (i : Nat) : Int := match w.spaces[i]? with | some t => spaceE w t | none => 0
def ownI (w : SWork) (i : Nat) : Int := match w.items[i]? with | some t => itemE w t | none => 0
theorem checkWork_ret (w : SWork) (hw : Sane w) : Ret Tryz.prog .shared 60 [.agg (eWork w)] (I (workE w)) := by
  have h1 := hw.items
  have h2 := hw.trades
  have h3 := hw.spaces
  have h4 := hw.excls
  have h5 := hw.outs
  have eT : namedS (w.trades.map (·.name)) 6 (ownT w) = tradesE w := by
    rw [named_eq _ _ _ _ tradeE (fun i a ha => by rw [ownT, ha])]; rw [tradesE]
    by_cases h : 6 < w.trades.length
    · rw [if_pos (by omega), if_pos h]
    · rw [if_neg (by omega), if_neg h]
  have eSp : namedS (w.spaces.map (·.name)) 12 (ownS w) = spacesE w := by
    rw [named_eq _ _ _ _ (spaceE w) (fun i a ha => by rw [ownS, ha])]; rw [spacesE]
    by_cases h : 12 < w.spaces.length
    · rw [if_pos (by omega), if_pos h]
    · rw [if_neg (by omega), if_neg h]
  have eI' : namedS (w.items.map (·.name)) 40 (ownI w) = itemsE w := by
    rw [named_eq _ _ _ _ (itemE w) (fun i a ha => by rw [ownI, ha])]; rw [itemsE]
    by_cases h : 40 < w.items.length
    · rw [if_pos (by omega), if_pos h]
    · rw [if_neg (by omega), if_neg h]
  have hol : ((ordS w).map eI).length = (ordS w).length := by simp
  have hml : (w.items.map eItem).length = w.items.length := by simp
  refine Ret.of_pwp layOk mixed Go.Proofs.Tryz.func60 rfl (by decide) rfl rfl ?_
  repeat (refine stp rfl ?_ ?_;·repeat' constructor)
  apply qst;exact rfl;exact rfl;exact q_call rfl (tradeNames_ret w (by omega)) rfl (by repeat' constructor) rfl
  repeat (refine stp rfl ?_ ?_;·repeat' constructor)
  apply qst;exact rfl;exact rfl;exact q_callP rfl (named_ret1 (w.trades.map (·.name)) 6 (by omega) 93 (eWork w) (ownT w) (fun i hi => by obtain ⟨t, ht⟩ := get_lt (by simpa using hi : i < w.trades.length); have := tradeOwn_ret w i t ht; rwa [show tradeE t = ownT w i by rw [ownT, ht]] at this)) rfl (by repeat' constructor) rfl rfl
  rw [eT]
  repeat (refine stp rfl ?_ ?_;·repeat' constructor)
  refine pw_cond rfl (fun h => ?_) (fun h => ?_)
  · have hne : ¬ tradesE w = 0 := by simpa using h
    repeat (refine stp rfl ?_ ?_;·repeat' constructor)
    exact end1i rfl rfl (by rw [workE, if_neg hne])
  have hz1 : tradesE w = 0 := by simpa using h
  clear h
  repeat (refine stp rfl ?_ ?_;·repeat' constructor)
  apply qst;exact rfl;exact rfl;exact q_call rfl (spaceNames_ret w (by omega)) rfl (by repeat' constructor) rfl
  repeat (refine stp rfl ?_ ?_;·repeat' constructor)
  apply qst;exact rfl;exact rfl;exact q_callP rfl (named_ret2 (w.spaces.map (·.name)) 12 (by omega) 95 (eWork w) [.sl ((w.spaces.map (·.name)).map eS)] (ownS w) (fun i hi => by obtain ⟨t, ht⟩ := get_lt (by simpa using hi : i < w.spaces.length); have hnx := hw.next t (List.mem_of_getElem? ht); have := spaceOwn_ret w (by omega) i t ht (by omega); rwa [show spaceE w t = ownS w i by rw [ownS, ht]] at this)) rfl (by repeat' constructor) rfl rfl
  rw [eSp]
  repeat (refine stp rfl ?_ ?_;·repeat' constructor)
  refine pw_cond rfl (fun h => ?_) (fun h => ?_)
  · have hne : ¬ spacesE w = 0 := by simpa using h
    repeat (refine stp rfl ?_ ?_;·repeat' constructor)
    exact end1i rfl rfl (by have : roomE w = spacesE w := (by rw [roomE, if_neg hne]); rw [workE, if_pos hz1, this, if_neg hne])
  have hz2 : spacesE w = 0 := by simpa using h
  have hro : roomE w = rulesE w := by rw [roomE, if_pos hz2]
  clear h
  repeat (refine stp rfl ?_ ?_;·repeat' constructor)
  apply qst;exact rfl;exact rfl;exact q_callP rfl (rulesErr_ret w (by omega) (by omega)) rfl (by repeat' constructor) rfl rfl
  rw [← hro]
  repeat (refine stp rfl ?_ ?_;·repeat' constructor)
  refine pw_cond rfl (fun h => ?_) (fun h => ?_)
  · have hne : ¬ roomE w = 0 := by simpa using h
    repeat (refine stp rfl ?_ ?_;·repeat' constructor)
    exact end1i rfl rfl (by rw [workE, if_pos hz1, if_neg hne])
  have hz3 : roomE w = 0 := by simpa using h
  clear h
  repeat (refine stp rfl ?_ ?_;·repeat' constructor)
  apply qst;exact rfl;exact rfl;exact q_call rfl (itemNames_ret w (by omega)) rfl (by repeat' constructor) rfl
  repeat (refine stp rfl ?_ ?_;·repeat' constructor)
  apply qst;exact rfl;exact rfl;exact q_callP rfl (named_ret2 (w.items.map (·.name)) 40 (by omega) 100 (eWork w) [.sl ((w.items.map (·.name)).map eS)] (ownI w) (fun i hi => by obtain ⟨t, ht⟩ := get_lt (by simpa using hi : i < w.items.length); have := itemOwn_ret w hw i t ht; rwa [show itemE w t = ownI w i by rw [ownI, ht]] at this)) rfl (by repeat' constructor) rfl rfl
  rw [eI']
  repeat (refine stp rfl ?_ ?_;·repeat' constructor)
  refine pw_cond rfl (fun h => ?_) (fun h => ?_)
  · have hne : ¬ itemsE w = 0 := by simpa using h
    repeat (refine stp rfl ?_ ?_;·repeat' constructor)
    exact end1i rfl rfl (by rw [workE, if_pos hz1, if_pos hz3, if_neg hne])
  have hz4 : itemsE w = 0 := by simpa using h
  clear h
  have it : workE w = if figE w then (if (ordS w).length < w.items.length then 22 else 0) else 2 := by rw [workE, if_pos hz1, if_pos hz3, if_pos hz4]
  repeat (refine stp rfl ?_ ?_;·repeat' constructor)
  apply qst;exact rfl;exact rfl;exact q_callP rfl (within_ret w.hire 1000000000) rfl (by repeat' constructor) rfl rfl
  repeat (refine stp rfl ?_ ?_;·repeat' constructor)
  (first | refine ps_split rfl rfl (fun h => ?_) (fun h => ?_) | refine pq_split rfl rfl (fun h => ?_) (fun h => ?_) | refine p3_split rfl rfl (fun h => ?_) (fun h => ?_))
  · have hf : ¬ figE w = true := by simp_all [figE]
    repeat (refine stp rfl ?_ ?_;·repeat' constructor)
    exact end1i rfl rfl (by rw [it, if_neg hf])
  have f1 : inside w.hire 0 1000000000 = true := by simpa using h
  clear h
  repeat (refine stp rfl ?_ ?_;·repeat' constructor)
  apply qst;exact rfl;exact rfl;exact q_callP rfl (within_ret w.late 1000000000) rfl (by repeat' constructor) rfl rfl
  repeat (refine stp rfl ?_ ?_;·repeat' constructor)
  (first | refine ps_split rfl rfl (fun h => ?_) (fun h => ?_) | refine pq_split rfl rfl (fun h => ?_) (fun h => ?_) | refine p3_split rfl rfl (fun h => ?_) (fun h => ?_))
  · have hf : ¬ figE w = true := by simp_all [figE]
    repeat (refine stp rfl ?_ ?_;·repeat' constructor)
    exact end1i rfl rfl (by rw [it, if_neg hf])
  have f2 : inside w.late 0 1000000000 = true := by simpa using h
  clear h
  repeat (refine stp rfl ?_ ?_;·repeat' constructor)
  apply qst;exact rfl;exact rfl;exact q_callP rfl (within_ret w.due 400) rfl (by repeat' constructor) rfl rfl
  repeat (refine stp rfl ?_ ?_;·repeat' constructor)
  (first | refine ps_split rfl rfl (fun h => ?_) (fun h => ?_) | refine pq_split rfl rfl (fun h => ?_) (fun h => ?_) | refine p3_split rfl rfl (fun h => ?_) (fun h => ?_))
  · have hf : ¬ figE w = true := by simp_all [figE]
    repeat (refine stp rfl ?_ ?_;·repeat' constructor)
    exact end1i rfl rfl (by rw [it, if_neg hf])
  have f3 : inside w.due 0 400 = true := by simpa using h
  clear h
  repeat (refine stp rfl ?_ ?_;·repeat' constructor)
  apply qst;exact rfl;exact rfl;exact q_callP rfl (within_ret w.last 400) rfl (by repeat' constructor) rfl rfl
  repeat (refine stp rfl ?_ ?_;·repeat' constructor)
  refine pw_cond rfl (fun h => ?_) (fun h => ?_)
  · have hf : ¬ figE w = true := by simp_all [figE]
    repeat (refine stp rfl ?_ ?_;·repeat' constructor)
    exact end1i rfl rfl (by rw [it, if_neg hf])
  have f4 : inside w.last 0 400 = true := by simpa using h
  clear h
  have hf : figE w = true := by rw [figE, f1, f2, f3, f4]; rfl
  rw [if_pos hf] at it
  repeat (refine stp rfl ?_ ?_;·repeat' constructor)
  refine pw_draw 7 [57, 58, 59, 60, 61, 62, 63] (by decide +kernel) ?_
  repeat (refine stp rfl ?_ ?_;·repeat' constructor)
  apply qst;exact rfl;exact rfl;exact q_call rfl (ordered_ret w h1 hw.after) rfl (by repeat' constructor) rfl
  repeat (refine stp rfl ?_ ?_;·repeat' constructor)
  refine pw_cond rfl (fun h => ?_) (fun h => ?_)
  · have hlt := of_decide_eq_true h
    repeat (refine stp rfl ?_ ?_;·repeat' constructor)
    exact end1i rfl rfl (by rw [it, if_pos (by omega)])
  · have hlt := of_decide_eq_false h
    repeat (refine stp rfl ?_ ?_;·repeat' constructor)
    exact end1i rfl rfl (by rw [it, if_neg (by omega)])
end Go.Pv


set_option maxHeartbeats 2000000
namespace Go.Pv
attribute [local irreducible] PWP POps PQuiet PSem XThen XBlock RetPost InlPost
open Go.Proofs
def inB (out : List Str) (s : Str) : Bool := out.any (· == s)
def fitR (out : List Str) (x : SItem) : Bool := !inB out x.name && x.after.all (inB out)
def refOrdF : Nat → SWork → List Str → List Str
  | 0, _, out => out
  | f + 1, w, out => match w.items.find? (fitR out) with | some x => refOrdF f w (out ++ [x.name]) | none => out
def leftR (w : SWork) (out : List Str) : Nat := (w.items.filter fun x => !inB out x.name).length
def refOrd (w : SWork) : List Str := refOrdF w.items.length w []
theorem leftR_step (w : SWork) (out : List Str) (x : SItem) (hx : x ∈ w.items) (hn : inB out x.name = false) : leftR w (out ++ [x.name]) < leftR w out := by
  unfold leftR
  have : ∀ l : List SItem, x ∈ l → (l.filter fun y => !inB (out ++ [x.name]) y.name).length < (l.filter fun y => !inB out y.name).length := by
    have hle : ∀ l : List SItem, (l.filter fun y => !inB (out ++ [x.name]) y.name).length ≤ (l.filter fun y => !inB out y.name).length := by
      intro l
      induction l with
      | nil => simp
      | cons y l ih =>
        rw [List.filter_cons, List.filter_cons]
        cases h1 : inB out y.name with
        | true =>
          have : inB (out ++ [x.name]) y.name = true := by unfold inB at *; rw [List.any_append, h1]; rfl
          simp [this]; exact ih
        | false =>
          cases h2 : inB (out ++ [x.name]) y.name <;> simp <;> omega
    intro l hl
    induction l with
    | nil => cases hl
    | cons y l ih =>
      rcases List.mem_cons.1 hl with rfl | hl
      · have h2 : inB (out ++ [x.name]) x.name = true := by unfold inB; simp
        rw [List.filter_cons, List.filter_cons, hn, h2]
        have := hle l
        simp; omega
      · have := ih hl
        rw [List.filter_cons, List.filter_cons]
        cases h1 : inB out y.name with
        | true =>
          have : inB (out ++ [x.name]) y.name = true := by unfold inB at *; rw [List.any_append, h1]; rfl
          simp [this]; omega
        | false =>
          cases h2 : inB (out ++ [x.name]) y.name <;> simp <;> omega
  exact this _ hx
theorem find_none {α : Type} {l : List α} {p : α → Bool} (h : ∀ (j : Nat) b, l[j]? = some b → p b = false) : l.find? p = none := by
  rw [List.find?_eq_none]
  intro x hx
  obtain ⟨j, hj, rfl⟩ := List.getElem_of_mem hx
  simp [h j _ (List.getElem?_eq_getElem hj)]
theorem find_some {α : Type} {l : List α} {p : α → Bool} {k : Nat} {x : α} (hk : l[k]? = some x) (hp : p x = true) (h : ∀ (j : Nat) b, j < k → l[j]? = some b → p b = false) : l.find? p = some x := by
  rw [List.find?_eq_some_iff_getElem]
  obtain ⟨hl, he⟩ := List.getElem?_eq_some_iff.1 hk
  exact ⟨hp, k, hl, he, fun j hj => by simp [h j l[j] hj (List.getElem?_eq_getElem _)]⟩
def NextR (w : SWork) (out : List Str) (i : Nat) (nx : Int) : Prop :=
  (nx = -1 ∧ Clear w.items (fitR out) i) ∨ ∃ (k : Nat) (x : SItem), nx = k ∧ i = k + 1 ∧ w.items[k]? = some x ∧ fitR out x = true ∧ Clear w.items (fitR out) k
theorem order_ref (w : SWork) (hw : Sane w) : Ret Tryz.prog .shared 37 [.agg (eWork w)] (.sl ((refOrd w).map eS)) := by
  have h1 := hw.items
  have hml : (w.items.map eItem).length = w.items.length := by simp
  refine Ret.of_pwp layOk mixed Go.Proofs.Tryz.func37 rfl (by decide) rfl rfl ?_
  ((repeat (first | refine ps_nil ?_ | refine pq_nil ?_ | refine x_norm ?_ | refine pw_seq ?_)); refine pw_region ?_)
  refine ps_run (o_box rfl rfl rfl (by repeat' constructor) rfl ?_)
  refine ps_v rfl trivial ?_
  ((repeat (first | refine ps_nil ?_ | refine pq_nil ?_ | refine x_norm ?_ | refine pw_seq ?_)); refine pw_region ?_)
  (first | refine ps_run (o_nilm 9 1 0 rfl rfl ?_) | refine ps_run (o_nila 9 1 0 rfl rfl ?_))
  repeat (refine stp rfl ?_ ?_;·repeat' constructor)
  refine pw_loop (fun out : List Str => leftR w out ≤ w.items.length - out.length ∧ out.length ≤ w.items.length ∧ refOrd w = refOrdF (w.items.length - out.length) w out) (fun out => [(1, .ptr 1 1 0 0), (3, .als 3 (1 + out.length) 0 (out.map eS).length)]) (fun out => [(1, 1, ⟨28, 9, [eWork w], 2⟩), (3, 1 + out.length, ⟨9, 1, out.map eS, 0⟩)])
    (fun out => leftR w out) [] ⟨List.length_filter_le _ _, by simp, rfl⟩ ⟨rfl, rfl, rfl, rfl, trivial⟩ ?_
  rintro out s ⟨hle, hol, hro⟩
  repeat (refine stp rfl ?_ ?_;·repeat' constructor)
  refine pw_loop (fun p : Nat × Int => NextR w out p.1 p.2) (fun p => [(1, .ptr 1 1 0 0), (3, .als 3 (1 + out.length) 0 (out.map eS).length), (4, I p.2), (5, I p.1)]) (fun _ => [(1, 1, ⟨28, 9, [eWork w], 2⟩), (3, 1 + out.length, ⟨9, 1, out.map eS, 0⟩)])
    (fun p => w.items.length - p.1) (0, -1) (.inl ⟨rfl, .zero⟩) ⟨rfl, rfl, rfl, rfl, rfl, rfl, trivial⟩ ?_
  rintro ⟨i, nx⟩ s' hnx
  rcases hnx with ⟨rfl, hcl⟩ | ⟨k, x, rfl, rfl, hx, hfit, hcl⟩
  · repeat (refine stp rfl ?_ ?_;·repeat' constructor)
    (first | refine ps_split rfl rfl (fun h => ?_) (fun h => ?_) | refine pq_split rfl rfl (fun h => ?_) (fun h => ?_) | refine p3_split rfl rfl (fun h => ?_) (fun h => ?_))
    · have hlt : i < w.items.length := by have := of_decide_eq_true h; omega
      clear h
      obtain ⟨x, hx⟩ := get_lt hlt
      have hax := hw.after x (List.mem_of_getElem? hx)
      have hml2 : (x.after.map eS).length = x.after.length := by simp
      repeat (refine stp rfl ?_ ?_;·repeat' constructor)
      apply qst;exact rfl;exact rfl;exact q_idxm rfl rfl rfl rfl rfl (by omega) hx rfl
      repeat (refine stp rfl ?_ ?_;·repeat' constructor)
      apply qst;exact rfl;exact rfl;exact q_callP rfl (among_ret out x.name (by omega)) rfl (by repeat' constructor) rfl rfl
      repeat (refine stp rfl ?_ ?_;·repeat' constructor)
      refine pw_loop (fun k : Nat => k ≤ x.after.length) (fun k => [(1, .ptr 1 1 0 0), (3, .als 3 (1 + out.length) 0 (out.map eS).length), (4, I (-1)), (5, I i), (6, .bool (!inB out x.name && (x.after.take k).all (inB out))), (7, I k)])
        (fun _ => [(1, 1, ⟨28, 9, [eWork w], 2⟩), (3, 1 + out.length, ⟨9, 1, out.map eS, 0⟩)]) (fun k => x.after.length - k) 0 (Nat.zero_le _) ⟨rfl, rfl, rfl, rfl, ?_, rfl, rfl, rfl, trivial⟩ ?_
      · show PV.bool (!inB out x.name) = _
        simp
      intro k s'' hk
      repeat (refine stp rfl ?_ ?_;·repeat' constructor)
      apply qst;exact rfl;exact rfl;exact q_idxm rfl rfl rfl rfl rfl (by omega) hx rfl
      repeat (refine stp rfl ?_ ?_;·repeat' constructor)
      refine pw_cond rfl (fun h => ?_) (fun h => ?_)
      · have hlt' : k < x.after.length := by have := of_decide_eq_true h; omega
        clear h
        obtain ⟨y, hy⟩ := get_lt hlt'
        have htk : (x.after.take (k + 1)).all (inB out) = ((x.after.take k).all (inB out) && inB out y) := by rw [take_snoc hy, List.all_append]; simp
        repeat (refine stp rfl ?_ ?_;·repeat' constructor)
        (first | refine ps_split rfl rfl (fun h => ?_) (fun h => ?_) | refine pq_split rfl rfl (fun h => ?_) (fun h => ?_) | refine p3_split rfl rfl (fun h => ?_) (fun h => ?_))
        · repeat (refine stp rfl ?_ ?_;·repeat' constructor)
          apply qst;exact rfl;exact rfl;exact q_idxm rfl rfl rfl rfl rfl (by omega) hx rfl
          repeat (refine stp rfl ?_ ?_;·repeat' constructor)
          apply qst;exact rfl;exact rfl;exact q_idxm rfl rfl rfl rfl rfl (by omega) hy rfl
          repeat (refine stp rfl ?_ ?_;·repeat' constructor)
          apply qst;exact rfl;exact rfl;exact q_callP rfl (among_ret out y (by omega)) rfl (by repeat' constructor) rfl rfl
          repeat (refine stp rfl ?_ ?_;·repeat' constructor)
          refine ⟨k + 1, hlt', by omega, rfl, rfl, rfl, rfl, ?_, ?_, rfl, rfl, trivial⟩
          · rw [htk, ← Bool.and_assoc, h]; rfl
          · exact i64_next (by omega) (by omega)
        · repeat (refine stp rfl ?_ ?_;·repeat' constructor)
          refine ⟨k + 1, hlt', by omega, rfl, rfl, rfl, rfl, ?_, ?_, rfl, rfl, trivial⟩
          · rw [htk, ← Bool.and_assoc, h]; rfl
          · exact i64_next (by omega) (by omega)
      · have hge : k = x.after.length := by have := of_decide_eq_false h; omega
        subst hge
        rw [List.take_length]
        clear h
        repeat (refine stp rfl ?_ ?_;·repeat' constructor)
        refine pw_cond rfl (fun h => ?_) (fun h => ?_)
        · repeat (refine stp rfl ?_ ?_;·repeat' constructor)
          refine ⟨(i + 1, (i : Int)), .inr ⟨i, x, rfl, rfl, hx, h, hcl⟩, by simp; omega, rfl, rfl, rfl, ?_, rfl, rfl, trivial⟩
          exact i64_next (by omega) (by omega)
        · repeat (refine stp rfl ?_ ?_;·repeat' constructor)
          refine ⟨(i + 1, -1), .inl ⟨rfl, hcl.succ hx h⟩, by simp; omega, rfl, rfl, rfl, ?_, rfl, rfl, trivial⟩
          exact i64_next (by omega) (by omega)
    · have hge : ¬ i < w.items.length := by have := of_decide_eq_false h; omega
      clear h
      repeat (refine stp rfl ?_ ?_;·repeat' constructor)
      refine end1 rfl rfl rfl ⟨rfl, rfl, rfl⟩ ?_
      rw [hro]
      cases hf : w.items.length - out.length with
      | zero => rfl
      | succ f => rw [refOrdF, find_none (hcl.all hge)]
  · have hn : inB out x.name = false := by
      unfold fitR at hfit
      cases hb : inB out x.name with
      | false => rfl
      | true => rw [hb] at hfit; cases hfit
    have hkl := (List.getElem?_eq_some_iff.1 hx).1
    have hlt2 := leftR_step w out x (List.mem_of_getElem? hx) hn
    have hl2 : (out ++ [x.name]).length = out.length + 1 := by simp
    have hoapp : (out ++ [x.name]).map eS = out.map eS ++ [eS x.name] := by rw [List.map_append]; rfl
    have hoe : (out.map eS).length = out.length := by simp
    have hro2 : refOrd w = refOrdF (w.items.length - (out ++ [x.name]).length) w (out ++ [x.name]) := by
      rw [hro, show w.items.length - out.length = (w.items.length - (out ++ [x.name]).length) + 1 by rw [hl2]; omega, refOrdF, find_some hx hfit hcl.2]
    repeat (refine stp rfl ?_ ?_;·repeat' constructor)
    (first | refine ps_split rfl rfl (fun h => ?_) (fun h => ?_) | refine pq_split rfl rfl (fun h => ?_) (fun h => ?_) | refine p3_split rfl rfl (fun h => ?_) (fun h => ?_))
    · clear h
      repeat (refine stp rfl ?_ ?_;·repeat' constructor)
      apply qst;exact rfl;exact rfl;exact q_idxm rfl rfl rfl rfl rfl (by omega) hx rfl
      repeat (refine stp rfl ?_ ?_;·repeat' constructor)
      refine ps_run (o_slit 0 rfl rfl rfl rfl rfl rfl rfl rfl rfl rfl rfl (by repeat' constructor) rfl ?_)
      repeat (refine stp rfl ?_ ?_;·repeat' constructor)
      refine ps_run (o_app 0 rfl rfl rfl rfl rfl rfl rfl rfl rfl rfl rfl (by repeat' constructor) (by intro row hr; first | (simp at hr; subst hr; rfl) | simp at hr) rfl rfl (by simp; omega) (by simp; omega) ?_)
      repeat (refine stp rfl ?_ ?_;·repeat' constructor)
      refine ⟨out ++ [x.name], ⟨by rw [hl2]; omega, by rw [hl2]; omega, hro2⟩, hlt2, rfl, ?_, rfl, ?_, trivial⟩
      · rw [hoapp, hl2]; rfl
      · rw [hoapp, hl2]; rfl
    · clear h
      repeat (refine stp rfl ?_ ?_;·repeat' constructor)
      apply qst;exact rfl;exact rfl;exact q_idxm rfl rfl rfl rfl rfl (by omega) hx rfl
      repeat (refine stp rfl ?_ ?_;·repeat' constructor)
      refine ps_run (o_slit 0 rfl rfl rfl rfl rfl rfl rfl rfl rfl rfl rfl (by repeat' constructor) rfl ?_)
      repeat (refine stp rfl ?_ ?_;·repeat' constructor)
      refine ps_run (o_app 0 rfl rfl rfl rfl rfl rfl rfl rfl rfl rfl rfl (by repeat' constructor) (by intro row hr; first | (simp at hr; subst hr; rfl) | simp at hr) rfl rfl (by simp; omega) (by simp; omega) ?_)
      repeat (refine stp rfl ?_ ?_;·repeat' constructor)
      refine ⟨out ++ [x.name], ⟨by rw [hl2]; omega, by rw [hl2]; omega, hro2⟩, hlt2, rfl, ?_, rfl, ?_, trivial⟩
      · rw [hoapp, hl2]; rfl
      · rw [hoapp, hl2]; rfl
end Go.Pv


set_option maxHeartbeats 2000000
namespace Go.Pv
attribute [local irreducible] PWP POps PQuiet PSem XThen XBlock RetPost InlPost
open Go.Proofs
structure Good1 (w : SWork) : Prop where
  uniq : ∀ (i : Nat) x, w.items[i]? = some x → idx w.items (·.name == x.name) = i
  known : ∀ x ∈ w.items, ∀ s ∈ x.after, (w.items.map (·.name)).any (· == s) = true
theorem good_of {w : SWork} (h : itemsE w = 0) : Good1 w := by
  unfold itemsE at h
  split at h
  · cases h
  · have hz := fstE_zero h
    have hit : ∀ (i : Nat) x, w.items[i]? = some x → idx w.items (·.name == x.name) = i ∧ itemE w x = 0 := by
      intro i x hx
      have := hz i x hx
      split at this
      · split at this
        · rename_i h1; exact ⟨h1, this⟩
        · cases this
      · cases this
    refine ⟨fun i x hx => (hit i x hx).1, fun x hx s hs => ?_⟩
    obtain ⟨i, hi, rfl⟩ := List.getElem_of_mem hx
    have hE := (hit i _ (List.getElem?_eq_getElem hi)).2
    unfold itemE at hE
    split at hE
    · cases hE
    · split at hE
      · cases hE
      · split at hE
        · split at hE
          · cases hE
          · split at hE
            · split at hE
              · cases hE
              · obtain ⟨j, hj, rfl⟩ := List.getElem_of_mem hs
                have := fstE_zero hE j _ (List.getElem?_eq_getElem hj)
                unfold afterE at this
                split at this
                · rename_i h1; exact h1
                · cases this
            · cases hE
        · rename_i hne; exact absurd hE hne
def nameAt (w : SWork) (i : Int) : Str := ((w.items[i.toNat]?).map (·.name)).getD []
def InW (w : SWork) (out : List Int) : Prop := ∀ k ∈ out, ∃ (i : Nat) (x : SItem), k = i ∧ w.items[i]? = some x
theorem nameAt_at {w : SWork} {i : Nat} {x : SItem} (hx : w.items[i]? = some x) : nameAt w i = x.name := by rw [nameAt, Int.toNat_natCast, hx]; rfl
theorem inB_iff {w : SWork} (hg : Good1 w) {out : List Int} (ho : InW w out) {i : Nat} {x : SItem} (hx : w.items[i]? = some x) : inB (out.map (nameAt w)) x.name = out.any (· == (i : Int)) := by
  unfold inB
  rw [List.any_map]
  cases h : out.any (· == (i : Int)) with
  | true =>
    obtain ⟨k, hk, he⟩ := List.any_eq_true.1 h
    have he : k = i := by simpa using he
    subst he
    exact List.any_eq_true.2 ⟨_, hk, by simp [nameAt_at hx]⟩
  | false =>
    rw [List.any_eq_false] at h ⊢
    intro k hk hn
    obtain ⟨i', x', rfl, hx'⟩ := ho k hk
    have hn : x'.name = x.name := by simpa [nameAt_at hx'] using hn
    have e1 := hg.uniq i' x' hx'
    rw [hn, hg.uniq i x hx] at e1
    refine h _ hk (by simp; omega)
theorem known_at {w : SWork} (hg : Good1 w) {x : SItem} (hx : x ∈ w.items) {s : Str} (hs : s ∈ x.after) : ∃ (j : Nat) (y : SItem), w.items[j]? = some y ∧ y.name = s ∧ idx (w.items.map (·.name)) (· == s) = j := by
  have := hg.known x hx s hs
  rw [List.any_map] at this
  obtain ⟨y, hy, he⟩ := List.any_eq_true.1 this
  have he : y.name = s := by simpa using he
  obtain ⟨j, hj, rfl⟩ := List.getElem_of_mem hy
  refine ⟨j, _, List.getElem?_eq_getElem hj, he, ?_⟩
  rw [idx_map, ← he]
  exact hg.uniq j _ (List.getElem?_eq_getElem hj)
theorem fit_eq {w : SWork} (hg : Good1 w) {out : List Int} (ho : InW w out) {i : Nat} {x : SItem} (hx : w.items[i]? = some x) : fitB (bef w) out i = fitR (out.map (nameAt w)) x := by
  have hxm := List.mem_of_getElem? hx
  have h1 : (bef w).getD i [] = aft w x := by rw [List.getD_eq_getElem?_getD, bef, List.getElem?_map, hx]; rfl
  have h2 : readyB out (aft w x) = x.after.all (inB (out.map (nameAt w))) := by
    rw [readyB, aft, List.any_map, List.all_eq_not_any_not]
    congr 1
    have : ∀ l : List Str, (∀ s ∈ l, s ∈ x.after) → (l.any ((fun k => !out.any fun x => x == k) ∘ fun s => idx (w.items.map (·.name)) (· == s))) = l.any fun s => !inB (out.map (nameAt w)) s := by
      intro l hl
      induction l with
      | nil => rfl
      | cons s l ih =>
        rw [List.any_cons, List.any_cons, ih fun s' hs' => hl s' (by simp [hs'])]
        congr 1
        obtain ⟨j, y, hy, hn, hi⟩ := known_at hg hxm (hl s (by simp))
        show (!out.any fun x => x == idx (w.items.map (·.name)) (· == s)) = _
        rw [hi, ← hn, inB_iff hg ho hy]
    exact this _ fun s hs => hs
  rw [fitB, h1, h2, fitR, inB_iff hg ho hx, Bool.and_comm]
theorem next_eq {w : SWork} (hg : Good1 w) {out : List Int} (ho : InW w out) : (nextO (bef w) out < 0 ∧ w.items.find? (fitR (out.map (nameAt w))) = none) ∨ ∃ (i : Nat) (x : SItem), nextO (bef w) out = i ∧ w.items[i]? = some x ∧ w.items.find? (fitR (out.map (nameAt w))) = some x := by
  have hbl : (bef w).length = w.items.length := by simp [bef]
  rcases idx_cases w.items (fitR (out.map (nameAt w))) with ⟨_, h⟩ | ⟨i, x, _, hx, hp, hn⟩
  · refine .inl ⟨?_, find_none h⟩
    have : nextO (bef w) out = -1 := by
      refine idx_none fun j c hc => ?_
      have hj : j < w.items.length := by have := (List.getElem?_eq_some_iff.1 hc).1; simpa [hbl] using this
      rw [List.getElem?_range (by omega)] at hc
      have hc := Option.some.inj hc
      subst hc
      rw [fit_eq hg ho (List.getElem?_eq_getElem hj)]
      exact h j _ (List.getElem?_eq_getElem hj)
    omega
  · have hil := (List.getElem?_eq_some_iff.1 hx).1
    refine .inr ⟨i, x, idx_found (a := i) (by rw [List.getElem?_range (by omega)]) (by rw [fit_eq hg ho hx]; exact hp) fun j c hj hc => ?_, hx, find_some hx hp hn⟩
    rw [List.getElem?_range (by omega)] at hc
    have hc := Option.some.inj hc
    subst hc
    have hjl : j < w.items.length := by omega
    rw [fit_eq hg ho (List.getElem?_eq_getElem hjl)]
    exact hn j _ hj (List.getElem?_eq_getElem hjl)
theorem ord_eq {w : SWork} (hg : Good1 w) : ∀ (f : Nat) (out : List Int), InW w out → refOrdF f w (out.map (nameAt w)) = (orderF f (bef w) out).map (nameAt w) ∧ InW w (orderF f (bef w) out)
  | 0, out, ho => ⟨rfl, ho⟩
  | f + 1, out, ho => by
    rcases next_eq hg ho with ⟨h1, h2⟩ | ⟨i, x, h1, hx, h2⟩
    · rw [refOrdF, h2, orderF, if_pos h1]; exact ⟨rfl, ho⟩
    · rw [refOrdF, h2, orderF, if_neg (by omega), h1]
      have := ord_eq hg f (out ++ [(i : Int)]) (fun k hk => by
        rcases List.mem_append.1 hk with hk | hk
        · exact ho k hk
        · exact ⟨i, x, by simpa using hk, hx⟩)
      rw [List.map_append, List.map_cons, List.map_nil, nameAt_at hx] at this
      exact this
theorem refOrd_eq {w : SWork} (hg : Good1 w) : refOrd w = (ordS w).map (nameAt w) ∧ InW w (ordS w) := by
  have := ord_eq hg w.items.length [] (fun k hk => by cases hk)
  have hbl : (bef w).length = w.items.length := by simp [bef]
  rw [refOrd, ordS, hbl]
  exact this
end Go.Pv


set_option maxHeartbeats 2000000
namespace Go.Pv
attribute [local irreducible] PWP POps PQuiet PSem XThen XBlock RetPost InlPost
open Go.Proofs
theorem refCheckWork_ret (w : SWork) (hw : Sane w) : Ret Tryz.prog .shared 9 [.agg (eWork w)] (I (workE w)) := by
  have h1 := hw.items
  have h2 := hw.trades
  have h3 := hw.spaces
  have hml : (w.items.map eItem).length = w.items.length := by simp
  have hol : ((refOrd w).map eS).length = (refOrd w).length := by simp
  refine Ret.of_pwp layOk mixed Go.Proofs.Tryz.func9 rfl (by decide) rfl rfl ?_
  repeat (refine stp rfl ?_ ?_;·repeat' constructor)
  apply qst;exact rfl;exact rfl;exact q_callP rfl (checkTrades_ret w (by omega)) rfl (by repeat' constructor) rfl rfl
  repeat (refine stp rfl ?_ ?_;·repeat' constructor)
  refine pw_cond rfl (fun h => ?_) (fun h => ?_)
  · have hne : ¬ tradesE w = 0 := by simpa using h
    repeat (refine stp rfl ?_ ?_;·repeat' constructor)
    exact end1i rfl rfl (by rw [workE, if_neg hne])
  have hz1 : tradesE w = 0 := by simpa using h
  clear h
  repeat (refine stp rfl ?_ ?_;·repeat' constructor)
  apply qst;exact rfl;exact rfl;exact q_callP rfl (checkSpaces_ret w (by omega) (fun x hx => by have := hw.next x hx; omega)) rfl (by repeat' constructor) rfl rfl
  repeat (refine stp rfl ?_ ?_;·repeat' constructor)
  refine pw_cond rfl (fun h => ?_) (fun h => ?_)
  · have hne : ¬ roomE w = 0 := by simpa using h
    repeat (refine stp rfl ?_ ?_;·repeat' constructor)
    exact end1i rfl rfl (by rw [workE, if_pos hz1, if_neg hne])
  have hz3 : roomE w = 0 := by simpa using h
  clear h
  have hit : ∀ e, itemsE w = e → e ≠ 0 → workE w = e := fun e he hne => by rw [workE, if_pos hz1, if_pos hz3, he, if_neg hne]
  repeat (refine stp rfl ?_ ?_;·repeat' constructor)
  refine pw_cond rfl (fun h => ?_) (fun h => ?_)
  · have hgt := of_decide_eq_true h
    repeat (refine stp rfl ?_ ?_;·repeat' constructor)
    exact end1i rfl rfl (by rw [hit 8 (by rw [itemsE, if_pos (by omega)]) (by omega)])
  have hl : ¬ 40 < w.items.length := by have := of_decide_eq_false h; omega
  clear h
  repeat (refine stp rfl ?_ ?_;·repeat' constructor)
  refine pw_loop (ClearE w.items fun i x => if isName x.name then (if idx w.items (·.name == x.name) = i then itemE w x else 5) else 4) (fun k => [(1, .ptr 1 1 0 0), (5, I k)]) (fun _ => [(1, 1, ⟨28, 9, [eWork w], 2⟩)]) (fun k => w.items.length - k) 0 .zero' ⟨rfl, rfl, rfl, trivial⟩ ?_
  intro k s hk
  repeat (refine stp rfl ?_ ?_;·repeat' constructor)
  refine pw_cond rfl (fun h => ?_) (fun h => ?_)
  · have hlt : k < w.items.length := by simpa using h
    obtain ⟨x, hx⟩ := get_lt hlt
    clear h
    have hax := hw.after x (List.mem_of_getElem? hx)
    have bad : ∀ e, (if isName x.name then (if idx w.items (·.name == x.name) = k then itemE w x else 5) else 4) = e → e ≠ 0 → workE w = e := fun e hb he => by
      rw [hit e (by rw [itemsE, if_neg hl, hk.found (e := e) hx hb he]) he]
    repeat (refine stp rfl ?_ ?_;·repeat' constructor)
    apply qst;exact rfl;exact rfl;exact q_idxm rfl rfl rfl rfl rfl (by omega) hx rfl
    repeat (refine stp rfl ?_ ?_;·repeat' constructor)
    apply qst;exact rfl;exact rfl;exact q_callP rfl (isName_ref x.name) rfl (by repeat' constructor) rfl rfl
    repeat (refine stp rfl ?_ ?_;·repeat' constructor)
    refine pw_cond rfl (fun h => ?_) (fun h => ?_)
    · have hn : ¬ isName x.name = true := by simpa using h
      repeat (refine stp rfl ?_ ?_;·repeat' constructor)
      exact end1i rfl rfl (by rw [bad 4 (if_neg hn) (by omega)])
    have hn : isName x.name = true := by simpa using h
    clear h
    repeat (refine stp rfl ?_ ?_;·repeat' constructor)
    refine pw_draw 10 [36, 37, 38, 39, 40, 41, 42, 43, 44, 45] (by decide +kernel) ?_
    repeat (refine stp rfl ?_ ?_;·repeat' constructor)
    apply qst;exact rfl;exact rfl;exact q_idxm rfl rfl rfl rfl rfl (by omega) hx rfl
    repeat (refine stp rfl ?_ ?_;·repeat' constructor)
    apply qst;exact rfl;exact rfl;exact q_callP rfl (itemOf_ret w x.name (by omega)) rfl (by repeat' constructor) rfl rfl
    repeat (refine stp rfl ?_ ?_;·repeat' constructor)
    refine pw_cond rfl (fun h => ?_) (fun h => ?_)
    · have hi : ¬ idx w.items (·.name == x.name) = k := by simpa using h
      repeat (refine stp rfl ?_ ?_;·repeat' constructor)
      exact end1i rfl rfl (by rw [bad 5 (by rw [if_pos hn, if_neg hi]) (by omega)])
    have hi : idx w.items (·.name == x.name) = k := by simpa using h
    clear h
    have own : (if isName x.name then (if idx w.items (·.name == x.name) = k then itemE w x else 5) else 4) = itemE w x := by rw [if_pos hn, if_pos hi]
    repeat (refine stp rfl ?_ ?_;·repeat' constructor)
    refine pw_draw 8 [46, 47, 48, 49, 50, 51, 52, 6] (by decide +kernel) ?_
    repeat (refine stp rfl ?_ ?_;·repeat' constructor)
    apply qst;exact rfl;exact rfl;exact q_idxm rfl rfl rfl rfl rfl (by omega) hx rfl
    repeat (refine stp rfl ?_ ?_;·repeat' constructor)
    apply qst;exact rfl;exact rfl;exact q_callP rfl (checkItem_ret w x (by omega) (by omega) (by omega) (by omega)) rfl (by repeat' constructor) rfl rfl
    repeat (refine stp rfl ?_ ?_;·repeat' constructor)
    refine pw_cond rfl (fun h => ?_) (fun h => ?_)
    · have hne : ¬ itemE w x = 0 := by simpa using h
      repeat (refine stp rfl ?_ ?_;·repeat' constructor)
      exact end1i rfl rfl (by rw [bad _ own hne])
    · repeat (refine stp rfl ?_ ?_;·repeat' constructor)
      refine ⟨k + 1, hk.succ hx (own.trans (by simpa using h)), by omega, rfl, ?_, rfl, trivial⟩
      exact i64_next (by omega) (by omega)
  have hz4 : itemsE w = 0 := by rw [itemsE, if_neg hl, hk.none (by simpa using h)]
  clear h hk
  have it : workE w = if figE w then (if (ordS w).length < w.items.length then 22 else 0) else 2 := by rw [workE, if_pos hz1, if_pos hz3, if_pos hz4]
  have hord : (refOrd w).length = (ordS w).length := by rw [(refOrd_eq (good_of hz4)).1, List.length_map]
  repeat (refine stp rfl ?_ ?_;·repeat' constructor)
  apply qst;exact rfl;exact rfl;exact q_callP rfl (inside_ret w.hire 0 1000000000) rfl (by repeat' constructor) rfl rfl
  repeat (refine stp rfl ?_ ?_;·repeat' constructor)
  (first | refine ps_split rfl rfl (fun h => ?_) (fun h => ?_) | refine pq_split rfl rfl (fun h => ?_) (fun h => ?_) | refine p3_split rfl rfl (fun h => ?_) (fun h => ?_))
  · have hf : ¬ figE w = true := by simp_all [figE]
    repeat (refine stp rfl ?_ ?_;·repeat' constructor)
    exact end1i rfl rfl (by rw [it, if_neg hf])
  have f1 : inside w.hire 0 1000000000 = true := by simpa using h
  clear h
  repeat (refine stp rfl ?_ ?_;·repeat' constructor)
  apply qst;exact rfl;exact rfl;exact q_callP rfl (inside_ret w.late 0 1000000000) rfl (by repeat' constructor) rfl rfl
  repeat (refine stp rfl ?_ ?_;·repeat' constructor)
  (first | refine ps_split rfl rfl (fun h => ?_) (fun h => ?_) | refine pq_split rfl rfl (fun h => ?_) (fun h => ?_) | refine p3_split rfl rfl (fun h => ?_) (fun h => ?_))
  · have hf : ¬ figE w = true := by simp_all [figE]
    repeat (refine stp rfl ?_ ?_;·repeat' constructor)
    exact end1i rfl rfl (by rw [it, if_neg hf])
  have f2 : inside w.late 0 1000000000 = true := by simpa using h
  clear h
  repeat (refine stp rfl ?_ ?_;·repeat' constructor)
  apply qst;exact rfl;exact rfl;exact q_callP rfl (inside_ret w.due 0 400) rfl (by repeat' constructor) rfl rfl
  repeat (refine stp rfl ?_ ?_;·repeat' constructor)
  (first | refine ps_split rfl rfl (fun h => ?_) (fun h => ?_) | refine pq_split rfl rfl (fun h => ?_) (fun h => ?_) | refine p3_split rfl rfl (fun h => ?_) (fun h => ?_))
  · have hf : ¬ figE w = true := by simp_all [figE]
    repeat (refine stp rfl ?_ ?_;·repeat' constructor)
    exact end1i rfl rfl (by rw [it, if_neg hf])
  have f3 : inside w.due 0 400 = true := by simpa using h
  clear h
  repeat (refine stp rfl ?_ ?_;·repeat' constructor)
  apply qst;exact rfl;exact rfl;exact q_callP rfl (inside_ret w.last 0 400) rfl (by repeat' constructor) rfl rfl
  repeat (refine stp rfl ?_ ?_;·repeat' constructor)
  refine pw_cond rfl (fun h => ?_) (fun h => ?_)
  · have hf : ¬ figE w = true := by simp_all [figE]
    repeat (refine stp rfl ?_ ?_;·repeat' constructor)
    exact end1i rfl rfl (by rw [it, if_neg hf])
  have f4 : inside w.last 0 400 = true := by simpa using h
  clear h
  have hf : figE w = true := by rw [figE, f1, f2, f3, f4]; rfl
  rw [if_pos hf] at it
  repeat (refine stp rfl ?_ ?_;·repeat' constructor)
  refine pw_draw 7 [78, 79, 80, 81, 82, 83, 84] (by decide +kernel) ?_
  repeat (refine stp rfl ?_ ?_;·repeat' constructor)
  apply qst;exact rfl;exact rfl;exact q_call rfl (order_ref w hw) rfl (by repeat' constructor) rfl
  repeat (refine stp rfl ?_ ?_;·repeat' constructor)
  refine pw_cond rfl (fun h => ?_) (fun h => ?_)
  · have hlt := of_decide_eq_true h
    repeat (refine stp rfl ?_ ?_;·repeat' constructor)
    exact end1i rfl rfl (by rw [it, if_pos (by omega)])
  · have hlt := of_decide_eq_false h
    repeat (refine stp rfl ?_ ?_;·repeat' constructor)
    exact end1i rfl rfl (by rw [it, if_neg (by omega)])
end Go.Pv


set_option maxHeartbeats 2000000
namespace Go.Pv
attribute [local irreducible] PWP POps PQuiet PSem XThen XBlock RetPost InlPost
open Go.Proofs
theorem endc {L : Lay} {s : St} {fn : Func} {r v d : PV} {t : Nat} {T : TypeId} {A Cd : Prop} {fl : Fl} (h : fn.results.toList = [.cell t T]) (hq : qv L s (.load T (.tmp t)) = some (v, A)) (ha : A) (hres : res s 5 v = some (d, Cd, fl)) (hc : Cd) (hd : d = r) : RetPost L fn .shared r .ret s := by
  unfold RetPost
  refine ⟨[v], A ∧ True, d, Cd, fl, ?_, ⟨ha, trivial⟩, hres, hc, trivial, hd⟩
  rw [h]
  show (match rv L s (.cell t T) with | some (v, A) => (match rvs L s [] with | some (vs, B) => some (v :: vs, A ∧ B) | none => none) | none => none) = _
  rw [show rv L s (.cell t T) = some (v, A) from hq]; rfl
structure SlotAt (w : SWork) (sl : SSlot) (x : SItem) (m : SMode) : Prop where
  nonneg : 0 ≤ idx w.items (·.name == sl.item)
  item : w.items[(idx w.items (·.name == sl.item)).toNat]? = some x
  lo : 0 ≤ sl.mode
  mode : x.modes[sl.mode.toNat]? = some m
  day : 0 ≤ sl.day ∧ sl.day ≤ 400
  days : 1 ≤ m.days ∧ m.days ≤ 60
theorem item_ref (w : SWork) (hw : Sane w) (sl : SSlot) {x : SItem} {m : SMode} (h : SlotAt w sl x m) : Ret Tryz.prog .shared 59 [.agg (eWork w), .agg (eSlot sl)] (.agg (eItem x)) := by
  have h1 := hw.items
  have hi := h.item
  have hn := h.nonneg
  refine Ret.of_pwp layOk mixed Go.Proofs.Tryz.func59 rfl (by decide) rfl rfl ?_
  repeat (refine stp rfl ?_ ?_;·repeat' constructor)
  refine pw_draw 8 [5, 6, 7, 8, 9, 10, 11, 12] (by decide +kernel) ?_
  repeat (refine stp rfl ?_ ?_;·repeat' constructor)
  apply qst;exact rfl;exact rfl;exact q_callP rfl (itemOf_ret w sl.item (by omega)) rfl (by repeat' constructor) rfl rfl
  repeat (refine stp rfl ?_ ?_;·repeat' constructor)
  apply qst;exact rfl;exact rfl;exact q_idxm rfl rfl rfl rfl rfl (by omega) hi rfl
  repeat (refine stp rfl ?_ ?_;·repeat' constructor)
  exact endc rfl rfl rfl rfl (by repeat' constructor) rfl
theorem mode_ref (w : SWork) (hw : Sane w) (sl : SSlot) {x : SItem} {m : SMode} (h : SlotAt w sl x m) : Ret Tryz.prog .shared 57 [.agg (eWork w), .agg (eSlot sl)] (.agg (eMode m)) := by
  have hm := h.mode
  have hlo := h.lo
  refine Ret.of_pwp layOk mixed Go.Proofs.Tryz.func57 rfl (by decide) rfl rfl ?_
  repeat (refine stp rfl ?_ ?_;·repeat' constructor)
  refine pw_draw 8 [5, 6, 7, 8, 9, 10, 11, 12] (by decide +kernel) ?_
  repeat (refine stp rfl ?_ ?_;·repeat' constructor)
  apply qst;exact rfl;exact rfl;exact q_call rfl (item_ref w hw sl h) rfl (by repeat' constructor) rfl
  repeat (refine stp rfl ?_ ?_;·repeat' constructor)
  apply qst;exact rfl;exact rfl;exact q_idxm rfl rfl rfl rfl rfl (by omega) hm rfl
  repeat (refine stp rfl ?_ ?_;·repeat' constructor)
  exact endc rfl rfl rfl rfl (by repeat' constructor) rfl
theorem end_ref (w : SWork) (hw : Sane w) (sl : SSlot) {x : SItem} {m : SMode} (h : SlotAt w sl x m) : Ret Tryz.prog .shared 56 [.agg (eWork w), .agg (eSlot sl)] (I (sl.day + m.days)) := by
  have h1 := h.day
  have h2 := h.days
  refine Ret.of_pwp layOk mixed Go.Proofs.Tryz.func56 rfl (by decide) rfl rfl ?_
  repeat (refine stp rfl ?_ ?_;·repeat' constructor)
  refine pw_draw 8 [5, 6, 7, 8, 9, 10, 11, 4] (by decide +kernel) ?_
  repeat (refine stp rfl ?_ ?_;·repeat' constructor)
  apply qst;exact rfl;exact rfl;exact q_call rfl (mode_ref w hw sl h) rfl (by repeat' constructor) rfl
  repeat (refine stp rfl ?_ ?_;·repeat' constructor)
  exact end1i rfl rfl (by rw [wrap_i64 (by omega) (by omega)])
end Go.Pv


set_option maxHeartbeats 2000000
namespace Go.Pv
attribute [local irreducible] PWP POps PQuiet PSem XThen XBlock RetPost InlPost
open Go.Proofs
def modesOf (w : SWork) (s : SSlot) : Int := match w.items[(idx w.items (·.name == s.item)).toNat]? with | some x => x.modes.length | none => 0
def slotE (w : SWork) (l : List SSlot) (i : Nat) (s : SSlot) : Int :=
  if idx w.items (·.name == s.item) < 0 then 6 else if (l.take i).any (·.item == s.item) then 5 else if inside s.mode 0 (modesOf w s - 1) && inside s.day 0 400 then 0 else 2
def slotsE (w : SWork) (l : List SSlot) : Int := if l.length = w.items.length then fstE l (slotE w l) else 11
theorem checkSlots_ref (w : SWork) (hw : Sane w) (hm : ∀ x ∈ w.items, x.modes.length ≤ 100000) (l : List SSlot) : Ret Tryz.prog .shared 19 [.agg (eWork w), .sl (l.map eSlot)] (I (slotsE w l)) := by
  have h1 := hw.items
  have hml : (w.items.map eItem).length = w.items.length := by simp
  have hll : (l.map eSlot).length = l.length := by simp
  refine Ret.of_pwp layOk mixed Go.Proofs.Tryz.func19 rfl (by decide) rfl rfl ?_
  repeat (refine stp rfl ?_ ?_;·repeat' constructor)
  refine pw_cond rfl (fun h => ?_) (fun h => ?_)
  · have hne : ¬ l.length = w.items.length := by intro e; simp [e] at h
    repeat (refine stp rfl ?_ ?_;·repeat' constructor)
    exact end1i rfl rfl (by rw [slotsE, if_neg hne])
  have hlen : l.length = w.items.length := by simp at h; omega
  have it : slotsE w l = fstE l (slotE w l) := by rw [slotsE, if_pos hlen]
  clear h
  repeat (refine stp rfl ?_ ?_;·repeat' constructor)
  refine pw_loop (ClearE l (slotE w l)) (fun k => [(1, .sl (l.map eSlot)), (2, .ptr 2 1 0 0), (5, I k)]) (fun _ => [(2, 1, ⟨28, 9, [eWork w], 2⟩)]) (fun k => l.length - k) 0 .zero' ⟨rfl, rfl, rfl, rfl, trivial⟩ ?_
  intro k s hk
  repeat (refine stp rfl ?_ ?_;·repeat' constructor)
  refine pw_cond rfl (fun h => ?_) (fun h => ?_)
  · have hlt : k < l.length := by simpa using h
    obtain ⟨x, hx⟩ := get_lt hlt
    clear h
    have bad : ∀ e, slotE w l k x = e → e ≠ 0 → slotsE w l = e := fun e hb he => by rw [it, hk.found (e := e) hx hb he]
    repeat (refine stp rfl ?_ ?_;·repeat' constructor)
    refine pw_draw 8 [20, 21, 22, 23, 24, 25, 26, 6] (by decide +kernel) ?_
    repeat (refine stp rfl ?_ ?_;·repeat' constructor)
    apply qst;exact rfl;exact rfl;exact q_idxm rfl rfl rfl rfl rfl (by omega) hx rfl
    repeat (refine stp rfl ?_ ?_;·repeat' constructor)
    apply qst;exact rfl;exact rfl;exact q_callP rfl (itemOf_ret w x.item (by omega)) rfl (by repeat' constructor) rfl rfl
    repeat (refine stp rfl ?_ ?_;·repeat' constructor)
    refine pw_cond rfl (fun h => ?_) (fun h => ?_)
    · have hneg := of_decide_eq_true h
      repeat (refine stp rfl ?_ ?_;·repeat' constructor)
      exact end1i rfl rfl (by rw [bad 6 (by rw [slotE, if_pos hneg]) (by omega)])
    have hn := of_decide_eq_false h
    clear h
    obtain ⟨y, hy, _⟩ := idx_lt (Int.not_lt.1 hn)
    have hym := hm y (List.mem_of_getElem? hy)
    have hmo : modesOf w x = y.modes.length := by rw [modesOf, hy]
    repeat (refine stp rfl ?_ ?_;·repeat' constructor)
    refine pw_loop (fun j => Clear (l.take k) (·.item == x.item) j) (fun j => [(1, .sl (l.map eSlot)), (2, .ptr 2 1 0 0), (5, I k), (6, I (idx w.items (·.name == x.item))), (7, I j)]) (fun _ => [(2, 1, ⟨28, 9, [eWork w], 2⟩)]) (fun j => k - j) 0 .zero ⟨rfl, rfl, rfl, rfl, rfl, rfl, trivial⟩ ?_
    intro j s' hj
    have htl : (l.take k).length = k := by rw [List.length_take]; omega
    repeat (refine stp rfl ?_ ?_;·repeat' constructor)
    refine pw_cond rfl (fun h => ?_) (fun h => ?_)
    · have hjk : j < k := by simpa using h
      clear h
      obtain ⟨z, hz⟩ := get_lt (show j < l.length by omega)
      have hzt : (l.take k)[j]? = some z := by rw [List.getElem?_take, if_pos hjk]; exact hz
      repeat (refine stp rfl ?_ ?_;·repeat' constructor)
      refine pw_draw 11 [34, 35, 36, 37, 38, 39, 40, 41, 42, 43, 44] (by decide +kernel) ?_
      repeat (refine stp rfl ?_ ?_;·repeat' constructor)
      apply qst;exact rfl;exact rfl;exact q_idxm rfl rfl rfl rfl rfl (by omega) hz rfl
      repeat (refine stp rfl ?_ ?_;·repeat' constructor)
      apply qst;exact rfl;exact rfl;exact q_idxm rfl rfl rfl rfl rfl (by omega) hx rfl
      repeat (refine stp rfl ?_ ?_;·repeat' constructor)
      refine pw_cond rfl (fun h => ?_) (fun h => ?_)
      · have he := of_decide_eq_true h
        repeat (refine stp rfl ?_ ?_;·repeat' constructor)
        exact end1i rfl rfl (by rw [bad 5 (by rw [slotE, if_neg hn, if_pos (any_of hzt (by simp [he]))]) (by omega)])
      · have hne := of_decide_eq_false h
        repeat (refine stp rfl ?_ ?_;·repeat' constructor)
        refine ⟨j + 1, hj.succ hzt (by simpa using hne), by omega, rfl, rfl, rfl, rfl, ?_, rfl, trivial⟩
        exact i64_next (by omega) (by omega)
    have hno : (l.take k).any (·.item == x.item) = false := hj.any (by simp at h; omega)
    clear h
    have own : slotE w l k x = if inside x.mode 0 (y.modes.length - 1) && inside x.day 0 400 then 0 else 2 := by rw [slotE, if_neg hn, hno, hmo]; rfl
    have hw1 : IntKind.i64.wrap (((y.modes.map eMode).length : Int) - 1) = y.modes.length - 1 := by rw [List.length_map, wrap_i64 (by omega) (by omega)]
    repeat (refine stp rfl ?_ ?_;·repeat' constructor)
    refine pw_draw 24 [45, 46, 47, 48, 49, 50, 51, 52, 53, 54, 55, 56, 57, 58, 59, 60, 61, 62, 63, 64, 65, 66, 67, 68] (by decide +kernel) ?_
    repeat (refine stp rfl ?_ ?_;·repeat' constructor)
    apply qst;exact rfl;exact rfl;exact q_idxm rfl rfl rfl rfl rfl (by omega) hx rfl
    repeat (refine stp rfl ?_ ?_;·repeat' constructor)
    apply qst;exact rfl;exact rfl;exact q_idxm rfl rfl rfl rfl rfl (by omega) hy rfl
    repeat (refine stp rfl ?_ ?_;·repeat' constructor)
    rw [hw1]
    apply qst;exact rfl;exact rfl;exact q_callP rfl (inside_ret x.mode 0 (y.modes.length - 1)) rfl (by repeat' constructor) rfl rfl
    repeat (refine stp rfl ?_ ?_;·repeat' constructor)
    (first | refine ps_split rfl rfl (fun h => ?_) (fun h => ?_) | refine pq_split rfl rfl (fun h => ?_) (fun h => ?_) | refine p3_split rfl rfl (fun h => ?_) (fun h => ?_))
    · have hb : inside x.mode 0 (y.modes.length - 1) = false := by simpa using h
      repeat (refine stp rfl ?_ ?_;·repeat' constructor)
      exact end1i rfl rfl (by rw [bad 2 (by rw [own, hb]; rfl) (by omega)])
    have hb : inside x.mode 0 (y.modes.length - 1) = true := by simpa using h
    clear h
    repeat (refine stp rfl ?_ ?_;·repeat' constructor)
    apply qst;exact rfl;exact rfl;exact q_idxm rfl rfl rfl rfl rfl (by omega) hx rfl
    repeat (refine stp rfl ?_ ?_;·repeat' constructor)
    apply qst;exact rfl;exact rfl;exact q_callP rfl (inside_ret x.day 0 400) rfl (by repeat' constructor) rfl rfl
    repeat (refine stp rfl ?_ ?_;·repeat' constructor)
    refine pw_cond rfl (fun h => ?_) (fun h => ?_)
    · have hb2 : inside x.day 0 400 = false := by simpa using h
      repeat (refine stp rfl ?_ ?_;·repeat' constructor)
      exact end1i rfl rfl (by rw [bad 2 (by rw [own, hb, hb2]; rfl) (by omega)])
    have hb2 : inside x.day 0 400 = true := by simpa using h
    clear h
    repeat (refine stp rfl ?_ ?_;·repeat' constructor)
    refine ⟨k + 1, hk.succ hx (by rw [own, hb, hb2]; rfl), by omega, rfl, rfl, ?_, rfl, trivial⟩
    exact i64_next (by omega) (by omega)
  · repeat (refine stp rfl ?_ ?_;·repeat' constructor)
    exact end1i rfl rfl (by rw [it, hk.none (by simpa using h)])
end Go.Pv


set_option maxHeartbeats 2000000
namespace Go.Pv
attribute [local irreducible] PWP POps PQuiet PSem XThen XBlock RetPost InlPost
open Go.Proofs
structure SPl where
  mode : Int
  day : Int
  on : Bool
def ePl (p : SPl) : List PV := [I p.mode, I p.day, .bool p.on]
def pl (s : List SSlot) (n : Str) : SPl := match s.find? (·.item == n) with | some sl => ⟨sl.mode, sl.day, true⟩ | none => ⟨0, 0, false⟩
def placed (w : SWork) (s : List SSlot) : List SPl := w.items.map fun x => pl s x.name
theorem pl_on (s : List SSlot) (n : Str) : (pl s n).on = s.any (·.item == n) := by
  unfold pl
  cases h : s.find? (·.item == n) with
  | none =>
    rw [List.find?_eq_none] at h
    symm
    rw [List.any_eq_false]
    exact h
  | some a =>
    symm
    rw [List.any_eq_true]
    exact ⟨a, List.mem_of_find?_eq_some h, by simpa using List.find?_some h⟩
theorem pl_snoc {s : List SSlot} {x : SSlot} {n : Str} (h : (pl s n).on = false) : pl (s ++ [x]) n = if x.item = n then ⟨x.mode, x.day, true⟩ else pl s n := by
  rw [pl_on] at h
  unfold pl
  have : s.find? (·.item == n) = none := by rw [List.find?_eq_none]; rw [List.any_eq_false] at h; exact h
  rw [List.find?_append, this]
  by_cases hx : x.item = n <;> simp [hx]
theorem pl_snoc_ne {s : List SSlot} {x : SSlot} {n : Str} (h : ¬ x.item = n) : pl (s ++ [x]) n = pl s n := by
  unfold pl
  rw [List.find?_append]
  cases s.find? (·.item == n) <;> simp [h]
theorem placed_set {w : SWork} (hg : Good1 w) {s : List SSlot} {x : SSlot} {i : Nat} {y : SItem} (hy : w.items[i]? = some y) (hn : y.name = x.item) (h : (pl s x.item).on = false) : (placed w s).set i ⟨x.mode, x.day, true⟩ = placed w (s ++ [x]) := by
  unfold placed
  apply List.ext_getElem?
  intro j
  by_cases hj : i = j
  · subst hj
    have hlt := (List.getElem?_eq_some_iff.1 hy).1
    rw [List.getElem?_set_self (by simpa using hlt), List.getElem?_map, hy]
    simp only [Option.map_some]
    rw [hn, pl_snoc h, if_pos rfl]
  · rw [List.getElem?_set_ne hj, List.getElem?_map, List.getElem?_map]
    cases hz : w.items[j]? with
    | none => rfl
    | some z =>
      simp only [Option.map_some]
      have hne : ¬ x.item = z.name := fun e => by
        have e1 := hg.uniq i y hy
        have e2 := hg.uniq j z hz
        rw [hn, e, e2] at e1
        omega
      rw [pl_snoc_ne hne]
theorem map_same {α β : Type} (l : List α) (b : β) : l.map (fun _ => b) = List.replicate l.length b := by
  induction l with
  | nil => rfl
  | cons a l ih => rw [List.map_cons, ih]; rfl
def slE (w : SWork) (l : List SSlot) : Int := if workE w = 0 then slotsE w l else workE w
def slotsR (w : SWork) (l : List SSlot) : PV := if slE w l = 0 then .tup [.sl ((placed w l).map ePl), I 0] else .tup [.nil, I (slE w l)]
theorem slotsR_bad {w : SWork} {l : List SSlot} {e : Int} (h : slE w l = e) (hne : e ≠ 0) : PV.tup [.nil, I e] = slotsR w l := by subst h; rw [slotsR, if_neg hne]
theorem workE_items {w : SWork} (h : workE w = 0) : itemsE w = 0 := by
  unfold workE at h
  split at h
  · split at h
    · split at h
      · assumption
      · rename_i h1; exact absurd h h1
    · rename_i h1; exact absurd h h1
  · rename_i h1; exact absurd h h1
theorem slotsErr_ret (w : SWork) (hw : Sane w) (l : List SSlot) : Ret Tryz.prog .shared 50 [.agg (eWork w), .sl (l.map eSlot)] (slotsR w l) := by
  have h1 := hw.items
  have hml : (w.items.map eItem).length = w.items.length := by simp
  have hll : (l.map eSlot).length = l.length := by simp
  have hn : ((w.items.map (·.name)).map eS).length = w.items.length := by simp
  refine Ret.of_pwp layOk mixed Go.Proofs.Tryz.func50 rfl (by decide) rfl rfl ?_
  repeat (refine stp rfl ?_ ?_;·repeat' constructor)
  apply qst;exact rfl;exact rfl;exact q_callP rfl (checkWork_ret w hw) rfl (by repeat' constructor) rfl rfl
  repeat (refine stp rfl ?_ ?_;·repeat' constructor)
  refine pw_cond rfl (fun h => ?_) (fun h => ?_)
  · have hne : ¬ workE w = 0 := by simpa using h
    repeat (refine stp rfl ?_ ?_;·repeat' constructor)
    exact end2 rfl rfl rfl rfl rfl trivial trivial (slotsR_bad (by rw [slE, if_neg hne]) hne)
  have hz : workE w = 0 := by simpa using h
  have hg := good_of (workE_items hz)
  have hsl : slE w l = slotsE w l := by rw [slE, if_pos hz]
  clear h
  repeat (refine stp rfl ?_ ?_;·repeat' constructor)
  refine pw_cond rfl (fun h => ?_) (fun h => ?_)
  · have hne : ¬ l.length = w.items.length := by intro e; simp [e] at h
    repeat (refine stp rfl ?_ ?_;·repeat' constructor)
    exact end2 rfl rfl rfl rfl rfl trivial trivial (slotsR_bad (by rw [hsl, slotsE, if_neg hne]) (by omega))
  have hlen : l.length = w.items.length := by simp at h; omega
  have it : slE w l = fstE l (slotE w l) := by rw [hsl, slotsE, if_pos hlen]
  clear h
  repeat (refine stp rfl ?_ ?_;·repeat' constructor)
  apply qst;exact rfl;exact rfl;exact q_call rfl (itemNames_ret w (by omega)) rfl (by repeat' constructor) rfl
  repeat (refine stp rfl ?_ ?_;·repeat' constructor)
  refine ps_run (o_make rfl rfl rfl rfl rfl rfl rfl rfl (by omega) (by rw [hn]; show ((24 : Nat) : Int) * _ ≤ _; omega) (by rw [hn]; omega) ?_)
  repeat (refine stp rfl ?_ ?_;·repeat' constructor)
  refine pw_loop (ClearE l (slotE w l)) (fun k => [(1, .sl (l.map eSlot)), (2, .ptr 2 1 0 0), (7, .sl ((w.items.map (·.name)).map eS)), (8, .als 27 1 0 w.items.length), (28, .sl (l.map eSlot)), (29, I l.length), (30, I k)]) (fun k => [(2, 1, ⟨28, 9, [eWork w], 2⟩), (27, 1, ⟨99, 3, (placed w (l.take k)).map ePl, 0⟩)]) (fun k => l.length - k) 0 .zero' ⟨rfl, rfl, rfl, ?_, rfl, ?_, rfl, rfl, ?_, trivial⟩ ?_
  · show PV.als 27 1 0 (List.length (List.replicate (Int.toNat ((w.items.map (·.name)).map eS).length) _)) = _
    simp
  · show I ((l.map eSlot).length) = _
    rw [hll]
  · show (1, some (Cont.mk 99 3 (List.replicate (Int.toNat ((w.items.map (·.name)).map eS).length) _) 0)) = _
    rw [hn, Int.toNat_natCast]
    have : (placed w (l.take 0)).map ePl = List.replicate w.items.length (ePl ⟨0, 0, false⟩) := by
      rw [placed, List.map_map]
      exact map_same w.items (ePl ⟨0, 0, false⟩)
    rw [this]
    rfl
  intro k s hk
  have hpl : ∀ (i : Nat) (y : SItem), w.items[i]? = some y → ((placed w (l.take k)).map ePl)[i]? = some (ePl (pl (l.take k) y.name)) := fun i y hy => by rw [placed, List.map_map, List.getElem?_map, hy]; rfl
  repeat (refine stp rfl ?_ ?_;·repeat' constructor)
  refine pw_cond rfl (fun h => ?_) (fun h => ?_)
  · have hlt : k < l.length := by simpa using h
    obtain ⟨x, hx⟩ := get_lt hlt
    clear h
    have bad : ∀ e, slotE w l k x = e → e ≠ 0 → PV.tup [.nil, I e] = slotsR w l := fun e hb he => slotsR_bad (by rw [it, hk.found (e := e) hx hb he]) he
    repeat (refine stp rfl ?_ ?_;·repeat' constructor)
    apply qst;exact rfl;exact rfl;exact q_idxm rfl rfl rfl rfl rfl (by omega) hx rfl
    repeat (refine stp rfl ?_ ?_;·repeat' constructor)
    apply qst;exact rfl;exact rfl;exact q_callP rfl (index_ret (w.items.map (·.name)) x.item (by simp; omega)) rfl (by repeat' constructor) rfl rfl
    have him : idx (w.items.map (·.name)) (· == x.item) = idx w.items (·.name == x.item) := idx_map _ _ _
    rw [him]
    repeat (refine stp rfl ?_ ?_;·repeat' constructor)
    refine pw_cond rfl (fun h => ?_) (fun h => ?_)
    · have hneg := of_decide_eq_true h
      repeat (refine stp rfl ?_ ?_;·repeat' constructor)
      exact end2 rfl rfl rfl rfl rfl trivial trivial (bad 6 (by rw [slotE, if_pos hneg]) (by omega))
    have hn0 := of_decide_eq_false h
    clear h
    obtain ⟨y, hy, hyn⟩ := idx_lt (Int.not_lt.1 hn0)
    have hyn : y.name = x.item := by simpa using hyn
    obtain ⟨i, hi⟩ : ∃ i : Nat, idx w.items (·.name == x.item) = i := ⟨_, (Int.toNat_of_nonneg (Int.not_lt.1 hn0)).symm⟩
    rw [hi, Int.toNat_natCast] at hy
    rw [hi] at him ⊢
    have hil := (List.getElem?_eq_some_iff.1 hy).1
    have hmo : modesOf w x = y.modes.length := by rw [modesOf, hi, Int.toNat_natCast, hy]
    have hrow := hpl i y hy
    rw [hyn] at hrow
    repeat (refine stp rfl ?_ ?_;·repeat' constructor)
    refine ps_q (q_idxA rfl rfl rfl rfl rfl rfl rfl (by omega) (by omega)) ?_
    rw [Int.toNat_natCast, Nat.zero_add i]
    repeat (refine stp rfl ?_ ?_;·repeat' constructor)
    refine ps_q (q_ldp rfl rfl rfl hrow rfl) ?_
    repeat (refine stp rfl ?_ ?_;·repeat' constructor)
    refine pw_cond rfl (fun h => ?_) (fun h => ?_)
    · have h : (pl (l.take k) x.item).on = true := h
      rw [pl_on] at h
      repeat (refine stp rfl ?_ ?_;·repeat' constructor)
      exact end2 rfl rfl rfl rfl rfl trivial trivial (bad 5 (by rw [slotE, if_neg hn0, if_pos h]) (by omega))
    have hoff : (pl (l.take k) x.item).on = false := h
    have hno := hoff
    rw [pl_on] at hno
    clear h
    have own : slotE w l k x = if inside x.mode 0 (y.modes.length - 1) && inside x.day 0 400 then 0 else 2 := by rw [slotE, if_neg hn0, hno, hmo]; rfl
    repeat (refine stp rfl ?_ ?_;·repeat' constructor)
    refine pw_draw 22 [48, 49, 50, 51, 52, 53, 54, 55, 56, 57, 58, 59, 60, 61, 62, 63, 64, 65, 66, 67, 68, 47] (by decide +kernel) ?_
    repeat (refine stp rfl ?_ ?_;·repeat' constructor)
    (first | refine ps_split rfl rfl (fun h => ?_) (fun h => ?_) | refine pq_split rfl rfl (fun h => ?_) (fun h => ?_) | refine p3_split rfl rfl (fun h => ?_) (fun h => ?_))
    · have hb : inside x.mode 0 (y.modes.length - 1) = false := by have := of_decide_eq_true h; rw [inside, decide_eq_false (by omega)]; rfl
      repeat (refine stp rfl ?_ ?_;·repeat' constructor)
      exact end2 rfl rfl rfl rfl rfl trivial trivial (bad 2 (by rw [own, hb]; rfl) (by omega))
    have hlo := of_decide_eq_false h
    clear h
    repeat (refine stp rfl ?_ ?_;·repeat' constructor)
    apply qst;exact rfl;exact rfl;exact q_idxm (n := (i : Int)) rfl rfl rfl rfl rfl (by omega) hy rfl
    repeat (refine stp rfl ?_ ?_;·repeat' constructor)
    (first | refine ps_split rfl rfl (fun h => ?_) (fun h => ?_) | refine pq_split rfl rfl (fun h => ?_) (fun h => ?_) | refine p3_split rfl rfl (fun h => ?_) (fun h => ?_))
    · have hb : inside x.mode 0 (y.modes.length - 1) = false := by have := of_decide_eq_true h; rw [List.length_map] at this; rw [inside, decide_eq_false (p := x.mode ≤ _) (by omega), Bool.and_false]
      repeat (refine stp rfl ?_ ?_;·repeat' constructor)
      exact end2 rfl rfl rfl rfl rfl trivial trivial (bad 2 (by rw [own, hb]; rfl) (by omega))
    have hb : inside x.mode 0 (y.modes.length - 1) = true := by have := of_decide_eq_false h; rw [List.length_map] at this; rw [inside, decide_eq_true (p := 0 ≤ x.mode) (by omega), decide_eq_true (p := x.mode ≤ _) (by omega)]; rfl
    clear h
    repeat (refine stp rfl ?_ ?_;·repeat' constructor)
    apply qst;exact rfl;exact rfl;exact q_callP rfl (within_ret x.day 400) rfl (by repeat' constructor) rfl rfl
    repeat (refine stp rfl ?_ ?_;·repeat' constructor)
    refine pw_cond rfl (fun h => ?_) (fun h => ?_)
    · have hb2 : inside x.day 0 400 = false := by simpa using h
      repeat (refine stp rfl ?_ ?_;·repeat' constructor)
      exact end2 rfl rfl rfl rfl rfl trivial trivial (bad 2 (by rw [own, hb, hb2]; rfl) (by omega))
    have hb2 : inside x.day 0 400 = true := by simpa using h
    clear h
    repeat (refine stp rfl ?_ ?_;·repeat' constructor)
    refine ps_q (q_idxA rfl rfl rfl rfl rfl rfl rfl (by omega) (by omega)) ?_
    rw [Int.toNat_natCast, Nat.zero_add i]
    refine ps_run0 (o_store (kd' := 0) rfl rfl rfl hrow rfl rfl (by repeat' constructor) rfl rfl rfl rfl ?_)
    repeat (refine stp rfl ?_ ?_;·repeat' constructor)
    refine ⟨k + 1, hk.succ hx (by rw [own, hb, hb2]; rfl), by omega, rfl, rfl, rfl, rfl, rfl, rfl, ?_, rfl, ?_, trivial⟩
    · exact i64_next (by omega) (by omega)
    · refine Eq.trans (b := (1, some (Cont.mk 99 3 (((placed w (l.take k)).map ePl).set i (ePl ⟨x.mode, x.day, true⟩)) 0))) rfl ?_
      rw [← List.map_set, placed_set hg hy hyn hoff, take_snoc hx]
  · have hE : slE w l = 0 := by rw [it, hk.none (by simpa using h)]
    have htk : l.take k = l := List.take_of_length_le (by have := of_decide_eq_false h; omega)
    rw [htk]
    clear h
    repeat (refine stp rfl ?_ ?_;·repeat' constructor)
    exact end2 rfl rfl rfl rfl rfl ⟨rfl, rfl, by simp [placed]⟩ trivial (by rw [slotsR, if_pos hE])
end Go.Pv


set_option maxHeartbeats 2000000
namespace Go.Pv
attribute [local irreducible] PWP POps PQuiet PSem XThen XBlock RetPost InlPost
open Go.Proofs
def modeAt (x : SItem) (k : Int) : SMode := (x.modes[k.toNat]?).getD ⟨0, 0⟩
def endP (x : SItem) (p : SPl) : Int := p.day + (modeAt x p.mode).days
structure PlOk (x : SItem) (p : SPl) : Prop where
  lo : 0 ≤ p.mode
  mode : x.modes[p.mode.toNat]? = some (modeAt x p.mode)
  day : 0 ≤ p.day ∧ p.day ≤ 400
  days : 1 ≤ (modeAt x p.mode).days ∧ (modeAt x p.mode).days ≤ 60
  crew : 0 ≤ (modeAt x p.mode).crew ∧ (modeAt x p.mode).crew ≤ 1000
theorem inside_iff {n a b : Int} : inside n a b = true ↔ a ≤ n ∧ n ≤ b := by simp [inside]
structure ItemOk (w : SWork) (x : SItem) : Prop where
  trade : 0 ≤ idx w.trades (·.name == x.trade)
  modes : 1 ≤ x.modes.length ∧ x.modes.length ≤ 3
  mode : ∀ m ∈ x.modes, (1 ≤ m.days ∧ m.days ≤ 60) ∧ (0 ≤ m.crew ∧ m.crew ≤ 1000) ∧ m.crew ≤ crewOf w x
  space : x.space ≠ [] → noSpace w x.space = false
  kind : -1 ≤ x.kind ∧ x.kind ≤ 5
  kspace : x.kind ≠ -1 → x.space ≠ []
structure Well (w : SWork) : Prop where
  n40 : w.items.length ≤ 40
  t6 : w.trades.length ≤ 6
  good : Good1 w
  item : ∀ x ∈ w.items, ItemOk w x
  trade : ∀ t ∈ w.trades, (0 ≤ t.crew ∧ t.crew ≤ 1000) ∧ 0 ≤ t.rate ∧ t.rate ≤ 1000000
  tuniq : ∀ (i : Nat) t, w.trades[i]? = some t → idx w.trades (·.name == t.name) = i
  excls : w.excls.length ≤ 30
  outs : w.outs.length ≤ 20
  excl : ∀ x ∈ w.excls, (0 ≤ x.a ∧ x.a ≤ 5) ∧ (0 ≤ x.b ∧ x.b ≤ 5) ∧ 0 ≤ x.reach ∧ x.reach ≤ 2
  out : ∀ o ∈ w.outs, (0 ≤ o.frm ∧ o.frm ≤ 400) ∧ 0 ≤ o.to ∧ o.to ≤ 400
  hire : 0 ≤ w.hire ∧ w.hire ≤ 1000000000
  late : 0 ≤ w.late ∧ w.late ≤ 1000000000
  due : 0 ≤ w.due ∧ w.due ≤ 400
  last : 0 ≤ w.last ∧ w.last ≤ 400
  full : ¬ (ordS w).length < w.items.length
theorem ite_zero {c : Prop} [Decidable c] {a e : Int} (h : (if c then a else e) = 0) (he : e ≠ 0) : c ∧ a = 0 := by
  split at h
  · exact ⟨‹_›, h⟩
  · exact absurd h he
theorem ite_zero' {c : Prop} [Decidable c] {a e : Int} (h : (if c then e else a) = 0) (he : e ≠ 0) : ¬ c ∧ a = 0 := by
  split at h
  · exact absurd h he
  · exact ⟨‹_›, h⟩
theorem ite_self_zero {a b : Int} (h : (if a = 0 then b else a) = 0) : a = 0 ∧ b = 0 := by
  split at h
  · exact ⟨‹_›, h⟩
  · exact absurd h ‹_›
theorem itemOk_of {w : SWork} {x : SItem} (h : itemE w x = 0) : ItemOk w x := by
  unfold itemE at h
  obtain ⟨h1, h⟩ := ite_zero' h (by omega)
  obtain ⟨h2, h⟩ := ite_zero' h (by omega)
  obtain ⟨h3, h⟩ := ite_self_zero h
  obtain ⟨h4, h⟩ := ite_zero' h (by omega)
  obtain ⟨h5, h⟩ := ite_zero h (by omega)
  obtain ⟨h6, h⟩ := ite_zero' h (by omega)
  have hm := fstE_zero h3
  refine ⟨by omega, ?_, fun m hm' => ?_, fun hs => ?_, inside_iff.1 h5, fun hk hs => h6 ⟨hk, hs⟩⟩
  · simp only [Bool.or_eq_true, decide_eq_true_eq, not_or] at h2
    omega
  · obtain ⟨i, hi, rfl⟩ := List.getElem_of_mem hm'
    have := hm i _ (List.getElem?_eq_getElem hi)
    unfold modeE at this
    obtain ⟨g1, g2⟩ := ite_zero this (by omega)
    obtain ⟨g3, _⟩ := ite_zero' g2 (by omega)
    simp only [Bool.and_eq_true, inside_iff] at g1
    exact ⟨g1.1, g1.2, by omega⟩
  · cases hb : noSpace w x.space with
    | false => rfl
    | true => exact absurd ⟨hs, hb⟩ h4
theorem well_of {w : SWork} (h : workE w = 0) : Well w := by
  unfold workE at h
  obtain ⟨h1, h⟩ := ite_self_zero h
  obtain ⟨h2, h⟩ := ite_self_zero h
  obtain ⟨h3, h⟩ := ite_self_zero h
  obtain ⟨h4, h⟩ := ite_zero h (by omega)
  obtain ⟨h5, _⟩ := ite_zero' h (by omega)
  have hg := good_of h3
  unfold tradesE at h1
  obtain ⟨t1, t2⟩ := ite_zero' h1 (by omega)
  have t3 := fstE_zero t2
  unfold roomE at h2
  obtain ⟨r1, r2⟩ := ite_self_zero h2
  unfold rulesE at r2
  obtain ⟨r3, r2⟩ := ite_zero' r2 (by omega)
  obtain ⟨r4, r2⟩ := ite_self_zero r2
  obtain ⟨r5, r2⟩ := ite_zero' r2 (by omega)
  have r6 := fstE_zero r4
  have r7 := fstE_zero r2
  unfold itemsE at h3
  obtain ⟨i1, i2⟩ := ite_zero' h3 (by omega)
  have i3 := fstE_zero i2
  simp only [figE, Bool.and_eq_true, inside_iff] at h4
  have tr : ∀ (i : Nat) t, w.trades[i]? = some t → idx w.trades (·.name == t.name) = i ∧ tradeE t = 0 := fun i t ht => by
    have := t3 i t ht
    obtain ⟨_, g2⟩ := ite_zero this (by omega)
    exact ite_zero g2 (by omega)
  refine ⟨by omega, by omega, hg, fun x hx => ?_, fun t ht => ?_, fun i t ht => (tr i t ht).1, by omega, by omega, fun x hx => ?_, fun o ho => ?_, h4.1.1.1, h4.1.1.2, h4.1.2, h4.2, h5⟩
  · obtain ⟨i, hi, rfl⟩ := List.getElem_of_mem hx
    have := i3 i _ (List.getElem?_eq_getElem hi)
    obtain ⟨_, g2⟩ := ite_zero this (by omega)
    obtain ⟨_, g3⟩ := ite_zero g2 (by omega)
    exact itemOk_of g3
  · obtain ⟨i, hi, rfl⟩ := List.getElem_of_mem ht
    have := (tr i _ (List.getElem?_eq_getElem hi)).2
    unfold tradeE at this
    obtain ⟨g, _⟩ := ite_zero this (by omega)
    simp only [Bool.and_eq_true, inside_iff] at g
    exact g
  · obtain ⟨i, hi, rfl⟩ := List.getElem_of_mem hx
    have := r6 i _ (List.getElem?_eq_getElem hi)
    unfold exclE at this
    obtain ⟨g, _⟩ := ite_zero this (by omega)
    simp only [Bool.and_eq_true, inside_iff] at g
    exact ⟨g.1.1, g.1.2, g.2⟩
  · obtain ⟨i, hi, rfl⟩ := List.getElem_of_mem ho
    have := r7 i _ (List.getElem?_eq_getElem hi)
    unfold outE at this
    obtain ⟨g, _⟩ := ite_zero this (by omega)
    simp only [Bool.and_eq_true, inside_iff] at g
    exact g
theorem plOk_of {w : SWork} (hw : Well w) {x : SItem} (hx : x ∈ w.items) {p : SPl} (h1 : 0 ≤ p.mode) (h2 : p.mode < x.modes.length) (h3 : 0 ≤ p.day ∧ p.day ≤ 400) : PlOk x p := by
  have hlt : p.mode.toNat < x.modes.length := by omega
  have hm : x.modes[p.mode.toNat]? = some (modeAt x p.mode) := by rw [modeAt, List.getElem?_eq_getElem hlt]; rfl
  have := (hw.item x hx).mode _ (List.mem_of_getElem? hm)
  exact ⟨h1, hm, h3, this.1, this.2.1⟩
theorem slot_of {w : SWork} {l : List SSlot} (hs : slotsE w l = 0) {k : Nat} {sl : SSlot} (hk : l[k]? = some sl) : 0 ≤ idx w.items (·.name == sl.item) ∧ (l.take k).any (·.item == sl.item) = false ∧ (0 ≤ sl.mode ∧ sl.mode ≤ modesOf w sl - 1) ∧ 0 ≤ sl.day ∧ sl.day ≤ 400 := by
  unfold slotsE at hs
  obtain ⟨_, hs⟩ := ite_zero hs (by omega)
  have := fstE_zero hs k sl hk
  unfold slotE at this
  obtain ⟨g1, this⟩ := ite_zero' this (by omega)
  obtain ⟨g2, this⟩ := ite_zero' this (by omega)
  obtain ⟨g3, _⟩ := ite_zero this (by omega)
  simp only [Bool.and_eq_true, inside_iff] at g3
  exact ⟨by omega, by simpa using g2, g3.1, g3.2⟩
theorem end_ret (x : SItem) (p : SPl) (h : PlOk x p) : Ret Tryz.prog .shared 49 [.agg (ePl p), .agg (eItem x)] (I (endP x p)) := by
  have hm := h.mode
  have hlo := h.lo
  have h1 := h.day
  have h2 := h.days
  refine Ret.of_pwp layOk mixed Go.Proofs.Tryz.func49 rfl (by decide) rfl rfl ?_
  repeat (refine stp rfl ?_ ?_;·repeat' constructor)
  refine pw_draw 11 [5, 6, 7, 8, 9, 10, 11, 12, 13, 14, 4] (by decide +kernel) ?_
  repeat (refine stp rfl ?_ ?_;·repeat' constructor)
  apply qst;exact rfl;exact rfl;exact q_idxm rfl rfl rfl rfl rfl (by omega) hm rfl
  repeat (refine stp rfl ?_ ?_;·repeat' constructor)
  exact end1i rfl rfl (by rw [wrap_i64 (by omega) (by omega)]; rfl)
def prs (w : SWork) (l : List SPl) : List (SItem × SPl) := w.items.zip l
theorem prs_at {w : SWork} {l : List SPl} {k : Nat} {x : SItem} {p : SPl} (hx : w.items[k]? = some x) (hp : l[k]? = some p) : (prs w l)[k]? = some (x, p) := by
  rw [prs, List.getElem?_zip_eq_some]; exact ⟨hx, hp⟩
structure Plan (w : SWork) (l : List SPl) : Prop where
  len : l.length = w.items.length
  ok : ∀ (i : Nat) x p, w.items[i]? = some x → l[i]? = some p → p.on = true → PlOk x p
def imax (a b : Int) : Int := if a < b then b else a
theorem imax_bound {a b N : Int} (h1 : 0 ≤ a) (h2 : a ≤ N) (h3 : 0 ≤ b) (h4 : b ≤ N) : 0 ≤ imax a b ∧ imax a b ≤ N := by
  unfold imax
  split <;> omega
def durF (n : Int) (q : SItem × SPl) : Int := if q.2.on then imax n (endP q.1 q.2) else n
def durP (w : SWork) (l : List SPl) : Int := (prs w l).foldl durF 0
theorem durF_bound {w : SWork} {l : List SPl} (h : Plan w l) (k : Nat) : 0 ≤ ((prs w l).take k).foldl durF 0 ∧ ((prs w l).take k).foldl durF 0 ≤ 460 := by
  induction k with
  | zero => simp
  | succ k ih =>
    cases hq : (prs w l)[k]? with
    | none => rw [List.take_of_length_le (by have := List.getElem?_eq_none_iff.1 hq; omega)] at ih ⊢; exact ih
    | some q =>
      rw [take_snoc hq, List.foldl_append]
      obtain ⟨x, p⟩ := q
      rw [prs, List.getElem?_zip_eq_some] at hq
      generalize List.foldl durF 0 ((prs w l).take k) = n at ih ⊢
      show 0 ≤ durF _ _ ∧ durF _ _ ≤ 460
      unfold durF
      cases hon : p.on with
      | false => simpa [hon] using ih
      | true =>
        have hok := h.ok k x p hq.1 hq.2 hon
        have h1 := hok.day
        have h2 := hok.days
        have := imax_bound (N := 460) ih.1 ih.2 (show 0 ≤ endP x p by unfold endP; omega) (show endP x p ≤ 460 by unfold endP; omega)
        simpa [hon] using this
theorem durP_bound {w : SWork} {l : List SPl} (h : Plan w l) : 0 ≤ durP w l ∧ durP w l ≤ 460 := by
  have := durF_bound h (prs w l).length
  rwa [List.take_length] at this
theorem duration_ret (w : SWork) (l : List SPl) (h : Plan w l) (hn : w.items.length ≤ 100000) : Ret Tryz.prog .shared 41 [.agg (eWork w), .sl (l.map ePl)] (I (durP w l)) := by
  have hl := h.len
  have hml : (l.map ePl).length = l.length := by simp
  refine Ret.of_pwp layOk mixed Go.Proofs.Tryz.func41 rfl (by decide) rfl rfl ?_
  repeat (refine stp rfl ?_ ?_;·repeat' constructor)
  refine pw_loop (fun k => k ≤ l.length) (fun k => [(1, .sl (l.map ePl)), (2, .ptr 2 1 0 0), (5, I (((prs w l).take k).foldl durF 0)), (8, .sl (l.map ePl)), (9, I l.length), (10, I k)]) (fun _ => [(2, 1, ⟨28, 9, [eWork w], 2⟩)]) (fun k => l.length - k) 0 (Nat.zero_le _) ⟨rfl, rfl, rfl, rfl, ?_, rfl, rfl, trivial⟩ ?_
  · show I ((l.map ePl).length) = _
    rw [hml]
  intro k s hk
  repeat (refine stp rfl ?_ ?_;·repeat' constructor)
  refine pw_cond rfl (fun h => ?_) (fun h => ?_)
  · have hlt : k < l.length := by simpa using h
    obtain ⟨p, hp⟩ := get_lt hlt
    obtain ⟨x, hx⟩ := get_lt (show k < w.items.length by omega)
    clear h
    have hb := durF_bound ‹Plan w l› k
    have hs := take_snoc (prs_at hx hp)
    have hok := ‹Plan w l›.ok k x p hx hp
    repeat (refine stp rfl ?_ ?_;·repeat' constructor)
    apply qst;exact rfl;exact rfl;exact q_idxm rfl rfl rfl rfl rfl (by omega) hp rfl
    repeat (refine stp rfl ?_ ?_;·repeat' constructor)
    refine pw_cond rfl (fun h => ?_) (fun h => ?_)
    · have hon : p.on = true := h
      have hok := hok hon
      clear h
      repeat (refine stp rfl ?_ ?_;·repeat' constructor)
      refine pw_draw 9 [17, 18, 19, 20, 21, 22, 23, 24, 25] (by decide +kernel) ?_
      repeat (refine stp rfl ?_ ?_;·repeat' constructor)
      apply qst;exact rfl;exact rfl;exact q_idxm rfl rfl rfl rfl rfl (by omega) hx rfl
      repeat (refine stp rfl ?_ ?_;·repeat' constructor)
      apply qst;exact rfl;exact rfl;exact q_callP rfl (end_ret x p hok) rfl (by repeat' constructor) rfl rfl
      repeat (refine stp rfl ?_ ?_;·repeat' constructor)
      refine ⟨k + 1, hlt, by omega, rfl, rfl, ?_, rfl, rfl, ?_, rfl, trivial⟩
      · rw [hs, List.foldl_append]
        show _ = I (durF _ _)
        rw [durF, hon, if_pos rfl, imax]
        rfl
      · exact i64_next (by omega) (by omega)
    · have hon : p.on = false := h
      clear h
      repeat (refine stp rfl ?_ ?_;·repeat' constructor)
      refine ⟨k + 1, hlt, by omega, rfl, rfl, ?_, rfl, rfl, ?_, rfl, trivial⟩
      · rw [hs, List.foldl_append]
        show _ = I (durF _ _)
        rw [durF, hon]
        rfl
      · exact i64_next (by omega) (by omega)
  · have hge : k = l.length := by have := of_decide_eq_false h; omega
    subst hge
    repeat (refine stp rfl ?_ ?_;·repeat' constructor)
    refine end1i rfl rfl ?_
    rw [List.take_of_length_le]
    · rfl
    · simp [prs]; omega
theorem mul_bound {a b A B : Int} (h1 : 0 ≤ a) (h2 : a ≤ A) (h3 : 0 ≤ b) (h4 : b ≤ B) : 0 ≤ a * b ∧ a * b ≤ A * B :=
  ⟨Int.mul_nonneg h1 h3, Int.mul_le_mul h2 h4 h3 (by omega)⟩
def rentP (w : SWork) (n : Int) : Int := w.hire * n + w.late * imax 0 (n - w.due)
theorem rent_bound {w : SWork} (hw : Well w) {n : Int} (h : 0 ≤ n ∧ n ≤ 1000) : (0 ≤ w.hire * n ∧ w.hire * n ≤ 1000000000000) ∧ (0 ≤ imax 0 (n - w.due) ∧ imax 0 (n - w.due) ≤ 1000) ∧ (0 ≤ w.late * imax 0 (n - w.due) ∧ w.late * imax 0 (n - w.due) ≤ 1000000000000) := by
  have h1 := hw.hire
  have h2 := hw.late
  have h3 := hw.due
  have hm : 0 ≤ imax 0 (n - w.due) ∧ imax 0 (n - w.due) ≤ 1000 := by unfold imax; split <;> omega
  exact ⟨mul_bound (A := 1000000000) (B := 1000) h1.1 h1.2 h.1 h.2, hm, mul_bound (A := 1000000000) (B := 1000) h2.1 h2.2 hm.1 hm.2⟩
theorem rent_ret (w : SWork) (hw : Well w) (n : Int) (h : 0 ≤ n ∧ n ≤ 1000) : Ret Tryz.prog .shared 80 [.agg (eWork w), I n] (I (rentP w n)) := by
  obtain ⟨h1, h2, h3⟩ := rent_bound hw h
  have h4 := hw.due
  refine Ret.of_pwp layOk mixed Go.Proofs.Tryz.func80 rfl (by decide) rfl rfl ?_
  repeat (refine stp rfl ?_ ?_;·repeat' constructor)
  refine end1i rfl rfl ?_
  show _ = I (w.hire * n + w.late * imax 0 (n - w.due))
  have e1 : IntKind.i64.wrap (n - w.due) = n - w.due := wrap_i64 (by omega) (by omega)
  rw [e1]
  show PV.int .i64 (IntKind.i64.wrap (IntKind.i64.wrap (w.hire * n) + IntKind.i64.wrap (w.late * imax 0 (n - w.due)))) = _
  rw [wrap_i64 (n := w.hire * n) (by omega) (by omega), wrap_i64 (n := w.late * _) (by omega) (by omega), wrap_i64 (by omega) (by omega)]
end Go.Pv


set_option maxHeartbeats 2000000
namespace Go.Pv
attribute [local irreducible] PWP POps PQuiet PSem XThen XBlock RetPost InlPost
open Go.Proofs
def nearS (a b : Str) (s : SSpace) : Bool := (decide (s.name = a) && s.next.any (· == b)) || (decide (s.name = b) && s.next.any (· == a))
def nearP (w : SWork) (a b : Str) : Int := if a = b then 0 else if w.spaces.any (nearS a b) then 1 else 2
theorem near_ret (w : SWork) (hw : Sane w) (a b : Str) : Ret Tryz.prog .shared 107 [.agg (eWork w), .str a, .str b] (I (nearP w a b)) := by
  have h3 := hw.spaces
  refine Ret.of_pwp layOk mixed Go.Proofs.Tryz.func107 rfl (by decide) rfl rfl ?_
  repeat (refine stp rfl ?_ ?_;·repeat' constructor)
  refine pw_cond rfl (fun h => ?_) (fun h => ?_)
  · have he := of_decide_eq_true h
    repeat (refine stp rfl ?_ ?_;·repeat' constructor)
    exact end1i rfl rfl (by rw [nearP, if_pos he])
  have hne := of_decide_eq_false h
  clear h
  repeat (refine stp rfl ?_ ?_;·repeat' constructor)
  refine pw_loop (Clear w.spaces (nearS a b)) (fun k => [(1, .str a), (2, .str b), (13, .sl (w.spaces.map eSpace)), (14, I w.spaces.length), (15, I k)]) (fun _ => []) (fun k => w.spaces.length - k) 0 .zero ⟨rfl, rfl, rfl, ?_, rfl, trivial⟩ ?_
  · show I ((w.spaces.map eSpace).length) = _
    simp
  intro k s hk
  repeat (refine stp rfl ?_ ?_;·repeat' constructor)
  refine pw_cond rfl (fun h => ?_) (fun h => ?_)
  · have hlt : k < w.spaces.length := by simpa using h
    obtain ⟨x, hx⟩ := get_lt hlt
    have hax := hw.next x (List.mem_of_getElem? hx)
    clear h
    repeat (refine stp rfl ?_ ?_;·repeat' constructor)
    apply qst;exact rfl;exact rfl;exact q_idxm rfl rfl rfl rfl rfl (by omega) hx rfl
    have yes : nearS a b x = true → PV.int .i64 1 = I (nearP w a b) := fun hy => by rw [nearP, if_neg hne, if_pos (any_of hx hy)]
    have no : nearS a b x = false → Clear w.spaces (nearS a b) (k + 1) := fun hy => hk.succ hx hy
    repeat (refine stp rfl ?_ ?_;·repeat' constructor)
    (first | refine ps_split rfl rfl (fun h => ?_) (fun h => ?_) | refine pq_split rfl rfl (fun h => ?_) (fun h => ?_) | refine p3_split rfl rfl (fun h => ?_) (fun h => ?_))
    · have ha := of_decide_eq_true h
      clear h
      repeat (refine stp rfl ?_ ?_;·repeat' constructor)
      apply qst;exact rfl;exact rfl;exact q_callP rfl (contains_ret x.next b (by omega)) rfl (by repeat' constructor) rfl rfl
      repeat (refine stp rfl ?_ ?_;·repeat' constructor)
      (first | refine ps_split rfl rfl (fun h => ?_) (fun h => ?_) | refine pq_split rfl rfl (fun h => ?_) (fun h => ?_) | refine p3_split rfl rfl (fun h => ?_) (fun h => ?_))
      · have hb : x.next.any (· == b) = true := h
        repeat (refine stp rfl ?_ ?_;·repeat' constructor)
        exact end1i rfl rfl (yes (by simp [nearS, ha, hb]))
      have hb : x.next.any (· == b) = false := h
      clear h
      repeat (refine stp rfl ?_ ?_;·repeat' constructor)
      (first | refine ps_split rfl rfl (fun h => ?_) (fun h => ?_) | refine pq_split rfl rfl (fun h => ?_) (fun h => ?_) | refine p3_split rfl rfl (fun h => ?_) (fun h => ?_))
      · have hc := of_decide_eq_true h
        exact absurd (ha.symm.trans hc) hne
      have hc := of_decide_eq_false h
      clear h
      repeat (refine stp rfl ?_ ?_;·repeat' constructor)
      refine ⟨k + 1, no (by simp only [nearS, hb, hc, Bool.and_false, decide_false, Bool.false_and, Bool.or_false]), by omega, rfl, rfl, rfl, rfl, ?_, trivial⟩
      exact i64_next (by omega) (by omega)
    have ha := of_decide_eq_false h
    clear h
    repeat (refine stp rfl ?_ ?_;·repeat' constructor)
    (first | refine ps_split rfl rfl (fun h => ?_) (fun h => ?_) | refine pq_split rfl rfl (fun h => ?_) (fun h => ?_) | refine p3_split rfl rfl (fun h => ?_) (fun h => ?_))
    · have hc := of_decide_eq_true h
      clear h
      repeat (refine stp rfl ?_ ?_;·repeat' constructor)
      apply qst;exact rfl;exact rfl;exact q_callP rfl (contains_ret x.next a (by omega)) rfl (by repeat' constructor) rfl rfl
      repeat (refine stp rfl ?_ ?_;·repeat' constructor)
      refine pw_cond rfl (fun h => ?_) (fun h => ?_)
      · have hb : x.next.any (· == a) = true := h
        repeat (refine stp rfl ?_ ?_;·repeat' constructor)
        exact end1i rfl rfl (yes (by simp [nearS, hc, hb]))
      have hb : x.next.any (· == a) = false := h
      clear h
      repeat (refine stp rfl ?_ ?_;·repeat' constructor)
      refine ⟨k + 1, no (by simp only [nearS, hb, ha, Bool.and_false, decide_false, Bool.false_and, Bool.or_false]), by omega, rfl, rfl, rfl, rfl, ?_, trivial⟩
      exact i64_next (by omega) (by omega)
    have hc := of_decide_eq_false h
    clear h
    repeat (refine stp rfl ?_ ?_;·repeat' constructor)
    refine ⟨k + 1, no (by simp only [nearS, ha, hc, decide_false, Bool.false_and, Bool.or_false]), by omega, rfl, rfl, rfl, rfl, ?_, trivial⟩
    exact i64_next (by omega) (by omega)
  · have hno := hk.any (by simpa using h)
    repeat (refine stp rfl ?_ ?_;·repeat' constructor)
    exact end1i rfl rfl (by rw [nearP, if_neg hne, hno]; rfl)
def exclK (a b : SItem) (x : SExcl) : Bool := (decide (x.a = a.kind) && decide (x.b = b.kind)) || (decide (x.a = b.kind) && decide (x.b = a.kind))
def exclB (w : SWork) (a b : SItem) (x : SExcl) : Bool := exclK a b x && decide (nearP w a.space b.space ≤ x.reach)
theorem excl1_ret (w : SWork) (hw : Sane w) (a b : SItem) (x : SExcl) : Ret Tryz.prog .shared 106 [.agg (eExcl x), .dref (eItem a) 0, .dref (eItem b) 0, .dref (eWork w) 0] (.bool (exclB w a b x)) := by
  refine Ret.of_pwp layOk mixed Go.Proofs.Tryz.func106 rfl (by decide) rfl rfl ?_
  repeat (refine stp rfl ?_ ?_;·repeat' constructor)
  refine ps_cut 100 [(1, .dref (eItem a) 0), (2, .dref (eItem b) 0), (3, .dref (eWork w) 0), (4, .ptr 4 1 0 0), (6, .bool (exclK a b x))] [(4, 1, ⟨126, 3, [eExcl x], 2⟩)] ?_ ?_
  · repeat' (first|(refine stp rfl ?_ ?_;·repeat' constructor)|refine ps_split rfl rfl (fun h => ?_) (fun h => ?_)|refine pq_split rfl rfl (fun h => ?_) (fun h => ?_)|refine p3_split rfl rfl (fun h => ?_) (fun h => ?_))
    all_goals exact ⟨rfl, rfl, rfl, rfl, congrArg PV.bool (by simp_all [exclK]), rfl, trivial⟩
  intro s
  repeat (refine stp rfl ?_ ?_;·repeat' constructor)
  refine pw_draw 13 [33, 34, 35, 36, 37, 38, 39, 40, 41, 42, 43, 44, 5] (by decide +kernel) ?_
  repeat (refine stp rfl ?_ ?_;·repeat' constructor)
  (first | refine ps_split rfl rfl (fun h => ?_) (fun h => ?_) | refine pq_split rfl rfl (fun h => ?_) (fun h => ?_) | refine p3_split rfl rfl (fun h => ?_) (fun h => ?_))
  · have hk : exclK a b x = true := h
    repeat (refine stp rfl ?_ ?_;·repeat' constructor)
    apply qst;exact rfl;exact rfl;exact q_callP rfl (near_ret w hw a.space b.space) rfl (by repeat' constructor) rfl rfl
    repeat (refine stp rfl ?_ ?_;·repeat' constructor)
    exact end1b rfl rfl (by rw [exclB, hk]; rfl)
  · have hk : exclK a b x = false := h
    repeat (refine stp rfl ?_ ?_;·repeat' constructor)
    exact end1b rfl rfl (by rw [exclB, hk]; rfl)
theorem indexX_ret (l : List SExcl) (f : FuncId) (c0 c1 c2 : List PV) (p : SExcl → Bool) (hw : l.length ≤ 1000000) (hf : ∀ x, x ∈ l → Ret Tryz.prog .shared f (.agg (eExcl x) :: [.dref c0 0, .dref c1 0, .dref c2 0]) (.bool (p x))) : Ret Tryz.prog .shared 139 [.sl (l.map eExcl), .clo f [.dref c0 0, .dref c1 0, .dref c2 0]] (I (idx l p)) := by
  refine Ret.of_pwp layOk mixed Go.Proofs.Tryz.func139 rfl (by decide) rfl rfl ?_
  repeat (refine stp rfl ?_ ?_;·repeat' constructor)
  refine pw_loop (Clear l p) (fun k => [(0, .sl (l.map eExcl)), (1, .clo f [.dref c0 0, .dref c1 0, .dref c2 0]), (7, I l.length), (8, I k)]) (fun _ => []) (fun k => l.length - k) 0 .zero ⟨rfl, rfl, ?_, rfl, trivial⟩ ?_
  · show I ((l.map eExcl).length) = _
    simp
  intro k s hk
  repeat (refine stp rfl ?_ ?_;·repeat' constructor)
  refine pw_cond rfl (fun h => ?_) (fun h => ?_)
  · have hlt : k < l.length := by simpa using h
    obtain ⟨x, hx⟩ := get_lt hlt
    clear h
    repeat (refine stp rfl ?_ ?_;·repeat' constructor)
    apply qst;exact rfl;exact rfl;exact q_idxm rfl rfl rfl rfl rfl (by omega) hx rfl
    repeat (refine stp rfl ?_ ?_;·repeat' constructor)
    apply qst;exact rfl;exact rfl;exact q_callP rfl (hf x (List.mem_of_getElem? hx)) rfl (by repeat' constructor) rfl rfl
    repeat (refine stp rfl ?_ ?_;·repeat' constructor)
    refine pw_cond rfl (fun h => ?_) (fun h => ?_)
    · repeat (refine stp rfl ?_ ?_;·repeat' constructor)
      exact end1i rfl rfl (by rw [hk.found hx h])
    · repeat (refine stp rfl ?_ ?_;·repeat' constructor)
      refine ⟨k + 1, hk.succ hx h, by omega, rfl, rfl, rfl, ?_, trivial⟩
      exact i64_next (by omega) (by omega)
  · repeat (refine stp rfl ?_ ?_;·repeat' constructor)
    exact end1i rfl rfl (by rw [hk.none (by simpa using h)])
theorem containsX_ret (l : List SExcl) (f : FuncId) (c0 c1 c2 : List PV) (p : SExcl → Bool) (hw : l.length ≤ 1000000) (hf : ∀ x, x ∈ l → Ret Tryz.prog .shared f (.agg (eExcl x) :: [.dref c0 0, .dref c1 0, .dref c2 0]) (.bool (p x))) : Ret Tryz.prog .shared 105 [.sl (l.map eExcl), .clo f [.dref c0 0, .dref c1 0, .dref c2 0]] (.bool (l.any p)) := by
  refine Ret.of_pwp layOk mixed Go.Proofs.Tryz.func105 rfl (by decide) rfl rfl ?_
  repeat (refine stp rfl ?_ ?_;·repeat' constructor)
  apply qst;exact rfl;exact rfl;exact q_callP rfl (indexX_ret l f c0 c1 c2 p hw hf) rfl (by repeat' constructor) rfl rfl
  repeat (refine stp rfl ?_ ?_;·repeat' constructor)
  exact end1b rfl rfl (by rw [← idx_nonneg])
def exclP (w : SWork) (a b : SItem) : Bool := !(decide (a.name = b.name) || decide (a.kind < 0) || decide (b.kind < 0)) && w.excls.any (exclB w a b)
theorem excludes_ret (w : SWork) (hw : Sane w) (a b : SItem) : Ret Tryz.prog .shared 63 [.agg (eWork w), .agg (eItem a), .agg (eItem b)] (.bool (exclP w a b)) := by
  have h1 := hw.excls
  refine Ret.of_pwp layOk mixed Go.Proofs.Tryz.func63 rfl (by decide) rfl rfl ?_
  repeat (refine stp rfl ?_ ?_;·repeat' constructor)
  refine ps_cut 100 [(3, .ptr 3 1 0 0), (4, .ptr 4 1 0 0), (5, .ptr 5 1 0 0), (21, .bool (decide (a.name = b.name) || decide (a.kind < 0) || decide (b.kind < 0)))] [(3, 1, ⟨28, 9, [eWork w], 2⟩), (4, 1, ⟨73, 7, [eItem a], 2⟩), (5, 1, ⟨73, 7, [eItem b], 2⟩)] ?_ ?_
  · repeat' (first|(refine stp rfl ?_ ?_;·repeat' constructor)|refine ps_split rfl rfl (fun h => ?_) (fun h => ?_)|refine pq_split rfl rfl (fun h => ?_) (fun h => ?_)|refine p3_split rfl rfl (fun h => ?_) (fun h => ?_))
    all_goals exact ⟨rfl, rfl, rfl, congrArg PV.bool (by simp_all <;> omega), rfl, rfl, rfl, trivial⟩
  intro s
  repeat (refine stp rfl ?_ ?_;·repeat' constructor)
  refine pw_cond rfl (fun h => ?_) (fun h => ?_)
  · have hk : (decide (a.name = b.name) || decide (a.kind < 0) || decide (b.kind < 0)) = true := h
    repeat (refine stp rfl ?_ ?_;·repeat' constructor)
    exact end1b rfl rfl (by rw [exclP, hk]; rfl)
  · have hk : (decide (a.name = b.name) || decide (a.kind < 0) || decide (b.kind < 0)) = false := h
    repeat (refine stp rfl ?_ ?_;·repeat' constructor)
    apply qst;exact rfl;exact rfl;exact q_callP rfl (containsX_ret w.excls 106 (eItem a) (eItem b) (eWork w) (exclB w a b) (by omega) (fun x _ => excl1_ret w hw a b x)) rfl (by repeat' constructor) rfl rfl
    repeat (refine stp rfl ?_ ?_;·repeat' constructor)
    exact end1b rfl rfl (by rw [exclP, hk]; rfl)
def apartP (w : SWork) (a b : SItem) : Bool := (a.crane && b.crane) || exclP w a b
theorem apart_ret (w : SWork) (hw : Sane w) {i k : Nat} {a b : SItem} (ha : w.items[i]? = some a) (hb : w.items[k]? = some b) : Ret Tryz.prog .shared 77 [.agg (eWork w), I i, I k] (.bool (apartP w a b)) := by
  refine Ret.of_pwp layOk mixed Go.Proofs.Tryz.func77 rfl (by decide) rfl rfl ?_
  ((repeat (first | refine ps_nil ?_ | refine pq_nil ?_ | refine x_norm ?_ | refine pw_seq ?_)); refine pw_region ?_)
  refine ps_run (o_box rfl rfl rfl (by repeat' constructor) rfl ?_)
  refine ps_v rfl trivial ?_
  refine ps_nil ?_
  refine x_norm ?_
  refine pw_ghost (Ghost.data (k := 3) (t := 3) rfl rfl rfl rfl) ?_
  refine pw_seq ?_
  refine pw_draw2 10 2 [9, 10, 11, 12, 13, 14, 15, 16, 17, 18, 7, 8] [5,6,7,8,9] (by decide +kernel) rfl ?_
  repeat (refine stp rfl ?_ ?_;·repeat' constructor)
  apply qst;exact rfl;exact rfl;exact q_idxm rfl rfl rfl rfl rfl (by omega) ha rfl
  repeat (refine stp rfl ?_ ?_;·repeat' constructor)
  apply qst;exact rfl;exact rfl;exact q_idxm rfl rfl rfl rfl rfl (by omega) hb rfl
  repeat (refine stp rfl ?_ ?_;·repeat' constructor)
  (first | refine ps_split rfl rfl (fun h => ?_) (fun h => ?_) | refine pq_split rfl rfl (fun h => ?_) (fun h => ?_) | refine p3_split rfl rfl (fun h => ?_) (fun h => ?_))
  · have h1 : a.crane = true := h
    clear h
    repeat (refine stp rfl ?_ ?_;·repeat' constructor)
    (first | refine ps_split rfl rfl (fun h => ?_) (fun h => ?_) | refine pq_split rfl rfl (fun h => ?_) (fun h => ?_) | refine p3_split rfl rfl (fun h => ?_) (fun h => ?_))
    · have h2 : b.crane = true := h
      repeat (refine stp rfl ?_ ?_;·repeat' constructor)
      exact end1b rfl rfl (by rw [apartP, h1, h2]; rfl)
    · have h2 : b.crane = false := h
      repeat (refine stp rfl ?_ ?_;·repeat' constructor)
      apply qst;exact rfl;exact rfl;exact q_callP rfl (excludes_ret w hw a b) rfl (by repeat' constructor) rfl rfl
      repeat (refine stp rfl ?_ ?_;·repeat' constructor)
      exact end1b rfl rfl (by rw [apartP, h1, h2]; rfl)
  · have h1 : a.crane = false := h
    clear h
    repeat (refine stp rfl ?_ ?_;·repeat' constructor)
    apply qst;exact rfl;exact rfl;exact q_callP rfl (excludes_ret w hw a b) rfl (by repeat' constructor) rfl rfl
    repeat (refine stp rfl ?_ ?_;·repeat' constructor)
    exact end1b rfl rfl (by rw [apartP, h1]; rfl)
def outB (x : SItem) (p : SPl) (o : SOut) : Bool := decide (p.day < o.to) && decide (o.frm < endP x p)
theorem stop1_ret (x : SItem) (p : SPl) (hp : PlOk x p) (o : SOut) : Ret Tryz.prog .shared 142 [.agg (eOut o), .dref (ePl p) 0, .dref (eItem x) 0] (.bool (outB x p o)) := by
  refine Ret.of_pwp layOk mixed Go.Proofs.Tryz.func142 rfl (by decide) rfl rfl ?_
  repeat (refine stp rfl ?_ ?_;·repeat' constructor)
  refine pw_draw 14 [5, 6, 7, 8, 9, 10, 11, 12, 13, 14, 15, 16, 17, 4] (by decide +kernel) ?_
  repeat (refine stp rfl ?_ ?_;·repeat' constructor)
  (first | refine ps_split rfl rfl (fun h => ?_) (fun h => ?_) | refine pq_split rfl rfl (fun h => ?_) (fun h => ?_) | refine p3_split rfl rfl (fun h => ?_) (fun h => ?_))
  · have hk := of_decide_eq_true h
    repeat (refine stp rfl ?_ ?_;·repeat' constructor)
    apply qst;exact rfl;exact rfl;exact q_callP rfl (end_ret x p hp) rfl (by repeat' constructor) rfl rfl
    repeat (refine stp rfl ?_ ?_;·repeat' constructor)
    exact end1b rfl rfl (by rw [outB, decide_eq_true hk]; rfl)
  · have hk := of_decide_eq_false h
    repeat (refine stp rfl ?_ ?_;·repeat' constructor)
    exact end1b rfl rfl (by rw [outB, decide_eq_false hk]; rfl)
theorem indexO_ret (l : List SOut) (f : FuncId) (c0 c1 : List PV) (p : SOut → Bool) (hw : l.length ≤ 1000000) (hf : ∀ x, x ∈ l → Ret Tryz.prog .shared f (.agg (eOut x) :: [.dref c0 0, .dref c1 0]) (.bool (p x))) : Ret Tryz.prog .shared 158 [.sl (l.map eOut), .clo f [.dref c0 0, .dref c1 0]] (I (idx l p)) := by
  refine Ret.of_pwp layOk mixed Go.Proofs.Tryz.func158 rfl (by decide) rfl rfl ?_
  repeat (refine stp rfl ?_ ?_;·repeat' constructor)
  refine pw_loop (Clear l p) (fun k => [(0, .sl (l.map eOut)), (1, .clo f [.dref c0 0, .dref c1 0]), (7, I l.length), (8, I k)]) (fun _ => []) (fun k => l.length - k) 0 .zero ⟨rfl, rfl, ?_, rfl, trivial⟩ ?_
  · show I ((l.map eOut).length) = _
    simp
  intro k s hk
  repeat (refine stp rfl ?_ ?_;·repeat' constructor)
  refine pw_cond rfl (fun h => ?_) (fun h => ?_)
  · have hlt : k < l.length := by simpa using h
    obtain ⟨x, hx⟩ := get_lt hlt
    clear h
    repeat (refine stp rfl ?_ ?_;·repeat' constructor)
    apply qst;exact rfl;exact rfl;exact q_idxm rfl rfl rfl rfl rfl (by omega) hx rfl
    repeat (refine stp rfl ?_ ?_;·repeat' constructor)
    apply qst;exact rfl;exact rfl;exact q_callP rfl (hf x (List.mem_of_getElem? hx)) rfl (by repeat' constructor) rfl rfl
    repeat (refine stp rfl ?_ ?_;·repeat' constructor)
    refine pw_cond rfl (fun h => ?_) (fun h => ?_)
    · repeat (refine stp rfl ?_ ?_;·repeat' constructor)
      exact end1i rfl rfl (by rw [hk.found hx h])
    · repeat (refine stp rfl ?_ ?_;·repeat' constructor)
      refine ⟨k + 1, hk.succ hx h, by omega, rfl, rfl, rfl, ?_, trivial⟩
      exact i64_next (by omega) (by omega)
  · repeat (refine stp rfl ?_ ?_;·repeat' constructor)
    exact end1i rfl rfl (by rw [hk.none (by simpa using h)])
theorem containsO_ret (l : List SOut) (f : FuncId) (c0 c1 : List PV) (p : SOut → Bool) (hw : l.length ≤ 1000000) (hf : ∀ x, x ∈ l → Ret Tryz.prog .shared f (.agg (eOut x) :: [.dref c0 0, .dref c1 0]) (.bool (p x))) : Ret Tryz.prog .shared 141 [.sl (l.map eOut), .clo f [.dref c0 0, .dref c1 0]] (.bool (l.any p)) := by
  refine Ret.of_pwp layOk mixed Go.Proofs.Tryz.func141 rfl (by decide) rfl rfl ?_
  repeat (refine stp rfl ?_ ?_;·repeat' constructor)
  apply qst;exact rfl;exact rfl;exact q_callP rfl (indexO_ret l f c0 c1 p hw hf) rfl (by repeat' constructor) rfl rfl
  repeat (refine stp rfl ?_ ?_;·repeat' constructor)
  exact end1b rfl rfl (by rw [← idx_nonneg])
def stopP (w : SWork) (x : SItem) (p : SPl) : Bool := x.crane && w.outs.any (outB x p)
theorem stopped_ret (w : SWork) (hw : Sane w) (x : SItem) (p : SPl) (hp : PlOk x p) : Ret Tryz.prog .shared 114 [.agg (eWork w), .agg (eItem x), .agg (ePl p)] (.bool (stopP w x p)) := by
  have h1 := hw.outs
  refine Ret.of_pwp layOk mixed Go.Proofs.Tryz.func114 rfl (by decide) rfl rfl ?_
  repeat (refine stp rfl ?_ ?_;·repeat' constructor)
  (first | refine ps_split rfl rfl (fun h => ?_) (fun h => ?_) | refine pq_split rfl rfl (fun h => ?_) (fun h => ?_) | refine p3_split rfl rfl (fun h => ?_) (fun h => ?_))
  · have hk : x.crane = true := h
    repeat (refine stp rfl ?_ ?_;·repeat' constructor)
    apply qst;exact rfl;exact rfl;exact q_callP rfl (containsO_ret w.outs 142 (ePl p) (eItem x) (outB x p) (by omega) (fun o _ => stop1_ret x p hp o)) rfl (by repeat' constructor) rfl rfl
    repeat (refine stp rfl ?_ ?_;·repeat' constructor)
    exact end1b rfl rfl (by rw [stopP, hk]; rfl)
  · have hk : x.crane = false := h
    repeat (refine stp rfl ?_ ?_;·repeat' constructor)
    exact end1b rfl rfl (by rw [stopP, hk]; rfl)
theorem nearP_comm (w : SWork) (a b : Str) : nearP w a b = nearP w b a := by
  have h : (fun s => nearS a b s) = nearS b a := by funext s; unfold nearS; rw [Bool.or_comm]
  unfold nearP
  rw [show w.spaces.any (nearS a b) = w.spaces.any (nearS b a) from congrArg _ h]
  by_cases hab : a = b
  · rw [if_pos hab, if_pos hab.symm]
  · rw [if_neg hab, if_neg (Ne.symm hab)]
theorem exclP_comm (w : SWork) (x y : SItem) : exclP w x y = exclP w y x := by
  have h : exclB w x y = exclB w y x := by funext e; unfold exclB; rw [nearP_comm]; congr 1; unfold exclK; rw [Bool.or_comm]
  unfold exclP
  rw [h, show decide (x.name = y.name) = decide (y.name = x.name) from by rw [decide_eq_decide]; exact eq_comm]
  cases decide (y.name = x.name) <;> cases decide (x.kind < 0) <;> cases decide (y.kind < 0) <;> rfl
end Go.Pv


set_option maxHeartbeats 2000000
namespace Go.Pv
attribute [local irreducible] PWP POps PQuiet PSem XThen XBlock RetPost InlPost
open Go.Proofs
def rateOf (w : SWork) (x : SItem) : Int := match w.trades[(idx w.trades (·.name == x.trade)).toNat]? with | some t => t.rate | none => 0
def wageP (w : SWork) (x : SItem) (k : Int) : Int := (modeAt x k).days * (modeAt x k).crew * rateOf w x
theorem wage_bound {w : SWork} (hw : Well w) {x : SItem} {p : SPl} (hp : PlOk x p) : (0 ≤ (modeAt x p.mode).days * (modeAt x p.mode).crew ∧ (modeAt x p.mode).days * (modeAt x p.mode).crew ≤ 60000) ∧ 0 ≤ wageP w x p.mode ∧ wageP w x p.mode ≤ 60000000000 := by
  have h1 := mul_bound (A := 60) (B := 1000) (by have := hp.days; omega) hp.days.2 hp.crew.1 hp.crew.2
  have hr : 0 ≤ rateOf w x ∧ rateOf w x ≤ 1000000 := by
    unfold rateOf
    split
    · rename_i t ht
      exact (hw.trade t (List.mem_of_getElem? ht)).2
    · omega
  exact ⟨h1, mul_bound (A := 60000) (B := 1000000) h1.1 h1.2 hr.1 hr.2⟩
theorem wages_ret (w : SWork) (hw : Sane w) (hv : Well w) {i : Nat} {x : SItem} (hx : w.items[i]? = some x) (p : SPl) (hp : PlOk x p) : Ret Tryz.prog .shared 79 [.agg (eWork w), I i, I p.mode] (I (wageP w x p.mode)) := by
  have hxm := List.mem_of_getElem? hx
  have ht0 := (hv.item x hxm).trade
  have ht1 := hw.trades
  have hm := hp.mode
  have hlo := hp.lo
  obtain ⟨b1, b2⟩ := wage_bound hv hp
  obtain ⟨t, ht, _⟩ := idx_lt ht0
  have hrate : rateOf w x = t.rate := by rw [rateOf, ht]
  obtain ⟨j, hj⟩ : ∃ j : Nat, idx w.trades (·.name == x.trade) = j := ⟨_, (Int.toNat_of_nonneg ht0).symm⟩
  rw [hj, Int.toNat_natCast] at ht
  refine Ret.of_pwp layOk mixed Go.Proofs.Tryz.func79 rfl (by decide) rfl rfl ?_
  repeat (refine stp rfl ?_ ?_;·repeat' constructor)
  apply qst;exact rfl;exact rfl;exact q_idxm rfl rfl rfl rfl rfl (by omega) hx rfl
  repeat (refine stp rfl ?_ ?_;·repeat' constructor)
  refine pw_draw2 9 1 [14, 15, 16, 17, 18, 19, 20, 21, 22, 8] [] (by decide +kernel) rfl ?_
  repeat (refine stp rfl ?_ ?_;·repeat' constructor)
  apply qst;exact rfl;exact rfl;exact q_call rfl (tradeNames_ret w (by omega)) rfl (by repeat' constructor) rfl
  repeat (refine stp rfl ?_ ?_;·repeat' constructor)
  apply qst;exact rfl;exact rfl;exact q_callP rfl (index_ret (w.trades.map (·.name)) x.trade (by simp; omega)) rfl (by repeat' constructor) rfl rfl
  have him : idx (w.trades.map (·.name)) (· == x.trade) = j := by rw [idx_map]; exact hj
  rw [him]
  repeat (refine stp rfl ?_ ?_;·repeat' constructor)
  apply qst;exact rfl;exact rfl;exact q_idxm (n := (j : Int)) rfl rfl rfl rfl rfl (by omega) ht rfl
  repeat (refine stp rfl ?_ ?_;·repeat' constructor)
  refine pw_draw 17 [23, 24, 25, 26, 27, 28, 29, 30, 31, 32, 33, 34, 35, 36, 37, 38, 6] (by decide +kernel) ?_
  repeat (refine stp rfl ?_ ?_;·repeat' constructor)
  apply qst;exact rfl;exact rfl;exact q_idxm rfl rfl rfl rfl rfl (by omega) hm rfl
  repeat (refine stp rfl ?_ ?_;·repeat' constructor)
  apply qst;exact rfl;exact rfl;exact q_idxm rfl rfl rfl rfl rfl (by omega) hm rfl
  repeat (refine stp rfl ?_ ?_;·repeat' constructor)
  refine end1i rfl rfl ?_
  show PV.int .i64 (IntKind.i64.wrap (IntKind.i64.wrap ((modeAt x p.mode).days * (modeAt x p.mode).crew) * t.rate)) = _
  rw [wrap_i64 (n := (modeAt x p.mode).days * _) (by omega) (by omega), ← hrate]
  show PV.int .i64 (IntKind.i64.wrap (wageP w x p.mode)) = _
  rw [wrap_i64 (by omega) (by omega)]
def costF (w : SWork) (n : Int) (q : SItem × SPl) : Int := if q.2.on then n + wageP w q.1 q.2.mode else n
def costP (w : SWork) (l : List SPl) : Int := (prs w l).foldl (costF w) (rentP w (durP w l))
theorem costF_bound {w : SWork} (hv : Well w) {l : List SPl} (h : Plan w l) (k : Nat) (hk : k ≤ l.length) : 0 ≤ ((prs w l).take k).foldl (costF w) (rentP w (durP w l)) ∧ ((prs w l).take k).foldl (costF w) (rentP w (durP w l)) ≤ 2000000000000 + 60000000000 * k := by
  induction k with
  | zero =>
    have hd := durP_bound h
    obtain ⟨h1, h2, h3⟩ := rent_bound hv (n := durP w l) (by omega)
    simp only [List.take_zero, List.foldl_nil, rentP]
    omega
  | succ k ih =>
    have ih := ih (by omega)
    obtain ⟨p, hp⟩ := get_lt (show k < l.length by omega)
    obtain ⟨x, hx⟩ := get_lt (show k < w.items.length by have := h.len; omega)
    rw [take_snoc (prs_at hx hp), List.foldl_append]
    generalize List.foldl (costF w) _ ((prs w l).take k) = n at ih ⊢
    show 0 ≤ costF w n (x, p) ∧ costF w n (x, p) ≤ _
    unfold costF
    cases hon : p.on with
    | false => simp; omega
    | true =>
      have := (wage_bound hv (h.ok k x p hx hp hon)).2
      simp; omega
theorem cost_ret (w : SWork) (hw : Sane w) (hv : Well w) (l : List SPl) (h : Plan w l) : Ret Tryz.prog .shared 45 [.agg (eWork w), .sl (l.map ePl)] (I (costP w l)) := by
  have hl := h.len
  have hn := hv.n40
  have hml : (l.map ePl).length = l.length := by simp
  have hd := durP_bound h
  refine Ret.of_pwp layOk mixed Go.Proofs.Tryz.func45 rfl (by decide) rfl rfl ?_
  repeat (refine stp rfl ?_ ?_;·repeat' constructor)
  refine pw_draw 6 [8, 9, 10, 11, 12, 5] (by decide +kernel) ?_
  repeat (refine stp rfl ?_ ?_;·repeat' constructor)
  apply qst;exact rfl;exact rfl;exact q_callP rfl (duration_ret w l h (by omega)) rfl (by repeat' constructor) rfl rfl
  repeat (refine stp rfl ?_ ?_;·repeat' constructor)
  apply qst;exact rfl;exact rfl;exact q_callP rfl (rent_ret w hv (durP w l) (by omega)) rfl (by repeat' constructor) rfl rfl
  repeat (refine stp rfl ?_ ?_;·repeat' constructor)
  refine pw_loop (fun k => k ≤ l.length) (fun k => [(1, .sl (l.map ePl)), (2, .ptr 2 1 0 0), (5, I (((prs w l).take k).foldl (costF w) (rentP w (durP w l)))), (13, .sl (l.map ePl)), (14, I l.length), (15, I k)]) (fun _ => [(2, 1, ⟨28, 9, [eWork w], 2⟩)]) (fun k => l.length - k) 0 (Nat.zero_le _) ⟨rfl, rfl, rfl, rfl, ?_, rfl, rfl, trivial⟩ ?_
  · show I ((l.map ePl).length) = _
    rw [hml]
  intro k s hk
  repeat (refine stp rfl ?_ ?_;·repeat' constructor)
  refine pw_cond rfl (fun h => ?_) (fun h => ?_)
  · have hlt : k < l.length := by simpa using h
    obtain ⟨p, hp⟩ := get_lt hlt
    obtain ⟨x, hx⟩ := get_lt (show k < w.items.length by omega)
    clear h
    have hb := costF_bound hv ‹Plan w l› (k + 1) hlt
    have hs := take_snoc (prs_at hx hp)
    have hok := ‹Plan w l›.ok k x p hx hp
    rw [hs, List.foldl_append] at hb
    repeat (refine stp rfl ?_ ?_;·repeat' constructor)
    apply qst;exact rfl;exact rfl;exact q_idxm rfl rfl rfl rfl rfl (by omega) hp rfl
    repeat (refine stp rfl ?_ ?_;·repeat' constructor)
    refine pw_cond rfl (fun h => ?_) (fun h => ?_)
    · have hon : p.on = true := h
      have hok := hok hon
      clear h
      repeat (refine stp rfl ?_ ?_;·repeat' constructor)
      apply qst;exact rfl;exact rfl;exact q_callP rfl (wages_ret w hw hv hx p hok) rfl (by repeat' constructor) rfl rfl
      repeat (refine stp rfl ?_ ?_;·repeat' constructor)
      refine ⟨k + 1, hlt, by omega, rfl, rfl, ?_, rfl, rfl, ?_, rfl, trivial⟩
      · rw [hs, List.foldl_append]
        generalize List.foldl (costF w) _ ((prs w l).take k) = n at hb ⊢
        replace hb : 0 ≤ costF w n (x, p) ∧ costF w n (x, p) ≤ _ := hb
        show PV.int .i64 (IntKind.i64.wrap (n + wageP w x p.mode)) = I (costF w n (x, p))
        have he : costF w n (x, p) = n + wageP w x p.mode := by simp [costF, hon]
        rw [he] at hb ⊢
        rw [wrap_i64 (by omega) (by omega)]
      · exact i64_next (by omega) (by omega)
    · have hon : p.on = false := h
      clear h
      repeat (refine stp rfl ?_ ?_;·repeat' constructor)
      refine ⟨k + 1, hlt, by omega, rfl, rfl, ?_, rfl, rfl, ?_, rfl, trivial⟩
      · rw [hs, List.foldl_append]
        show _ = I (costF w _ (x, p))
        simp [costF, hon]
        rfl
      · exact i64_next (by omega) (by omega)
  · have hge : k = l.length := by have := of_decide_eq_false h; omega
    subst hge
    repeat (refine stp rfl ?_ ?_;·repeat' constructor)
    refine end1i rfl rfl ?_
    rw [List.take_of_length_le]
    · rfl
    · simp [prs]; omega
def meetP (x : SItem) (p : SPl) (y : SItem) (q : SPl) : Bool := (p.on && q.on) && (decide (p.day < endP y q) && decide (q.day < endP x p))
theorem meet_ret (w : SWork) {l : List SPl} (h : Plan w l) {i k : Nat} {x y : SItem} {p q : SPl} (hx : w.items[i]? = some x) (hy : w.items[k]? = some y) (hp : l[i]? = some p) (hq : l[k]? = some q) : Ret Tryz.prog .shared 160 [.agg (eWork w), .sl (l.map ePl), I i, I k] (.bool (meetP x p y q)) := by
  have o1 := h.ok i x p hx hp
  have o2 := h.ok k y q hy hq
  refine Ret.of_pwp layOk mixed Go.Proofs.Tryz.func160 rfl (by decide) rfl rfl ?_
  repeat (refine stp rfl ?_ ?_;·repeat' constructor)
  refine pw_draw 49 [9, 10, 11, 12, 13, 14, 15, 16, 17, 18, 19, 20, 21, 22, 23, 24, 25, 26, 27, 28, 29, 30, 31, 32, 33, 34, 35, 36, 37, 38, 39, 40, 41, 42, 43, 44, 45, 46, 47, 48, 49, 50, 51, 52, 53, 54, 55, 56, 8] (by decide +kernel) ?_
  repeat (refine stp rfl ?_ ?_;·repeat' constructor)
  apply qst;exact rfl;exact rfl;exact q_idxm rfl rfl rfl rfl rfl (by omega) hp rfl
  repeat (refine stp rfl ?_ ?_;·repeat' constructor)
  (first | refine ps_split rfl rfl (fun h => ?_) (fun h => ?_) | refine pq_split rfl rfl (fun h => ?_) (fun h => ?_) | refine p3_split rfl rfl (fun h => ?_) (fun h => ?_))
  · have h1 : p.on = true := h
    clear h
    repeat (refine stp rfl ?_ ?_;·repeat' constructor)
    apply qst;exact rfl;exact rfl;exact q_idxm rfl rfl rfl rfl rfl (by omega) hq rfl
    repeat (refine stp rfl ?_ ?_;·repeat' constructor)
    (first | refine ps_split rfl rfl (fun h => ?_) (fun h => ?_) | refine pq_split rfl rfl (fun h => ?_) (fun h => ?_) | refine p3_split rfl rfl (fun h => ?_) (fun h => ?_))
    · have h2 : q.on = true := h
      clear h
      repeat (refine stp rfl ?_ ?_;·repeat' constructor)
      apply qst;exact rfl;exact rfl;exact q_idxm rfl rfl rfl rfl rfl (by omega) hp rfl
      repeat (refine stp rfl ?_ ?_;·repeat' constructor)
      apply qst;exact rfl;exact rfl;exact q_idxm rfl rfl rfl rfl rfl (by omega) hq rfl
      repeat (refine stp rfl ?_ ?_;·repeat' constructor)
      apply qst;exact rfl;exact rfl;exact q_idxm rfl rfl rfl rfl rfl (by omega) hy rfl
      repeat (refine stp rfl ?_ ?_;·repeat' constructor)
      apply qst;exact rfl;exact rfl;exact q_callP rfl (end_ret y q (o2 h2)) rfl (by repeat' constructor) rfl rfl
      repeat (refine stp rfl ?_ ?_;·repeat' constructor)
      (first | refine ps_split rfl rfl (fun h => ?_) (fun h => ?_) | refine pq_split rfl rfl (fun h => ?_) (fun h => ?_) | refine p3_split rfl rfl (fun h => ?_) (fun h => ?_))
      · have h3 := h
        clear h
        repeat (refine stp rfl ?_ ?_;·repeat' constructor)
        apply qst;exact rfl;exact rfl;exact q_idxm rfl rfl rfl rfl rfl (by omega) hq rfl
        repeat (refine stp rfl ?_ ?_;·repeat' constructor)
        apply qst;exact rfl;exact rfl;exact q_idxm rfl rfl rfl rfl rfl (by omega) hp rfl
        repeat (refine stp rfl ?_ ?_;·repeat' constructor)
        apply qst;exact rfl;exact rfl;exact q_idxm rfl rfl rfl rfl rfl (by omega) hx rfl
        repeat (refine stp rfl ?_ ?_;·repeat' constructor)
        apply qst;exact rfl;exact rfl;exact q_callP rfl (end_ret x p (o1 h1)) rfl (by repeat' constructor) rfl rfl
        repeat (refine stp rfl ?_ ?_;·repeat' constructor)
        exact end1b rfl rfl (by rw [meetP, h1, h2, h3]; rfl)
      · have h3 := h
        repeat (refine stp rfl ?_ ?_;·repeat' constructor)
        exact end1b rfl rfl (by rw [meetP, h1, h2, h3]; rfl)
    · have h2 : q.on = false := h
      repeat (refine stp rfl ?_ ?_;·repeat' constructor)
      exact end1b rfl rfl (by rw [meetP, h1, h2]; rfl)
  · have h1 : p.on = false := h
    repeat (refine stp rfl ?_ ?_;·repeat' constructor)
    exact end1b rfl rfl (by rw [meetP, h1]; rfl)
end Go.Pv

