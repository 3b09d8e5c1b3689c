/- Texts of one hand, gathered: LaA, LaB, LaC, PvX, LdA, LaD, LaE, LaF, LaG, LaH, LaI, LaJ, LaK, LaL, LaM, LaN, LaO, LaP, LaQ, LaR, LaS. -/
import Derived.Test.YtakfiahnhjnndaaGreatDoorCu3
import Derived.ProofKit
import Derived.OpenShut
import Derived.Carry
import Derived.LaidEql
set_option linter.unusedSectionVars false
set_option linter.unusedSimpArgs false
set_option linter.unusedVariables false
set_option linter.unnecessarySimpa false
set_option maxHeartbeats 2000000
namespace Go.Pv
attribute [local irreducible] PWP POps PQuiet PSem XThen XBlock RetPost InlPost
open Go.Proofs
abbrev Str := List UInt8
abbrev I (n : Int) : PV := .int .i64 n
theorem endc {L : Lay} {s : St} {fn : Func} {r v d : PV} {t : Nat} {T : TypeId} {A Cd : Prop} {fl : Fl} (h : fn.results.toList = [.cell t T]) (hq : qv L s (.load T (.tmp t)) = some (v, A)) (ha : A) (hres : res s 5 v = some (d, Cd, fl)) (hc : Cd) (hd : d = r) : RetPost L fn .shared r .ret s := by
  unfold RetPost
  refine ⟨[v], A ∧ True, d, Cd, fl, ?_, ⟨ha, trivial⟩, hres, hc, trivial, hd⟩
  rw [h]
  show (match rv L s (.cell t T) with | some (v, A) => (match rvs L s [] with | some (vs, B) => some (v :: vs, A ∧ B) | none => none) | none => none) = _
  rw [show rv L s (.cell t T) = some (v, A) from hq]; rfl
def idx {α : Type} (l : List α) (p : α → Bool) : Int := match l.findIdx? p with | some i => i | none => -1
theorem idx_found {α : Type} {l : List α} {p : α → Bool} {i : Nat} {a : α} (h : l[i]? = some a) (hp : p a = true) (hn : ∀ j b, j < i → l[j]? = some b → p b = false) : idx l p = i := by
  have : l.findIdx? p = some i := by
    rw [List.findIdx?_eq_some_iff_getElem]
    obtain ⟨hi, he⟩ := List.getElem?_eq_some_iff.1 h
    refine ⟨hi, by rw [he]; exact hp, fun j hj => ?_⟩
    have := hn j l[j] hj (List.getElem?_eq_getElem _)
    simp [this]
  simp [idx, this]
theorem idx_none {α : Type} {l : List α} {p : α → Bool} (hn : ∀ (j : Nat) b, l[j]? = some b → p b = false) : idx l p = -1 := by
  have : l.findIdx? p = none := by
    rw [List.findIdx?_eq_none_iff]
    intro x hx
    obtain ⟨j, hj, rfl⟩ := List.getElem_of_mem hx
    exact hn j _ (List.getElem?_eq_getElem hj)
  simp [idx, this]
def Clear {α : Type} (l : List α) (p : α → Bool) (k : Nat) : Prop := k ≤ l.length ∧ ∀ j b, j < k → l[j]? = some b → p b = false
theorem Clear.zero {α : Type} {l : List α} {p : α → Bool} : Clear l p 0 := ⟨Nat.zero_le _, fun j b h => by omega⟩
theorem Clear.succ {α : Type} {l : List α} {p : α → Bool} {k : Nat} {x : α} (h : Clear l p k) (hx : l[k]? = some x) (hp : p x = false) : Clear l p (k + 1) := by
  have := (List.getElem?_eq_some_iff.1 hx).1
  refine ⟨this, fun j b hj hb => ?_⟩
  rcases Nat.lt_or_ge j k with hlt | hge
  · exact h.2 j b hlt hb
  · have : j = k := by omega
    subst this; rw [hx] at hb; cases hb; exact hp
theorem Clear.found {α : Type} {l : List α} {p : α → Bool} {k : Nat} {x : α} (h : Clear l p k) (hx : l[k]? = some x) (hp : p x = true) : idx l p = k := idx_found hx hp h.2
theorem Clear.all {α : Type} {l : List α} {p : α → Bool} {k : Nat} (h : Clear l p k) (hk : ¬ k < l.length) : ∀ (j : Nat) b, l[j]? = some b → p b = false :=
  fun j b hb => h.2 j b (by have := (List.getElem?_eq_some_iff.1 hb).1; have := h.1; omega) hb
theorem Clear.none {α : Type} {l : List α} {p : α → Bool} {k : Nat} (h : Clear l p k) (hk : ¬ k < l.length) : idx l p = -1 := idx_none (h.all hk)
theorem Clear.any {α : Type} {l : List α} {p : α → Bool} {k : Nat} (h : Clear l p k) (hk : ¬ k < l.length) : l.any p = false := by
  rw [List.any_eq_false]
  intro x hx
  obtain ⟨j, hj, rfl⟩ := List.getElem_of_mem hx
  simp [h.all hk j _ (List.getElem?_eq_getElem hj)]
theorem any_of {α : Type} {l : List α} {p : α → Bool} {k : Nat} {x : α} (hx : l[k]? = some x) (hp : p x = true) : l.any p = true :=
  List.any_eq_true.2 ⟨x, List.mem_of_getElem? hx, hp⟩
theorem idx_nonneg {α : Type} (l : List α) (p : α → Bool) : decide (0 ≤ idx l p) = l.any p := by
  unfold idx
  cases h : l.findIdx? p with
  | none =>
    rw [List.findIdx?_eq_none_iff] at h
    have : l.any p = false := by rw [List.any_eq_false]; intro x hx; simp [h x hx]
    simp [this]
  | some i =>
    rw [List.findIdx?_eq_some_iff_getElem] at h
    obtain ⟨hi, h1, _⟩ := h
    have : l.any p = true := List.any_eq_true.2 ⟨l[i], by simp, h1⟩
    simp [this]
theorem idx_lt {α : Type} {l : List α} {p : α → Bool} (h : 0 ≤ idx l p) : ∃ x, l[(idx l p).toNat]? = some x ∧ p x = true := by
  unfold idx at *
  cases hf : l.findIdx? p with
  | none => rw [hf] at h; simp at h
  | some i =>
    rw [List.findIdx?_eq_some_iff_getElem] at hf
    obtain ⟨hi, h1, _⟩ := hf
    exact ⟨l[i], by simp [hi], h1⟩
def fstE {α : Type} : List α → (Nat → α → Int) → Int
  | [], _ => 0
  | a :: l, f => if f 0 a = 0 then fstE l (fun i => f (i + 1)) else f 0 a
theorem fstE_found {α : Type} : ∀ {l : List α} {f : Nat → α → Int} {i : Nat} {a : α}, l[i]? = some a → f i a ≠ 0 → (∀ j b, j < i → l[j]? = some b → f j b = 0) → fstE l f = f i a
  | [], f, i, a, h, _, _ => by simp at h
  | b :: l, f, 0, a, h, he, _ => by
    simp at h; subst h
    simp [fstE, he]
  | b :: l, f, i + 1, a, h, he, hn => by
    have h0 := hn 0 b (by omega) rfl
    rw [fstE, if_pos h0]
    exact fstE_found (f := fun i => f (i + 1)) (by simpa using h) he fun j c hj hc => hn (j + 1) c (by omega) (by simpa using hc)
theorem fstE_none {α : Type} : ∀ {l : List α} {f : Nat → α → Int}, (∀ (j : Nat) b, l[j]? = some b → f j b = 0) → fstE l f = 0
  | [], f, _ => rfl
  | b :: l, f, hn => by
    rw [fstE, if_pos (hn 0 b rfl)]
    exact fstE_none fun j c hc => hn (j + 1) c (by simpa using hc)
theorem fstE_zero {α : Type} : ∀ {l : List α} {f : Nat → α → Int}, fstE l f = 0 → ∀ (j : Nat) b, l[j]? = some b → f j b = 0
  | [], f, _, j, b, h => by simp at h
  | a :: l, f, h, j, b, hb => by
    rw [fstE] at h
    split at h
    · rename_i hz
      cases j with
      | zero => simp at hb; subst hb; exact hz
      | succ j => exact fstE_zero h j b (by simpa using hb)
    · contradiction
def ClearE {α : Type} (l : List α) (f : Nat → α → Int) (k : Nat) : Prop := k ≤ l.length ∧ ∀ j b, j < k → l[j]? = some b → f j b = 0
theorem ClearE.zero' {α : Type} {l : List α} {p : Nat → α → Int} : ClearE l p 0 := ⟨Nat.zero_le _, fun j b h => by omega⟩
theorem ClearE.succ {α : Type} {l : List α} {p : Nat → α → Int} {k : Nat} {x : α} (h : ClearE l p k) (hx : l[k]? = some x) (hp : p k x = 0) : ClearE l p (k + 1) := by
  have := (List.getElem?_eq_some_iff.1 hx).1
  refine ⟨this, fun j b hj hb => ?_⟩
  rcases Nat.lt_or_ge j k with hlt | hge
  · exact h.2 j b hlt hb
  · have : j = k := by omega
    subst this; rw [hx] at hb; cases hb; exact hp
theorem ClearE.found {α : Type} {l : List α} {p : Nat → α → Int} {k : Nat} {x : α} {e : Int} (h : ClearE l p k) (hx : l[k]? = some x) (hp : p k x = e) (he : e ≠ 0) : fstE l p = e := by
  subst hp; exact fstE_found hx he h.2
theorem ClearE.none {α : Type} {l : List α} {p : Nat → α → Int} {k : Nat} (h : ClearE l p k) (hk : ¬ k < l.length) : fstE l p = 0 :=
  fstE_none fun j b hb => h.2 j b (by have := (List.getElem?_eq_some_iff.1 hb).1; have := h.1; omega) hb
theorem take_snoc {α : Type} {l : List α} {k : Nat} {x : α} (hx : l[k]? = some x) : l.take (k + 1) = l.take k ++ [x] := by
  rw [List.take_add_one, hx]; rfl
def letter (c : UInt8) : Bool := (decide (97 ≤ (c.toNat : Int)) && decide ((c.toNat : Int) ≤ 122)) || (decide (65 ≤ (c.toNat : Int)) && decide ((c.toNat : Int) ≤ 90))
def badc (i : Nat) (c : UInt8) : Bool := !letter c && (decide ((i : Int) = 0) || (!decide ((c.toNat : Int) = 45) && (decide ((c.toNat : Int) < 48) || decide (57 < (c.toNat : Int)))))
def badE (i : Nat) (c : UInt8) : Int := if badc i c then 1 else 0
def isName (s : Str) : Bool := decide (1 ≤ s.length) && decide (s.length ≤ 12) && decide (fstE s badE = 0)
theorem als_snoc {α : Type} (e : α → List PV) (k g : Nat) (l : List α) (a : α) : PV.als k (g + l.length + 1) 0 (l.map e ++ [e a]).length = PV.als k (g + (l ++ [a]).length) 0 ((l ++ [a]).map e).length := by simp [Nat.add_assoc]
theorem cont_snoc {α : Type} (e : α → List PV) (g T sz kd : Nat) (l : List α) (a : α) : (g + l.length + 1, some (Cont.mk T sz (l.map e ++ [e a]) kd)) = (g + (l ++ [a]).length, some (Cont.mk T sz ((l ++ [a]).map e) kd)) := by simp [Nat.add_assoc]
structure SPost where
  op : Int
  day : Int
  order : Str
  item : Str
  ship : Str
  who : Str
  amount : Int
  ref : Int
  role : Int
  deriving DecidableEq, Inhabited
def eS (s : Str) : List PV := [.str s]
def eI (n : Int) : List PV := [I n]
def ePost (p : SPost) : List PV := [I p.op, I p.day, .str p.order, .str p.item, .str p.ship, .str p.who, I p.amount, I p.ref, I p.role]
def ordNo (l : List SPost) (nm : Str) : Int := idx l (fun p => decide (p.op = 0) && decide (p.order = nm)) + 1
def itmNo (l : List SPost) (o nm : Str) : Int := idx l (fun p => decide (p.op = 1) && decide (p.order = o) && decide (p.item = nm)) + 1
def supNo (l : List SPost) (p : SPost) : Int :=
  if p.op = 1 ∨ p.op = 6 ∨ p.op = 7 then ordNo l p.order else if p.op = 2 ∨ p.op = 3 then itmNo l p.order p.item else if p.op = 4 ∨ p.op = 5 then p.ref else 0
def entL (l : List SPost) (n : Int) : SPost := l.getD (n - 1).toNat default
def goneB (l : List SPost) (n : Int) : Bool := l.any fun p => decide (p.op = 8) && decide (p.ref = n)
def liveF (l : List SPost) : Nat → Int → Bool
  | 0, _ => true
  | f + 1, n => if n ≤ 0 then true else !goneB l n && liveF l f (supNo l (entL l n))
def liveB (l : List SPost) (n : Int) : Bool := liveF l n.toNat n
structure Wf (l : List SPost) : Prop where
  sup : ∀ (i : Nat) p, l[i]? = some p → 0 ≤ supNo l p ∧ supNo l p ≤ i
  len : l.length ≤ 400
end Go.Pv


set_option maxHeartbeats 2000000
namespace Go.Pv
attribute [local irreducible] PWP POps PQuiet PSem XThen XBlock RetPost InlPost
open Go.Proofs
def eB (c : UInt8) : List PV := [.int .u8 c.toNat]
def inside (n lo hi : Int) : Bool := decide (lo ≤ n) && decide (n ≤ hi)
theorem between_ret (n lo hi : Int) : Ret Tryz.prog .shared 67 [I n, I lo, I hi] (.bool (inside n lo hi)) := by
  refine Ret.of_pwp layOk mixed Go.Proofs.Tryz.func67 rfl (by decide) rfl rfl ?_
  repeat (refine stp rfl ?_ ?_;·repeat' constructor)
  (first | refine ps_split rfl rfl (fun h => ?_) (fun h => ?_) | refine pq_split rfl rfl (fun h => ?_) (fun h => ?_) | refine p3_split rfl rfl (fun h => ?_) (fun h => ?_))
  · repeat (refine stp rfl ?_ ?_;·repeat' constructor)
    exact end1b rfl rfl (by simp [inside, of_decide_eq_true h])
  · repeat (refine stp rfl ?_ ?_;·repeat' constructor)
    exact end1b rfl rfl (by simp [inside, h])
theorem within_ret (n lo hi : Int) : Ret Tryz.prog .shared 69 [I n, I lo, I hi] (.bool (inside n lo hi)) := by
  refine Ret.of_pwp layOk mixed Go.Proofs.Tryz.func69 rfl (by decide) rfl rfl ?_
  repeat (refine stp rfl ?_ ?_;·repeat' constructor)
  (first | refine ps_split rfl rfl (fun h => ?_) (fun h => ?_) | refine pq_split rfl rfl (fun h => ?_) (fun h => ?_) | refine p3_split rfl rfl (fun h => ?_) (fun h => ?_))
  · repeat (refine stp rfl ?_ ?_;·repeat' constructor)
    exact end1b rfl rfl (by simp [inside, of_decide_eq_true h])
  · repeat (refine stp rfl ?_ ?_;·repeat' constructor)
    exact end1b rfl rfl (by simp [inside, h])
theorem index_ret (l : List Int) (n : Int) (hl : l.length ≤ 1000000) : Ret Tryz.prog .shared 175 [.sl (l.map eI), I n] (I (idx l (· == n))) := by
  have hll : ((l.map eI).length : Int) = l.length := by simp
  refine Ret.of_pwp layOk mixed Go.Proofs.Tryz.func175 rfl (by decide) rfl rfl ?_
  repeat (refine stp rfl ?_ ?_;·repeat' constructor)
  refine pw_loop (Clear l (· == n)) (fun k => [(0, .sl (l.map eI)), (1, I n), (7, I (l.map eI).length), (8, I k)]) (fun _ => []) (fun k => l.length - k) 0 .zero ⟨rfl, rfl, rfl, rfl, trivial⟩ ?_
  intro k s hk
  repeat (refine stp rfl ?_ ?_;·repeat' constructor)
  refine pw_cond rfl (fun h => ?_) (fun h => ?_)
  · have hlt : k < l.length := by simpa using h
    obtain ⟨x, hx⟩ := get_lt hlt
    repeat (refine stp rfl ?_ ?_;·repeat' constructor)
    apply qst;exact rfl;exact rfl;exact q_idxm rfl rfl rfl rfl rfl (by omega) hx rfl
    repeat (refine stp rfl ?_ ?_;·repeat' constructor)
    refine pw_cond rfl (fun h => ?_) (fun h => ?_)
    · repeat (refine stp rfl ?_ ?_;·repeat' constructor)
      exact end1i rfl rfl (by rw [hk.found hx (by have := of_decide_eq_true h; simp [this])])
    · repeat (refine stp rfl ?_ ?_;·repeat' constructor)
      refine ⟨k + 1, hk.succ hx (by have := of_decide_eq_false h; simp; exact fun e => this e.symm), by omega, rfl, rfl, rfl, ?_, trivial⟩
      exact i64_next (by omega) (by omega)
  · repeat (refine stp rfl ?_ ?_;·repeat' constructor)
    exact end1i rfl rfl (by rw [hk.none (by simpa using h)])
theorem contains_ret (l : List Int) (n : Int) (hl : l.length ≤ 1000000) : Ret Tryz.prog .shared 147 [.sl (l.map eI), I n] (.bool (l.any (· == n))) := by
  have h1 := index_ret l n hl
  refine Ret.of_pwp layOk mixed Go.Proofs.Tryz.func147 rfl (by decide) rfl rfl ?_
  repeat (refine stp rfl ?_ ?_;·repeat' constructor)
  apply qst;exact rfl;exact rfl;exact q_callP rfl (h1) rfl (by repeat' constructor) rfl rfl
  repeat (refine stp rfl ?_ ?_;·repeat' constructor)
  exact end1b rfl rfl (by rw [idx_nonneg])
theorem isName_ret (s : Str) : Ret Tryz.prog .shared 68 [.str s] (.bool (isName s)) := by
  have h1 := between_ret s.length 1 12
  have hin : inside s.length 1 12 = (decide (1 ≤ s.length) && decide (s.length ≤ 12)) := by
    have e1 : (1 ≤ (s.length : Int)) = (1 ≤ s.length) := by simp only [eq_iff_iff]; omega
    have e2 : ((s.length : Int) ≤ 12) = (s.length ≤ 12) := by simp only [eq_iff_iff]; omega
    simp only [inside, e1, e2]
  refine Ret.of_pwp layOk mixed Go.Proofs.Tryz.func68 rfl (by decide) rfl rfl ?_
  repeat (refine stp rfl ?_ ?_;·repeat' constructor)
  apply qst;exact rfl;exact rfl;exact q_callP rfl (h1) rfl (by repeat' constructor) rfl rfl
  repeat (refine stp rfl ?_ ?_;·repeat' constructor)
  refine pw_cond rfl (fun h => ?_) (fun h => ?_)
  · repeat (refine stp rfl ?_ ?_;·repeat' constructor)
    have h' : inside s.length 1 12 = false := by simpa using h
    exact end1b rfl rfl (by rw [isName, ← hin, h']; rfl)
  have h' : inside s.length 1 12 = true := by simpa using h
  have hb : s.length ≤ 12 := by simp [inside] at h'; omega
  have hll : ((s.map eB).length : Int) = s.length := by simp
  have hin' := hin
  rw [h'] at hin'
  clear hin h1
  repeat (refine stp rfl ?_ ?_;·repeat' constructor)
  apply qst;exact rfl;exact rfl;exact q_s2b rfl rfl rfl rfl rfl rfl
  repeat (refine stp rfl ?_ ?_;·repeat' constructor)
  refine pw_loop (ClearE s badE) (fun k => [(11, .fsl (s.map eB)), (12, I (s.map eB).length), (13, I k)]) (fun _ => []) (fun k => s.length - k) 0 .zero' ⟨rfl, rfl, rfl, trivial⟩ ?_
  intro k st hk
  have hkl := hk.1
  repeat (refine stp rfl ?_ ?_;·repeat' constructor)
  refine pw_cond rfl (fun h => ?_) (fun h => ?_)
  · have hlt : k < s.length := by simpa using h
    obtain ⟨x, hx⟩ := get_lt hlt
    have hkb : k < 12 := by omega
    clear h
    repeat (refine stp rfl ?_ ?_;·repeat' constructor)
    apply qst;exact rfl;exact rfl;exact q_idxmF rfl rfl rfl rfl rfl (by omega) hx rfl
    repeat (refine stp rfl ?_ ?_; · repeat' constructor)
    refine ps_cut 100 [(3, I k), (4, .int .u8 x.toNat), (5, .bool (letter x)), (11, .fsl (s.map eB)), (12, I (s.map eB).length), (13, I k)] [] ?_ ?_
    · clear hin' h' hll hb
      repeat' (first|(refine stp rfl ?_ ?_;·repeat' constructor)|refine ps_split rfl rfl (fun h => ?_) (fun h => ?_)|refine pq_split rfl rfl (fun h => ?_) (fun h => ?_)|refine p3_split rfl rfl (fun h => ?_) (fun h => ?_))
      all_goals exact ⟨rfl, rfl, (congrArg PV.bool (by clear hk hx; simp_all [letter] <;> omega)), rfl, rfl, rfl, trivial⟩
    clear hin' h' hll hb
    intro s
    repeat' (first|(refine stp rfl ?_ ?_;·repeat' constructor)|refine ps_split rfl rfl (fun h => ?_) (fun h => ?_)|refine pq_split rfl rfl (fun h => ?_) (fun h => ?_)|refine p3_split rfl rfl (fun h => ?_) (fun h => ?_))
    all_goals try (refine pw_cond rfl (fun hc => ?_) (fun hc => ?_))
    all_goals repeat (refine stp rfl ?_ ?_;·repeat' constructor)
    all_goals first
      | (refine end1b rfl rfl ?_
         have hb : badE k x = 1 := by simp_all [badE, badc] <;> omega
         have := hk.found hx hb (by omega)
         simp [isName, this])
      | (refine ⟨k + 1, hk.succ hx (by simp_all [badE, badc] <;> omega), by omega, rfl, rfl, ?_, trivial⟩
         exact i64_next (by omega) (by omega))
  · repeat (refine stp rfl ?_ ?_;·repeat' constructor)
    exact end1b rfl rfl (by rw [isName, ← hin', hk.none (by simpa using h)]; rfl)
theorem isName_ref (l : Str) : Ret Tryz.prog .shared 70 [.str l] (.bool (isName l)) := by
  refine Ret.of_pwp layOk mixed Go.Proofs.Tryz.func70 rfl (by decide) rfl rfl ?_
  repeat' (first|(refine stp rfl ?_ ?_;·repeat' constructor)|refine ps_split rfl rfl (fun h => ?_) (fun h => ?_)|refine pq_split rfl rfl (fun h => ?_) (fun h => ?_)|refine p3_split rfl rfl (fun h => ?_) (fun h => ?_))
  · have := of_decide_eq_true h
    exact end1b rfl rfl (by simp [isName]; omega)
  have h1 := of_decide_eq_false h
  refine pw_cond rfl (fun h => ?_) (fun h => ?_)
  · have := of_decide_eq_true h
    repeat (refine stp rfl ?_ ?_;·repeat' constructor)
    exact end1b rfl rfl (by simp [isName]; omega)
  have h2 := of_decide_eq_false h
  repeat (refine stp rfl ?_ ?_;·repeat' constructor)
  refine pw_loop (ClearE l badE) (fun k => [(0, .str l), (3, I k)]) (fun _ => []) (fun k => l.length - k) 0 .zero' ⟨rfl, rfl, trivial⟩ ?_
  intro k s hk
  repeat (refine stp rfl ?_ ?_;·repeat' constructor)
  refine pw_cond rfl (fun h => ?_) (fun h => ?_)
  · have hlt : k < l.length := by simpa using h
    obtain ⟨x, hx⟩ := get_lt hlt
    have hget : l.getD k 0 = x := by rw [List.getD_eq_getElem?_getD, hx]; rfl
    repeat (refine stp rfl ?_ ?_;·repeat' constructor)
    refine ps_v rfl ⟨by omega, by omega⟩ ?_
    have hn : ((l.getD (Int.toNat (k : Int)) 0).toNat : Int) = x.toNat := by rw [Int.toNat_natCast, hget]
    rw [hn]
    have hkb : k < 12 := by omega
    clear h hn h1 h2
    refine ps_v rfl trivial ?_
    ((repeat (first | refine ps_nil ?_ | refine pq_nil ?_ | refine x_norm ?_ | refine pw_seq ?_)); refine pw_region ?_)
    refine ps_cut 100 [(0, .str l), (3, I k), (4, .int .u8 x.toNat), (5, .bool (letter x))] [] ?_ ?_
    · repeat' (first|(refine stp rfl ?_ ?_;·repeat' constructor)|refine ps_split rfl rfl (fun h => ?_) (fun h => ?_)|refine pq_split rfl rfl (fun h => ?_) (fun h => ?_)|refine p3_split rfl rfl (fun h => ?_) (fun h => ?_))
      all_goals exact ⟨rfl, rfl, rfl, (congrArg PV.bool (by simp_all [letter] <;> omega)), trivial⟩
    intro s
    repeat' (first|(refine stp rfl ?_ ?_;·repeat' constructor)|refine ps_split rfl rfl (fun h => ?_) (fun h => ?_)|refine pq_split rfl rfl (fun h => ?_) (fun h => ?_)|refine p3_split rfl rfl (fun h => ?_) (fun h => ?_))
    all_goals try (refine pw_cond rfl (fun hc => ?_) (fun hc => ?_))
    all_goals repeat (refine stp rfl ?_ ?_;·repeat' constructor)
    all_goals first
      | (refine end1b rfl rfl ?_
         have hb : badE k x = 1 := by simp_all [badE, badc] <;> omega
         have := hk.found hx hb (by omega)
         simp [isName, this])
      | (refine ⟨k + 1, hk.succ hx (by simp_all [badE, badc] <;> omega), by omega, rfl, ?_, trivial⟩
         exact i64_next (by omega) (by omega))
  · repeat (refine stp rfl ?_ ?_;·repeat' constructor)
    exact end1b rfl rfl (by simp only [isName, hk.none (by simpa using h)]; simp; omega)
end Go.Pv


set_option maxHeartbeats 2000000
namespace Go.Pv
attribute [local irreducible] PWP POps PQuiet PSem XThen XBlock RetPost InlPost
open Go.Proofs
theorem mval_cons (z k : PV) (row : List PV) (rows : List (List PV)) : mval z k (row :: rows) = bif mhd k row then row.getD 1 z else mval z k rows := by
  simp only [mval, mix]
  cases mhd k row
  · simp only [cond_false]
    cases mix k rows <;> rfl
  · rfl
def mrows (key : SPost → Option PV) (val : Nat → PV) : List SPost → Nat → List (List PV)
  | [], _ => []
  | p :: l, i => match key p with
    | some k => [k, val i] :: mrows key val l (i + 1)
    | none => mrows key val l (i + 1)
theorem mrows_snoc (key : SPost → Option PV) (val : Nat → PV) (p : SPost) : ∀ (l : List SPost) (i : Nat), mrows key val (l ++ [p]) i = mrows key val l i ++ (match key p with | some k => [[k, val (i + l.length)]] | none => [])
  | [], i => by simp only [List.nil_append, mrows, List.length_nil, Nat.add_zero]
  | q :: l, i => by
    have ih := mrows_snoc key val p l (i + 1)
    simp only [List.cons_append, mrows, List.length_cons, ih, show i + 1 + l.length = i + (l.length + 1) by omega]
    cases key q <;> rfl
theorem mrows_keyed {key : SPost → Option PV} {val : Nat → PV} {sh : Sh} {kk : Option (List Sh)} (h : ∀ p k, key p = some k → kkey sh kk k = true) : ∀ (l : List SPost) (i : Nat), keyedG sh kk (mrows key val l i) = true
  | [], i => rfl
  | q :: l, i => by
    have ih := mrows_keyed (val := val) h l (i + 1)
    simp only [mrows]
    cases hq : key q with
    | none => exact ih
    | some k =>
      simp only [keyedG, List.all_cons, Bool.and_eq_true]
      exact ⟨h q k hq, ih⟩
theorem mrows_at {key : SPost → Option PV} {val : Nat → PV} {q z : PV} {pr : SPost → Bool} (h : ∀ p, pr p = (match key p with | some k => keq k q | none => false)) : ∀ (l : List SPost) (i : Nat),
    mval z q (mrows key val l i) = (match l.findIdx? pr with | some j => val (i + j) | none => z) ∧ ((mix q (mrows key val l i)).isSome = l.any pr)
  | [], i => ⟨rfl, rfl⟩
  | p :: l, i => by
    have ih := mrows_at (z := z) (val := val) h l (i + 1)
    have hp := h p
    simp only [mrows, List.findIdx?_cons, List.any_cons]
    cases hq : key p with
    | none =>
      rw [hq] at hp
      simp only at hp ⊢
      rw [hp, ih.1, ih.2]
      simp only [Bool.false_eq_true, if_false, Bool.false_or]
      refine ⟨?_, trivial⟩
      cases l.findIdx? pr with
      | none => rfl
      | some j => simp only [Option.map_some]; congr 1; omega
    | some k =>
      rw [hq] at hp
      simp only at hp ⊢
      rw [mval_cons, mix, ← show mhd q [k, val i] = keq k q from rfl] at *
      rw [hp]
      cases hm : mhd q [k, val i] with
      | true => simp
      | false =>
        simp only [cond_false, ih.1, Bool.false_eq_true, if_false, Bool.false_or, Option.isSome_map, ih.2]
        refine ⟨?_, trivial⟩
        cases l.findIdx? pr with
        | none => rfl
        | some j => simp only [Option.map_some]; congr 1; omega
def ordK (p : SPost) : Option PV := if p.op = 0 then some (.str p.order) else none
def itmK (p : SPost) : Option PV := if p.op = 1 then some (.agg [.str p.order, .str p.item]) else none
def gonK (p : SPost) : Option PV := if p.op = 8 then some (I p.ref) else none
def numV (i : Nat) : PV := I ((i : Int) + 1)
def ordR (l : List SPost) : List (List PV) := mrows ordK numV l 0
def itmR (l : List SPost) : List (List PV) := mrows itmK numV l 0
def gonR (l : List SPost) : List (List PV) := mrows gonK (fun _ => .bool true) l 0
def eBook (l : List SPost) : List PV := [.sl (l.map ePost), .mapd (ordR l), .mapd (itmR l), .mapd (gonR l)]
theorem ordR_keyed (l : List SPost) : keyedG .str none (ordR l) = true := mrows_keyed (fun p k h => by unfold ordK at h; split at h <;> cases h; rfl) l 0
theorem itmR_keyed (l : List SPost) (sh : Sh) : keyedG sh (some [.str, .str]) (itmR l) = true := mrows_keyed (fun p k h => by unfold itmK at h; split at h <;> cases h; rfl) l 0
theorem gonR_keyed (l : List SPost) : keyedG (.int .i64) none (gonR l) = true := mrows_keyed (fun p k h => by unfold gonK at h; split at h <;> cases h; rfl) l 0
theorem ordR_at (l : List SPost) (nm : Str) : mval (I 0) (.str nm) (ordR l) = I (ordNo l nm) ∧ (mix (.str nm) (ordR l)).isSome = l.any (fun p => decide (p.op = 0) && decide (p.order = nm)) := by
  have := mrows_at (key := ordK) (val := numV) (q := .str nm) (z := I 0) (pr := fun p => decide (p.op = 0) && decide (p.order = nm)) (fun p => by
    by_cases h : p.op = 0 <;> simp [h, ordK, keq, keq1]) l 0
  refine ⟨?_, this.2⟩
  rw [ordR, this.1, ordNo, idx]
  cases l.findIdx? fun p => decide (p.op = 0) && decide (p.order = nm) with
  | none => rfl
  | some j => simp [numV]
theorem itmR_at (l : List SPost) (o nm : Str) : mval (I 0) (.agg [.str o, .str nm]) (itmR l) = I (itmNo l o nm) ∧ (mix (.agg [.str o, .str nm]) (itmR l)).isSome = l.any (fun p => decide (p.op = 1) && decide (p.order = o) && decide (p.item = nm)) := by
  have := mrows_at (key := itmK) (val := numV) (q := .agg [.str o, .str nm]) (z := I 0) (pr := fun p => decide (p.op = 1) && decide (p.order = o) && decide (p.item = nm)) (fun p => by
    by_cases h : p.op = 1 <;> simp [h, itmK, keq, keqs, keq1]) l 0
  refine ⟨?_, this.2⟩
  rw [itmR, this.1, itmNo, idx]
  cases l.findIdx? fun p => decide (p.op = 1) && decide (p.order = o) && decide (p.item = nm) with
  | none => rfl
  | some j => simp [numV]
theorem gonR_at (l : List SPost) (n : Int) : mval (.bool false) (I n) (gonR l) = .bool (goneB l n) ∧ (mix (I n) (gonR l)).isSome = goneB l n := by
  have := mrows_at (key := gonK) (val := fun _ => .bool true) (q := I n) (z := .bool false) (pr := fun p => decide (p.op = 8) && decide (p.ref = n)) (fun p => by
    by_cases h : p.op = 8 <;> simp [h, gonK, keq, keq1]) l 0
  refine ⟨?_, this.2⟩
  rw [gonR, this.1, goneB]
  cases hf : l.findIdx? fun p => decide (p.op = 8) && decide (p.ref = n) with
  | none =>
    rw [List.findIdx?_eq_none_iff] at hf
    have : l.any (fun p => decide (p.op = 8) && decide (p.ref = n)) = false := by rw [List.any_eq_false]; intro x hx; simp only [hf x hx]; simp
    rw [this]
  | some j =>
    rw [List.findIdx?_eq_some_iff_getElem] at hf
    obtain ⟨hi, h1, _⟩ := hf
    have : l.any (fun p => decide (p.op = 8) && decide (p.ref = n)) = true := List.any_eq_true.2 ⟨l[j], by simp, h1⟩
    rw [this]
theorem zone3 : zone Tryz.prog 3 = true := by decide +kernel
theorem zone4 : zone Tryz.prog 4 = true := by decide +kernel
theorem good72 : kgood Tryz.prog 172 (some [.str, .str]) = true := by decide +kernel
section
variable {P : Program} {L : Lay} {s : St} {T E d : Nat} {r re : LRow} {x y : Operand} {ty : TypeId} {pos : String} {af : Array Edge} {g : Option (Nat × Bool)}
theorem q_lookV {V : TypeId} {rv : LRow} {rows : List (List PV)} {key z v : PV} (kk : Option (List Sh)) (hv : mval z key rows = v) (hkeys : keyedG re.sh kk rows = true) (hz1 : zone P V = true) (hg : kgood P E kk = true) (hr : L T = some r) (hs : r.sh = .map E V) (hre : L E = some re) (hrv : L V = some rv) (hz : rv.zero = some [z]) (hx : s.ev x = .mapd rows)
    (hy : (s.ev y).fz = some key) (hky : kkey re.sh kk key = true) : QOp P L s ⟨some d, .lookup T x y false, ty, pos, af, g⟩ v := hv ▸ q_lookD kk hr hs hre hrv hz hz1 hg hx hy hky hkeys
end
end Go.Pv


namespace Go.Pv
open Go.RowKit Go.ChangeShapes Go.WideShapes Go.ChangeAt
def contig (L : Lay) : List (Nat × TypeId) → Nat → Nat → Bool
  | [], o, tot => Nat.beq o tot
  | (off, T) :: fs, o, tot => match L T with | some r => Nat.beq off o && contig L fs (o + r.size) tot | none => false
def plainT (L : Lay) : Nat → TypeId → Bool
  | 0, _ => false
  | n + 1, T => match L T with
    | some r => (match r.sh with
      | .bool | .int _ | .str => true
      | .sl e => (match L e with | some re => Nat.blt 0 re.size && plainT L n e | none => false)
      | .st fs => contig L fs 0 r.size && fs.all (fun f => plainT L n f.2)
      | _ => false)
    | none => false
def tyP (L : Lay) : Nat → TypeId → List PV → Prop
  | 0, _, _ => False
  | n + 1, T, cs => ∃ r, L T = some r ∧ (match r.sh with
    | .bool => ∃ b, cs = [.bool b]
    | .int k => ∃ m, cs = [.int k m] ∧ k.min ≤ m ∧ m ≤ k.max
    | .str => ∃ s : List UInt8, cs = [.str s] ∧ s.length ≤ maxLen
    | .sl e => ∃ rows, cs = [.sl rows] ∧ rows.length ≤ maxLen ∧ ∀ row ∈ rows, tyP L n e row
    | .st fs => ∃ parts : List (List PV), cs = parts.flatten ∧ parts.length = fs.length ∧ ∀ (i : Nat) f p, fs[i]? = some f → parts[i]? = some p → tyP L n f.2 p
    | _ => False)
section
variable {L : Lay} {n : Nat} {T : TypeId} {cs : List PV}
theorem tyP_sh {r : LRow} {sh : Sh} (hr : L T = some r) (hs : (L T).map (·.sh) = some sh) : r.sh = sh := by rw [hr] at hs; exact Option.some.inj hs
theorem tyP_intB {k : IntKind} (h : tyP L (n + 1) T cs) (hs : (L T).map (·.sh) = some (.int k)) : ∃ m, cs = [.int k m] ∧ k.min ≤ m ∧ m ≤ k.max := by
  obtain ⟨r, hr, h⟩ := h
  rw [tyP_sh hr hs] at h; exact h
theorem tyP_int {k : IntKind} (h : tyP L (n + 1) T cs) (hs : (L T).map (·.sh) = some (.int k)) : ∃ m, cs = [.int k m] := let ⟨m, e, _⟩ := tyP_intB h hs; ⟨m, e⟩
theorem tyP_strB (h : tyP L (n + 1) T cs) (hs : (L T).map (·.sh) = some .str) : ∃ s : List UInt8, cs = [.str s] ∧ s.length ≤ maxLen := by
  obtain ⟨r, hr, h⟩ := h
  rw [tyP_sh hr hs] at h; exact h
theorem tyP_str (h : tyP L (n + 1) T cs) (hs : (L T).map (·.sh) = some .str) : ∃ s, cs = [.str s] := let ⟨m, e, _⟩ := tyP_strB h hs; ⟨m, e⟩
theorem tyP_slB {e : TypeId} (h : tyP L (n + 1) T cs) (hs : (L T).map (·.sh) = some (.sl e)) : ∃ rows, cs = [.sl rows] ∧ rows.length ≤ maxLen ∧ ∀ row ∈ rows, tyP L n e row := by
  obtain ⟨r, hr, h⟩ := h
  rw [tyP_sh hr hs] at h; exact h
theorem tyP_sl {e : TypeId} (h : tyP L (n + 1) T cs) (hs : (L T).map (·.sh) = some (.sl e)) : ∃ rows, cs = [.sl rows] ∧ ∀ row ∈ rows, tyP L n e row := let ⟨m, e, _, h⟩ := tyP_slB h hs; ⟨m, e, h⟩
theorem tyP_st {fs : List (Nat × TypeId)} (h : tyP L (n + 1) T cs) (hs : (L T).map (·.sh) = some (.st fs)) : ∃ parts : List (List PV), cs = parts.flatten ∧ parts.length = fs.length ∧ ∀ (i : Nat) f p, fs[i]? = some f → parts[i]? = some p → tyP L n f.2 p := by
  obtain ⟨r, hr, h⟩ := h
  rw [tyP_sh hr hs] at h; exact h
end
def Reads (w : World) (pvs : List PV) (cs : List Value) : Prop :=
  pvs.length = cs.length ∧ ∀ (i : Nat) (c : PV) (v : Value), pvs[i]? = some c → cs[i]? = some v → DRep w (fun b => b < w.heap.size) c v ∧ v.oneCell' = true
theorem Reads.append {w : World} {p1 p2 : List PV} {c1 c2 : List Value} (h1 : Reads w p1 c1) (h2 : Reads w p2 c2) : Reads w (p1 ++ p2) (c1 ++ c2) := by
  refine ⟨by simp [h1.1, h2.1], fun i c v e1 e2 => ?_⟩
  rw [List.getElem?_append] at e1 e2
  split at e1
  · rename_i hlt
    rw [if_pos (by rw [← h1.1]; exact hlt)] at e2
    exact h1.2 i c v e1 e2
  · rename_i hlt
    rw [if_neg (by rw [← h1.1]; exact hlt), ← h1.1] at e2
    exact h2.2 _ c v e1 e2
section
variable {H : Type} {enc : TypeId × Value → H} {P : Program} {L : Lay} {w : World} {sp : Nat → Bool} {held : Bool}
theorem cellsOf_eq (hL : LOk P L) {T : TypeId} {r : LRow} (hr : L T = some r) : P.cellsOf T = r.size := by
  obtain ⟨i, d, hi, _, hs, _⟩ := LRow.spec (hL T r hr)
  simp [Program.cellsOf, hi, hs]
theorem contig_le : ∀ (fs : List (Nat × TypeId)) (o tot : Nat), contig L fs o tot = true → o ≤ tot
  | [], o, tot, h => by simp [contig] at h; omega
  | (off, T) :: fs, o, tot, h => by
    simp only [contig] at h
    split at h
    · rename_i r hr
      simp only [Bool.and_eq_true] at h
      have := contig_le fs _ _ h.2
      omega
    · cases h
theorem dec_fields (hL : LOk P L) {n : Nat} {cs : List Value}
    (IH : ∀ (T : TypeId) (cs : List Value) (fuel : Nat) x, plainT L n T = true → DataW.trod enc P w 0 sp held fuel T cs = some x → ∃ pvs, Reads w pvs cs ∧ tyP L n T pvs) :
    ∀ (fs : List (Nat × TypeId)) (o : Nat), contig L fs o cs.length = true → fs.all (fun f => plainT L n f.2) = true →
      (∀ f ∈ fs, ∃ m x, DataW.trod enc P w 0 sp held m f.2 ((cs.drop f.1).take (P.cellsOf f.2)) = some x) →
      ∃ parts : List (List PV), Reads w parts.flatten (cs.drop o) ∧ parts.length = fs.length ∧ ∀ (i : Nat) f p, fs[i]? = some f → parts[i]? = some p → tyP L n f.2 p
  | [], o, h, _, _ => by
    simp [contig] at h
    refine ⟨[], ⟨by simp [h], fun i c v e => by simp at e⟩, rfl, fun i f p e => by simp at e⟩
  | (off, T) :: fs, o, h, hall, hd => by
    simp only [contig] at h
    split at h
    · rename_i r hr
      simp only [Bool.and_eq_true, Nat.beq_eq] at h
      obtain ⟨rfl, h⟩ := h
      simp only [List.all_cons, Bool.and_eq_true] at hall
      have hle := contig_le fs _ _ h
      obtain ⟨m, x, hx⟩ := hd (off, T) (by simp)
      obtain ⟨pvs, hp1, hp2⟩ := IH T _ m x hall.1 hx
      obtain ⟨parts, g1, g2, g3⟩ := dec_fields hL IH fs (off + r.size) h hall.2 (fun f hf => hd f (by simp [hf]))
      rw [cellsOf_eq hL hr] at hp1
      refine ⟨pvs :: parts, ?_, by simp [g2], fun i f p e1 e2 => ?_⟩
      · have hsplit : cs.drop off = (cs.drop off).take r.size ++ cs.drop (off + r.size) := by rw [← List.drop_drop, List.take_append_drop]
        rw [hsplit, List.flatten_cons]
        exact hp1.append g1
      · cases i with
        | zero => simp at e1 e2; subst e1; subst e2; exact hp2
        | succ i => exact g3 i f p (by simpa using e1) (by simpa using e2)
    · cases h
theorem trod_dec (hL : LOk P L) : ∀ (n : Nat) (T : TypeId) (cs : List Value) (fuel : Nat) (x : DataW H × List MemPlace), plainT L n T = true → DataW.trod enc P w 0 sp held fuel T cs = some x → ∃ pvs, Reads w pvs cs ∧ tyP L n T pvs
  | 0, _, _, _, _, h, _ => by simp [plainT] at h
  | n + 1, T, cs, fuel, x, h, ht => by
    simp only [plainT] at h
    split at h
    · rename_i r hr
      have hfit := hL T r hr
      have one : ∀ {c : PV} {v : Value}, DRep w (fun b => b < w.heap.size) c v → v.oneCell' = true → Reads w [c] [v] := fun h1 h2 => ⟨rfl, fun i c v e1 e2 => by
        cases i with
        | zero => simp at e1 e2; subst e1; subst e2; exact ⟨h1, h2⟩
        | succ i => simp at e1⟩
      split at h
      · rename_i hs
        obtain ⟨b, rfl, _⟩ := DataW.trod_bool (und_bool hfit hs) ht
        exact ⟨[.bool b], one (.bool b) rfl, r, hr, by rw [hs]; exact ⟨b, rfl⟩⟩
      · rename_i k hs
        obtain ⟨m, rfl, _, hwf⟩ := DataW.trod_int (und_int hfit hs) ht
        simp only [Lit.wf, Bool.and_eq_true, decide_eq_true_eq] at hwf
        exact ⟨[.int k m], one (.int k m) rfl, r, hr, by rw [hs]; exact ⟨m, rfl, hwf⟩⟩
      · rename_i hs
        obtain ⟨s, rfl, _, hsz⟩ := DataW.trod_string (und_str hfit hs) ht
        exact ⟨[.str s.data.toList], one (.str s.data.toList) rfl, r, hr, by rw [hs]; exact ⟨_, rfl, by rw [Array.length_toList]; exact hsz⟩⟩
      · rename_i e hs
        split at h
        · rename_i re hre
          simp only [Bool.and_eq_true] at h
          have hsz : 0 < re.size := by simpa using h.1
          have hce := cellsOf_eq hL hre
          rcases DataW.trod_slice (und_sl hfit hs) ht with ⟨rfl, _⟩ | ⟨a, len, cap, elems, rest, m, rfl, rfl, _, _, hlc, hcm, hel, hat, _⟩
          · exact ⟨[.sl []], one (.sl0 none 0) rfl, r, hr, by rw [hs]; exact ⟨[], rfl, Nat.zero_le _, fun row hrow => by cases hrow⟩⟩
          · rw [hce] at hat
            have key : ∀ i, i < len → ∃ ecs, w.cells? 0 (a.add (i * re.size)) re.size = some ecs ∧ ∃ pvs, Reads w pvs ecs ∧ tyP L n e pvs := by
              intro i hi
              have h1 := hat i hi
              rw [List.getElem?_eq_getElem (by omega)] at h1
              obtain ⟨ecs, e1, e2⟩ := Option.bind_eq_some_iff.1 h1
              obtain ⟨pvs, g1, g2⟩ := trod_dec hL n e ecs m _ h.2 e2
              exact ⟨ecs, e1, pvs, g1, g2⟩
            by_cases h0 : len = 0
            · subst h0
              exact ⟨[.sl []], one (.sl0 _ _) rfl, r, hr, by rw [hs]; exact ⟨[], rfl, Nat.zero_le _, fun row hrow => by cases hrow⟩⟩
            ·
              have cellAt : ∀ (i : Nat) ecs, w.cells? 0 (a.add (i * re.size)) re.size = some ecs → ecs.length = re.size ∧ ∀ j v, ecs[j]? = some v → w.cell? ((a.add (i * re.size)).add j) = some v := by
                intro i ecs he
                unfold World.cells? at he
                rw [if_pos (Nat.zero_le _)] at he
                refine ⟨by simpa using mapM_some_length he, fun j v hv => ?_⟩
                have hj : j < re.size := by have := mapM_some_length he; have := (List.getElem?_eq_some_iff.1 hv).1; simp at *; omega
                have := mapM_some_get he j j (by simp [hj])
                rw [hv] at this
                exact this
              obtain ⟨b, off, spot⟩ := a
              obtain ⟨ecs0, f1, pvs0, f2, _⟩ := key 0 (by omega)
              obtain ⟨f3, f4⟩ := cellAt 0 ecs0 f1
              have hc0 : ∃ v, w.cell? (((⟨b, off, spot⟩ : Addr).add (0 * re.size)).add 0) = some v := ⟨ecs0[0], f4 0 _ (List.getElem?_eq_getElem (by omega))⟩
              have hspot : spot = none := by
                obtain ⟨v, hv⟩ := hc0
                simpa [Addr.add] using World.cell?_spot hv
              subst hspot
              have hbl : b < w.heap.size := by
                obtain ⟨v, hv⟩ := hc0
                simp only [Nat.zero_mul, Addr.add_mk, Nat.add_zero] at hv
                rcases Nat.lt_or_ge b w.heap.size with hlt | hge
                · exact hlt
                · simp [World.cell?, Array.getElem?_eq_none hge] at hv
              have hch : ∀ i : Nat, ∃ p : List PV × List Value, i < len → w.cells? 0 ((⟨b, off, none⟩ : Addr).add (i * re.size)) re.size = some p.2 ∧ Reads w p.1 p.2 ∧ tyP L n e p.1 := by
                intro i
                by_cases hi : i < len
                · obtain ⟨ecs, e1, pvs, e2, e3⟩ := key i hi
                  exact ⟨(pvs, ecs), fun _ => ⟨e1, e2, e3⟩⟩
                · exact ⟨([], []), fun h => absurd h hi⟩
              let g : Nat → List PV × List Value := fun i => Classical.choose (hch i)
              have hg : ∀ i, i < len → w.cells? 0 ((⟨b, off, none⟩ : Addr).add (i * re.size)) re.size = some (g i).2 ∧ Reads w (g i).1 (g i).2 ∧ tyP L n e (g i).1 := fun i hi => Classical.choose_spec (hch i) hi
              have hrow : ∀ (i : Nat) (row : List PV), ((List.range len).map fun i => (g i).1)[i]? = some row → i < len ∧ row = (g i).1 := by
                intro i row hrow
                rw [List.getElem?_map] at hrow
                rcases Nat.lt_or_ge i len with hlt | hge
                · rw [List.getElem?_range hlt] at hrow
                  simp at hrow
                  exact ⟨hlt, hrow.symm⟩
                · rw [List.getElem?_eq_none (by simpa using hge)] at hrow
                  simp at hrow
              have hmem : ∀ row ∈ (List.range len).map fun i => (g i).1, ∃ i, i < len ∧ row = (g i).1 := by
                intro row hrow
                obtain ⟨i, hi, rfl⟩ := List.mem_map.1 hrow
                exact ⟨i, List.mem_range.1 hi, rfl⟩
              have hlen : ((List.range len).map fun i => (g i).1).length = len := by simp
              have hlen' : ∀ i, i < len → (g i).1.length = re.size := fun i hi => by
                rw [(hg i hi).2.1.1]; exact (cellAt i _ (hg i hi).1).1
              have hD : DRep w (fun b => b < w.heap.size) (.sl ((List.range len).map fun i => (g i).1)) (.slice (some ⟨b, off, none⟩) len cap) := by
                have := DRep.sl (w := w) (ok := fun b => b < w.heap.size) ((List.range len).map fun i => (g i).1) b off cap re.size (fun i j => ((g i).2[j]?).getD undef) hbl hsz (by rw [hlen]; exact hlc)
                  (fun row hr => by obtain ⟨i, hi, rfl⟩ := hmem row hr; exact hlen' i hi)
                  (fun i j row c e1 e2 => by
                    obtain ⟨hi, rfl⟩ := hrow i row e1
                    have hj : j < (g i).2.length := by rw [← (hg i hi).2.1.1]; exact (List.getElem?_eq_some_iff.1 e2).1
                    have hv : (g i).2[j]? = some (g i).2[j] := List.getElem?_eq_getElem hj
                    have := (cellAt i _ (hg i hi).1).2 j _ hv
                    rw [Addr.add_mk, Addr.add_mk] at this
                    rw [hv]
                    exact ⟨this, ((hg i hi).2.1.2 j c _ e2 hv).2⟩)
                  (fun i j row c e1 e2 => by
                    obtain ⟨hi, rfl⟩ := hrow i row e1
                    have hj : j < (g i).2.length := by rw [← (hg i hi).2.1.1]; exact (List.getElem?_eq_some_iff.1 e2).1
                    have hv : (g i).2[j]? = some (g i).2[j] := List.getElem?_eq_getElem hj
                    rw [hv]
                    exact ((hg i hi).2.1.2 j c _ e2 hv).1)
                rw [hlen] at this
                exact this
              exact ⟨[.sl ((List.range len).map fun i => (g i).1)], one hD rfl, r, hr, by
                rw [hs]
                exact ⟨_, rfl, by rw [hlen]; exact Nat.le_trans hlc hcm, fun row hr => by obtain ⟨i, hi, rfl⟩ := hmem row hr; exact (hg i hi).2.2⟩⟩
        · cases h
      · rename_i fs hs
        simp only [Bool.and_eq_true] at h
        obtain ⟨fs', hu, hm⟩ := und_st hfit hs
        obtain ⟨xs, m, _, _, hlen, hxl, hf⟩ := DataW.trod_struct hu ht
        rw [cellsOf_eq hL hr] at hlen
        obtain ⟨parts, g1, g2, g3⟩ := dec_fields hL (cs := cs) (fun T cs fuel x a b => trod_dec hL n T cs fuel x a b) fs 0 (by rw [hlen]; exact h.1) h.2 (fun f hf' => by
          rw [← hm] at hf'
          obtain ⟨fd, hfd, rfl⟩ := List.mem_map.1 hf'
          obtain ⟨i, hi, hie⟩ := List.getElem_of_mem hfd
          have hi' : i < fs'.size := by simpa using hi
          have h1 : fs'[i]? = some fd := by rw [Array.getElem?_eq_getElem hi']; simpa using hie
          have h2 := hf i fd h1
          rw [List.getElem?_eq_getElem (by omega)] at h2
          exact ⟨m, _, h2⟩)
        exact ⟨parts.flatten, by simpa using g1, r, hr, by rw [hs]; exact ⟨parts, rfl, g2, g3⟩⟩
      · cases h
    · cases h
def argP (L : Lay) (T : TypeId) (c : PV) : Prop := match L T with
  | some r => bif r.sh.agg then ∃ cs, c = .agg cs ∧ tyP L 6 T cs else tyP L 6 T [c]
  | none => False
theorem arg_dec (hL : LOk P L) {base : Nat} {T : TypeId} {v : Value} {d : DataW H} {ps : List MemPlace} (hp : plainT L 6 T = true) (h : DataW.Trod enc P w 0 sp held T v d ps) (hok : Value.okWide P w .any base T v) : ∃ c, DRep w (fun b => b < w.heap.size) c v ∧ argP L T c := by
  obtain ⟨fuel, h⟩ := h
  obtain ⟨pvs, h1, h2⟩ := trod_dec hL 6 T _ fuel _ hp h
  have hp' := hp
  simp only [plainT] at hp
  split at hp
  · rename_i r hr
    have hfit := hL T r hr
    have leaf : r.sh.agg = false → (∃ c, pvs = [c]) → (v.cells.toList.length = 1 → v.cells = #[v]) → ∃ c, DRep w (fun b => b < w.heap.size) c v ∧ argP L T c := by
      rintro ha ⟨c, rfl⟩ hv
      have hc := hv (by rw [← h1.1]; rfl)
      have hd := h1.2 0 c v rfl (by rw [hc]; rfl)
      refine ⟨c, hd.1, ?_⟩
      unfold argP
      rw [hr]
      simp only [ha, cond_false]
      exact h2
    have nagg : (∀ cs, v ≠ .agg cs) → v.cells = #[v] := by
      intro h
      cases v <;> first | rfl | exact absurd rfl (h _)
    have hty : ∃ r', L T = some r' ∧ _ := h2
    obtain ⟨r', hr', hty⟩ := hty
    rw [hr] at hr'
    have hr' := Option.some.inj hr'
    subst hr'
    split at hp
    · rename_i hs
      rw [hs] at hty
      obtain ⟨b, rfl⟩ := hty
      obtain ⟨b', rfl⟩ : ∃ b', v = .bool b' := by
        have := okWide_bool (und_bool hfit hs) hok; exact this
      exact leaf (by rw [hs]; rfl) ⟨_, rfl⟩ (fun _ => rfl)
    · rename_i k hs
      rw [hs] at hty
      obtain ⟨m, rfl, _⟩ := hty
      obtain ⟨m', rfl⟩ := okWide_int (und_int hfit hs) hok
      exact leaf (by rw [hs]; rfl) ⟨_, rfl⟩ (fun _ => rfl)
    · rename_i hs
      rw [hs] at hty
      obtain ⟨s, rfl, _⟩ := hty
      obtain ⟨s', rfl⟩ := okWide_string (und_str hfit hs) hok
      exact leaf (by rw [hs]; rfl) ⟨_, rfl⟩ (fun _ => rfl)
    · rename_i e hs
      rw [hs] at hty
      obtain ⟨rows, rfl, _⟩ := hty
      obtain ⟨a, l, c, rfl⟩ := okWide_slice (und_sl hfit hs) hok
      exact leaf (by rw [hs]; rfl) ⟨_, rfl⟩ (fun _ => rfl)
    · rename_i fs hs
      obtain ⟨fs', hu, _⟩ := und_st hfit hs
      obtain ⟨cs, rfl, _⟩ := okWide_struct hu hok
      refine ⟨.agg pvs, ?_, ?_⟩
      · have := DRep.agg (w := w) (ok := fun b => b < w.heap.size) pvs cs.toList h1.1 (fun i c v e1 e2 => (h1.2 i c v e1 e2).1)
        simpa using this
      · unfold argP
        rw [hr]
        simp only [hs, Sh.agg, cond_true]
        exact ⟨pvs, rfl, h2⟩
    · cases hp
  · cases hp
theorem args_dec (hL : LOk P L) {base : Nat} : ∀ (ts : List TypeId) (vs : List Value) (ds : List (DataW H)) (ps : List MemPlace), ts.all (plainT L 6) = true → DataW.TrodAll enc P w 0 sp held ts vs ds ps →
    (∀ (j : Nat) t v, ts[j]? = some t → vs[j]? = some v → Value.okWide P w .any base t v) →
    ∃ pargs : List PV, pargs.length = vs.length ∧ ts.length = vs.length ∧ ds.length = vs.length ∧ (∀ (i : Nat) (c : PV) (v : Value), pargs[i]? = some c → vs[i]? = some v → DRep w (fun b => b < w.heap.size) c v) ∧ ∀ (i : Nat) t c, ts[i]? = some t → pargs[i]? = some c → argP L t c
  | [], vs, ds, ps, _, h, _ => by
    obtain ⟨rfl, rfl, _⟩ := trodAll_nil h
    exact ⟨[], rfl, rfl, rfl, fun i c v e => by simp at e, fun i t c e => by simp at e⟩
  | t :: ts, vs, ds, ps, hp, h, hok => by
    obtain ⟨v, vs', d, ds', p, q, rfl, rfl, rfl, h1, h2⟩ := trodAll_cons h
    simp only [List.all_cons, Bool.and_eq_true] at hp
    obtain ⟨c, g1, g2⟩ := arg_dec hL hp.1 h1 (hok 0 t v rfl rfl)
    obtain ⟨pargs, e1, e2, e3, e4, e5⟩ := args_dec hL ts vs' ds' q hp.2 h2 (fun j t v a b => hok (j + 1) t v (by simpa using a) (by simpa using b))
    refine ⟨c :: pargs, by simp [e1], by simp [e2], by simp [e3], fun i c' v' a b => ?_, fun i t' c' a b => ?_⟩
    · cases i with
      | zero => simp at a b; subst a; subst b; exact g1
      | succ i => exact e4 i c' v' (by simpa using a) (by simpa using b)
    · cases i with
      | zero => simp at a b; subst a; subst b; exact g2
      | succ i => exact e5 i t' c' (by simpa using a) (by simpa using b)
theorem trodAll_below (hl : laidOutB P = true) {W W' : World} (hb : Below W.heap.size W W') : ∀ (ts : List TypeId) (vs : List Value) (ds : List (DataW H)) (ps : List MemPlace), (∀ t ∈ ts, P.readableRec t = true ∧ t < P.types.size) →
    DataW.TrodAll enc P W 0 (fun _ => true) true ts vs ds ps → (∀ x ∈ ps, x.block < W.heap.size) → DataW.TrodAll enc P W' 0 (fun b => decide (b < W.heap.size)) true ts vs ds ps
  | [], vs, ds, ps, _, h, _ => by
    obtain ⟨rfl, rfl, rfl⟩ := trodAll_nil h
    exact trodAll_mk0
  | t :: ts, vs, ds, ps, hr, h, hlt => by
    obtain ⟨v, vs', d, ds', p, q, rfl, rfl, rfl, h1, h2⟩ := trodAll_cons h
    have ht := hr t (by simp)
    exact ⟨p, q, Below.trod hl ht.1 ht.2 h1 hb (fun x hx => hlt x (by simp [hx])), trodAll_below hl hb ts vs' ds' q (fun t ht => hr t (by simp [ht])) h2 (fun x hx => hlt x (by simp [hx])), rfl⟩
theorem law_step [Globs] (hL : LOk P L) (hl : laidOutB P = true) {f : FuncId} {fn : Func} {s : ChangeSpec} {ts : List TypeId} {T : TypeId} (hvars : s.vars = []) (hts : fn.params.toList = ts) (hplain : ts.all (plainT L 6) = true)
    (hread : ts.all (fun t => P.readableRec t && decide (t < P.types.size)) = true) (hres : fn.resultTypes = #[T]) (hT : P.underlying T = some .bool)
    (hspec : ∀ ds : List (DataW H), ds.length = ts.length → (s.fn H ds).results = [.lit (.bool true)] ∧ (s.fn H ds).args = ds ∧ (s.fn H ds).vars = [])
    (law : ∀ pargs : List PV, pargs.length = ts.length → (∀ (i : Nat) t c, ts[i]? = some t → pargs[i]? = some c → argP L t c) → Ret P .shared f pargs (.bool true))
    {W : World} {base : Nat} {args : Array Value} {ds gs : List (DataW H)} {before : List MemPlace} (hval : ∀ (j : Nat) t v, fn.params[j]? = some t → args[j]? = some v → Value.okWide P W .any base t v)
    (hglob : Globs.glob W) (hW : DataW.Whole enc P fn.params.toList s.vars false W args.toList ds gs before) :
    Calls P f args W fun e W' => ∃ v, e = .returned v ∧ s.post enc P fn false true false false W args v W' := by
  have hW' := hW
  obtain ⟨p, q, hA, hV, hpq, hfz, hnd⟩ := hW
  rw [hvars] at hV
  obtain ⟨rfl, rfl⟩ := trodVars_none hV
  rw [hts] at hA
  obtain ⟨pargs, e1, e2, e3, e4, e5⟩ := args_dec hL (base := base) ts _ _ _ hplain hA (fun j t v a b => hval j t v (by rw [← hts] at a; simpa using a) (by simpa using b))
  have hret := law pargs (by omega) e5
  have hcall := hret.2 W (fun _ => False) args.toList hglob (fun b hb => hb.elim) (by omega) (fun i c v a b => (e4 i c v a b).weaken fun b hb => ⟨hb, fun h => h⟩)
  have hargs : args.toList.toArray = args := by simp
  rw [hargs] at hcall
  refine hcall.mono ?_
  rintro e W' ⟨v, rfl, hb, hd⟩
  refine ⟨v, rfl, ?_⟩
  have hv : v = .bool true := by cases hd; rfl
  subst hv
  have hlt : ∀ x ∈ p, x.block < W.heap.size := fun x hx => by
    have := hW'.lt x (by rw [hpq]; simp [hx])
    simpa using this
  obtain ⟨s1, s2, s3⟩ := hspec ds (by omega)
  have hgs : ds ++ ([] : List (DataW H)) = ds := List.append_nil ds
  refine ⟨ds, [], before, [], p, [], hW', ?_, ?_, ?_, World.keptBut_mono (fun x hx => hx.elim) (hb.frame (fun _ => False)), fun h => by cases h⟩
  · rw [hgs, s1, hres]
    exact trodAll_mk1 (shut_bool hT true)
  · rw [hgs, s2, hts]
    exact trodAll_below hl hb ts _ _ _ (fun t ht => by
      have := List.all_eq_true.1 hread t ht
      simpa using this) hA hlt
  · rw [hgs, s3, hvars]
    exact rfl
end
end Go.Pv


set_option maxHeartbeats 2000000
namespace Go.Pv
attribute [local irreducible] PWP POps PQuiet PSem XThen XBlock RetPost InlPost
open Go.Proofs Go.RowKit
section
variable {P : Program} {L : Lay} {s : St} {T T' : TypeId} {d : Nat} {x lo hi : Operand} {r : LRow} {ty : TypeId} {pos : String} {af : Array Edge} {g : Option (Nat × Bool)}
theorem wrapW {m : Sem Value} {P : Program} {w : World} {v : Value} (h : m.run P w = .ok v w) : (do pure (Next.value (← m)) : Sem Next).run P w = .ok (.value v) w := by simp [h]
theorem bytes_cut (l : List UInt8) (a b : Nat) : (⟨l.toArray⟩ : ByteArray).extract a b = ⟨((l.drop a).take (b - a)).toArray⟩ := by
  apply ByteArray.ext
  rw [ByteArray.data_extract, List.extract_toArray, List.extract_eq_take_drop]
theorem q_ifN0 [Globs] {ms : Array (String × TypeId)} (hu : P.underlying T = some (.interface ms)) (hx : s.ev x = .raw .nilIface) :
    QOp P L s ⟨some d, .binOp .neq T x (.const .nilIface) T', ty, pos, af, g⟩ (.bool false) := by
  refine .semF (v := .bool false) (by simp [Op.operands]) (fun y hy => ?_) (fun ev w _ he => ?_) fun _ _ => .bool _
  · simp [Op.operands] at hy
    rcases hy with rfl | rfl
    · rw [hx]; exact ⟨_, rfl⟩
    · exact ⟨_, rfl⟩
  · have e1 := he x (by simp [Op.operands])
    have e2 := he (.const .nilIface) (by simp [Op.operands])
    rw [hx] at e1
    have e1 : ev x = .nilIface := (Option.some.inj e1).symm
    have e2 : ev (.const .nilIface) = .nilIface := (Option.some.inj e2).symm
    simp only [execOp, e1, e2]
    refine wrapW ?_
    have hg : eqGuard .neq T x (.const .nilIface) .nilIface .nilIface = pure () := by cases x <;> rfl
    rw [hg]
    have h : ∀ d : Nat, (Op.equalIn (d + 1) T .nilIface .nilIface).run P w = .ok true w := fun d => by simp [Op.equalIn, run_underlying hu]
    simp only [Sem.run_bind, Sem.run_pure, Result.andThen_ok, binOp]
    simp [Op.equal, Op.maxDepth, h 9999]
theorem q_ifN1 [Globs] {ms : Array (String × TypeId)} {t : TypeId} {u : Value} (hu : P.underlying T = some (.interface ms)) (hx : s.ev x = .raw (.iface t u)) :
    QOp P L s ⟨some d, .binOp .neq T x (.const .nilIface) T', ty, pos, af, g⟩ (.bool true) := by
  refine .semF (v := .bool true) (by simp [Op.operands]) (fun y hy => ?_) (fun ev w _ he => ?_) fun _ _ => .bool _
  · simp [Op.operands] at hy
    rcases hy with rfl | rfl
    · rw [hx]; exact ⟨_, rfl⟩
    · exact ⟨_, rfl⟩
  · have e1 := he x (by simp [Op.operands])
    have e2 := he (.const .nilIface) (by simp [Op.operands])
    rw [hx] at e1
    have e1 : ev x = .iface t u := (Option.some.inj e1).symm
    have e2 : ev (.const .nilIface) = .nilIface := (Option.some.inj e2).symm
    simp only [execOp, e1, e2]
    refine wrapW ?_
    have hg : eqGuard .neq T x (.const .nilIface) (.iface t u) .nilIface = pure () := rfl
    rw [hg]
    have h : ∀ d : Nat, (Op.equalIn (d + 1) T (.iface t u) .nilIface).run P w = .ok false w := fun d => by simp [Op.equalIn, run_underlying hu]
    simp only [Sem.run_bind, Sem.run_pure, Result.andThen_ok, binOp]
    simp [Op.equal, Op.maxDepth, h 9999]
end
end Go.Pv


set_option maxHeartbeats 2000000
namespace Go.Pv
attribute [local irreducible] PWP POps PQuiet PSem XThen XBlock RetPost InlPost
open Go.Proofs
theorem idx_bounds {α : Type} (l : List α) (p : α → Bool) : -1 ≤ idx l p ∧ idx l p < l.length := by
  unfold idx
  cases h : l.findIdx? p with
  | none => simp; omega
  | some i =>
    rw [List.findIdx?_eq_some_iff_getElem] at h
    obtain ⟨hi, _⟩ := h
    simp; omega
theorem entL_at {l : List SPost} {n : Int} (h1 : 1 ≤ n) (h2 : n ≤ l.length) : l[(n - 1).toNat]? = some (entL l n) := by
  have : (n - 1).toNat < l.length := by omega
  rw [entL, List.getD_eq_getElem?_getD, List.getElem?_eq_getElem this]; rfl
theorem Wf.lt {l : List SPost} (hW : Wf l) {n : Int} (h1 : 1 ≤ n) : 0 ≤ supNo l (entL l n) ∧ supNo l (entL l n) < n := by
  by_cases h2 : n ≤ l.length
  · have := hW.sup _ _ (entL_at h1 h2)
    omega
  · have : entL l n = default := by
      have : ¬ (n - 1).toNat < l.length := by omega
      rw [entL, List.getD_eq_getElem?_getD, List.getElem?_eq_none (by omega)]; rfl
    rw [this]
    have : supNo l default = 0 := rfl
    omega
theorem liveF_zero {l : List SPost} : ∀ {f : Nat} {n : Int}, n ≤ 0 → liveF l f n = true
  | 0, n, _ => rfl
  | f + 1, n, h => by simp [liveF, h]
theorem liveF_eq {l : List SPost} (hW : Wf l) : ∀ {f g : Nat} {n : Int}, n.toNat ≤ f → n.toNat ≤ g → liveF l f n = liveF l g n
  | 0, g, n, h, _ => by rw [liveF_zero (by omega), liveF_zero (by omega)]
  | f + 1, 0, n, _, h => by rw [liveF_zero (by omega), liveF_zero (by omega)]
  | f + 1, g + 1, n, h1, h2 => by
    simp only [liveF]
    split
    · rfl
    · have := hW.lt (n := n) (by omega)
      rw [liveF_eq hW (f := f) (g := g) (by omega) (by omega)]
theorem liveB_zero {l : List SPost} {n : Int} (h : n ≤ 0) : liveB l n = true := liveF_zero h
theorem liveB_pos {l : List SPost} (hW : Wf l) {n : Int} (h : 1 ≤ n) : liveB l n = (!goneB l n && liveB l (supNo l (entL l n))) := by
  have := hW.lt h
  rw [liveB, show n.toNat = (n.toNat - 1) + 1 by omega, liveF, if_neg (by omega), liveB]
  rw [liveF_eq hW (f := n.toNat - 1) (g := (supNo l (entL l n)).toNat) (by omega) (by omega)]
theorem entry_ret (l : List SPost) (n : Int) (h1 : 1 ≤ n) (h2 : n ≤ l.length) (hl : l.length ≤ 400) : Ret Tryz.prog .shared 109 [.dref (eBook l) 0, I n] (.agg (ePost (entL l n))) := by
  have he := entL_at h1 h2
  have hw : IntKind.wrap .i64 (n - 1) = n - 1 := wrap_i64 (by omega) (by omega)
  refine Ret.of_pwp layOk mixed Go.Proofs.Tryz.func109 rfl (by decide) rfl rfl ?_
  repeat (refine stp rfl ?_ ?_;·repeat' constructor)
  rw [hw]
  apply qst;exact rfl;exact rfl;exact q_idxm rfl rfl rfl rfl rfl (by omega) he rfl
  repeat (refine stp rfl ?_ ?_;·repeat' constructor)
  exact endc rfl rfl rfl rfl (by repeat' constructor) rfl
theorem has_ret (l : List SPost) (n : Int) : Ret Tryz.prog .shared 106 [.dref (eBook l) 0, I n] (.bool (inside n 1 l.length)) := by
  have h1 := between_ret n 1 l.length
  have hll : ((l.map ePost).length : Int) = l.length := by simp
  refine Ret.of_pwp layOk mixed Go.Proofs.Tryz.func106 rfl (by decide) rfl rfl ?_
  repeat (refine stp rfl ?_ ?_;·repeat' constructor)
  rw [hll]
  apply qst;exact rfl;exact rfl;exact q_callP rfl (h1) rfl (by repeat' constructor) rfl rfl
  repeat (refine stp rfl ?_ ?_;·repeat' constructor)
  exact end1b rfl rfl rfl
theorem support_ret (l : List SPost) (p : SPost) : Ret Tryz.prog .shared 144 [.dref (eBook l) 0, .agg (ePost p)] (I (supNo l p)) := by
  have ho := (ordR_at l p.order).1
  have hi := (itmR_at l p.order p.item).1
  have L1 : (p.op = 1 ∨ p.op = 6 ∨ p.op = 7) → supNo l p = ordNo l p.order := fun h => by rw [supNo, if_pos h]
  have L2 : (p.op = 2 ∨ p.op = 3) → supNo l p = itmNo l p.order p.item := fun h => by rw [supNo, if_neg (by omega), if_pos h]
  have L3 : (p.op = 4 ∨ p.op = 5) → supNo l p = p.ref := fun h => by rw [supNo, if_neg (by omega), if_neg (by omega), if_pos h]
  have L4 : ¬ (p.op = 1 ∨ p.op = 6 ∨ p.op = 7) → ¬ (p.op = 2 ∨ p.op = 3) → ¬ (p.op = 4 ∨ p.op = 5) → supNo l p = 0 := fun h1 h2 h3 => by rw [supNo, if_neg h1, if_neg h2, if_neg h3]
  by_cases h1 : p.op = 1 ∨ p.op = 6 ∨ p.op = 7
  · have hr := L1 h1
    clear L1 L2 L3 L4
    rcases h1 with h1 | h1 | h1 <;>
    · refine Ret.of_pwp layOk mixed Go.Proofs.Tryz.func144 rfl (by decide) rfl rfl ?_
      repeat (first|(refine stp rfl ?_ ?_;·repeat' constructor)|(refine pw_cond rfl (fun hA => absurd hA (by intro hA; simp only [decide_eq_true_eq, decide_eq_false_iff_not, Bool.not_eq_true', Bool.not_eq_false'] at hA; omega)) (fun _ => ?_))|(refine pw_cond rfl (fun _ => ?_) (fun hA => absurd hA (by intro hA; simp only [decide_eq_true_eq, decide_eq_false_iff_not, Bool.not_eq_true', Bool.not_eq_false'] at hA; omega))))
      refine pw_draw 8 [11, 12, 13, 14, 15, 16, 17, 4] (by decide +kernel) ?_
      repeat (refine stp rfl ?_ ?_;·repeat' constructor)
      apply qst;exact rfl;exact rfl;exact q_lookV none ho (ordR_keyed l) zone3 rfl rfl rfl rfl rfl rfl rfl rfl rfl
      repeat (refine stp rfl ?_ ?_;·repeat' constructor)
      exact end1i rfl rfl (by rw [hr])
  by_cases h2 : p.op = 2 ∨ p.op = 3
  · have hr := L2 h2
    clear L1 L2 L3 L4 h1
    rcases h2 with h1 | h1 <;>
    · refine Ret.of_pwp layOk mixed Go.Proofs.Tryz.func144 rfl (by decide) rfl rfl ?_
      repeat (first|(refine stp rfl ?_ ?_;·repeat' constructor)|(refine pw_cond rfl (fun hA => absurd hA (by intro hA; simp only [decide_eq_true_eq, decide_eq_false_iff_not, Bool.not_eq_true', Bool.not_eq_false'] at hA; omega)) (fun _ => ?_))|(refine pw_cond rfl (fun _ => ?_) (fun hA => absurd hA (by intro hA; simp only [decide_eq_true_eq, decide_eq_false_iff_not, Bool.not_eq_true', Bool.not_eq_false'] at hA; omega))))
      refine pw_draw 11 [21, 22, 23, 24, 25, 26, 27, 28, 29, 30, 4] (by decide +kernel) ?_
      repeat (refine stp rfl ?_ ?_;·repeat' constructor)
      apply qst;exact rfl;exact rfl;exact q_lookV (some [.str, .str]) hi (itmR_keyed l _) zone3 good72 rfl rfl rfl rfl rfl rfl rfl rfl
      repeat (refine stp rfl ?_ ?_;·repeat' constructor)
      exact end1i rfl rfl (by rw [hr])
  by_cases h3 : p.op = 4 ∨ p.op = 5
  · have hr := L3 h3
    clear L1 L2 L3 L4 h1 h2
    rcases h3 with h1 | h1 <;>
    · refine Ret.of_pwp layOk mixed Go.Proofs.Tryz.func144 rfl (by decide) rfl rfl ?_
      repeat (first|(refine stp rfl ?_ ?_;·repeat' constructor)|(refine pw_cond rfl (fun hA => absurd hA (by intro hA; simp only [decide_eq_true_eq, decide_eq_false_iff_not, Bool.not_eq_true', Bool.not_eq_false'] at hA; omega)) (fun _ => ?_))|(refine pw_cond rfl (fun _ => ?_) (fun hA => absurd hA (by intro hA; simp only [decide_eq_true_eq, decide_eq_false_iff_not, Bool.not_eq_true', Bool.not_eq_false'] at hA; omega))))
      exact end1i rfl rfl (by rw [hr])
  · have hr := L4 h1 h2 h3
    clear L1 L2 L3 L4
    refine Ret.of_pwp layOk mixed Go.Proofs.Tryz.func144 rfl (by decide) rfl rfl ?_
    repeat (first|(refine stp rfl ?_ ?_;·repeat' constructor)|(refine pw_cond rfl (fun hA => absurd hA (by intro hA; simp only [decide_eq_true_eq, decide_eq_false_iff_not, Bool.not_eq_true', Bool.not_eq_false'] at hA; omega)) (fun _ => ?_))|(refine pw_cond rfl (fun _ => ?_) (fun hA => absurd hA (by intro hA; simp only [decide_eq_true_eq, decide_eq_false_iff_not, Bool.not_eq_true', Bool.not_eq_false'] at hA; omega))))
    exact end1i rfl rfl (by rw [hr])
end Go.Pv


set_option maxHeartbeats 2000000
namespace Go.Pv
attribute [local irreducible] PWP POps PQuiet PSem XThen XBlock RetPost InlPost
open Go.Proofs
theorem live_ret (l : List SPost) (hW : Wf l) (n : Int) (hn : n ≤ l.length) : Ret Tryz.prog .shared 107 [.dref (eBook l) 0, I n] (.bool (liveB l n)) := by
  have hlen := hW.len
  refine Ret.of_pwp layOk mixed Go.Proofs.Tryz.func107 rfl (by decide) rfl rfl ?_
  repeat (refine stp rfl ?_ ?_;·repeat' constructor)
  refine pw_loop (fun m : Int => m ≤ l.length ∧ liveB l m = liveB l n) (fun m => [(0, .dref (eBook l) 0), (1, I m)]) (fun _ => []) (fun m => m.toNat) n ⟨hn, rfl⟩ ⟨rfl, rfl, trivial⟩ ?_
  intro m s hm
  repeat (refine stp rfl ?_ ?_;·repeat' constructor)
  refine pw_cond rfl (fun h => ?_) (fun h => ?_)
  · have hp : 1 ≤ m := by have := of_decide_eq_true h; omega
    clear h
    have hg := (gonR_at l m).1
    have he := entry_ret l m hp hm.1 hlen
    have hs := support_ret l (entL l m)
    have hlt := hW.lt hp
    have hlv := liveB_pos hW hp
    generalize hgb : goneB l m = gb at hg hlv
    repeat (refine stp rfl ?_ ?_;·repeat' constructor)
    apply qst;exact rfl;exact rfl;exact q_lookV none hg (gonR_keyed l) zone4 rfl rfl rfl rfl rfl rfl rfl rfl rfl
    cases gb with
    | true =>
      repeat (refine stp rfl ?_ ?_;·repeat' constructor)
      exact end1b rfl rfl (by rw [← hm.2, hlv]; rfl)
    | false =>
      repeat (refine stp rfl ?_ ?_;·repeat' constructor)
      apply qst;exact rfl;exact rfl;exact q_call rfl (he) rfl (by repeat' constructor) rfl
      repeat (refine stp rfl ?_ ?_;·repeat' constructor)
      apply qst;exact rfl;exact rfl;exact q_callP rfl (hs) rfl (by repeat' constructor) rfl rfl
      repeat (refine stp rfl ?_ ?_;·repeat' constructor)
      exact ⟨supNo l (entL l m), ⟨by omega, by rw [← hm.2, hlv]; simp⟩, by omega, rfl, rfl, trivial⟩
  · have hz : m ≤ 0 := by have := of_decide_eq_false h; omega
    repeat (refine stp rfl ?_ ?_;·repeat' constructor)
    exact end1b rfl rfl (by rw [← hm.2, liveB_zero hz])
def standE (l : List SPost) (n : Int) : Int := if n = 0 then 6 else if liveB l n = true then 0 else 27
theorem standing_ret (l : List SPost) (hW : Wf l) (n : Int) (hn : n ≤ l.length) : Ret Tryz.prog .shared 143 [.dref (eBook l) 0, I n] (I (standE l n)) := by
  have hv := live_ret l hW n hn
  rw [standE]
  refine Ret.of_pwp layOk mixed Go.Proofs.Tryz.func143 rfl (by decide) rfl rfl ?_
  repeat (refine stp rfl ?_ ?_;·repeat' constructor)
  refine pw_cond rfl (fun h => ?_) (fun h => ?_)
  · have h0 := of_decide_eq_true h
    repeat (first|(refine stp rfl ?_ ?_;·repeat' constructor)|(refine pw_cond rfl (fun hA => absurd hA (by intro hA; simp only [decide_eq_true_eq, decide_eq_false_iff_not, Bool.not_eq_true', Bool.not_eq_false'] at hA; omega)) (fun _ => ?_))|(refine pw_cond rfl (fun _ => ?_) (fun hA => absurd hA (by intro hA; simp only [decide_eq_true_eq, decide_eq_false_iff_not, Bool.not_eq_true', Bool.not_eq_false'] at hA; omega))))
    exact end1i rfl rfl (by rw [if_pos h0])
  have h0 := of_decide_eq_false h
  rw [if_neg h0]
  generalize liveB l n = b at hv
  cases b with
  | true =>
    repeat (refine stp rfl ?_ ?_;·repeat' constructor)
    apply qst;exact rfl;exact rfl;exact q_callP rfl (hv) rfl (by repeat' constructor) rfl rfl
    repeat (refine stp rfl ?_ ?_;·repeat' constructor)
    exact end1i rfl rfl rfl
  | false =>
    repeat (refine stp rfl ?_ ?_;·repeat' constructor)
    apply qst;exact rfl;exact rfl;exact q_callP rfl (hv) rfl (by repeat' constructor) rfl rfl
    repeat (refine stp rfl ?_ ?_;·repeat' constructor)
    exact end1i rfl rfl rfl
def aimE (l : List SPost) (n : Int) (ks : List Int) : Int := if inside n 1 l.length = false then 6 else if ks.any (· == (entL l n).op) = false then 3 else standE l n
theorem aimed_ret (l : List SPost) (hW : Wf l) (n : Int) (ks : List Int) (hk : ks.length ≤ 1000000) : Ret Tryz.prog .shared 108 [.dref (eBook l) 0, I n, .sl (ks.map eI)] (I (aimE l n ks)) := by
  have h1 := has_ret l n
  rw [aimE]
  cases hi : inside n 1 l.length with
  | false =>
    rw [hi] at h1
    refine Ret.of_pwp layOk mixed Go.Proofs.Tryz.func108 rfl (by decide) rfl rfl ?_
    repeat (refine stp rfl ?_ ?_;·repeat' constructor)
    apply qst;exact rfl;exact rfl;exact q_callP rfl (h1) rfl (by repeat' constructor) rfl rfl
    repeat (refine stp rfl ?_ ?_;·repeat' constructor)
    exact end1i rfl rfl rfl
  | true =>
  rw [hi] at h1
  have hb : 1 ≤ n ∧ n ≤ l.length := by simpa [inside] using hi
  have he := entry_ret l n hb.1 hb.2 hW.len
  have hc := contains_ret ks (entL l n).op hk
  have hs := standing_ret l hW n hb.2
  rw [if_neg (by simp)]
  generalize hcb : ks.any (· == (entL l n).op) = c at hc
  cases c with
  | false =>
    refine Ret.of_pwp layOk mixed Go.Proofs.Tryz.func108 rfl (by decide) rfl rfl ?_
    repeat (refine stp rfl ?_ ?_;·repeat' constructor)
    apply qst;exact rfl;exact rfl;exact q_callP rfl (h1) rfl (by repeat' constructor) rfl rfl
    repeat (refine stp rfl ?_ ?_;·repeat' constructor)
    apply qst;exact rfl;exact rfl;exact q_call rfl (he) rfl (by repeat' constructor) rfl
    repeat (refine stp rfl ?_ ?_;·repeat' constructor)
    apply qst;exact rfl;exact rfl;exact q_callP rfl (hc) rfl (by repeat' constructor) rfl rfl
    repeat (refine stp rfl ?_ ?_;·repeat' constructor)
    exact end1i rfl rfl rfl
  | true =>
    refine Ret.of_pwp layOk mixed Go.Proofs.Tryz.func108 rfl (by decide) rfl rfl ?_
    repeat (refine stp rfl ?_ ?_;·repeat' constructor)
    apply qst;exact rfl;exact rfl;exact q_callP rfl (h1) rfl (by repeat' constructor) rfl rfl
    repeat (refine stp rfl ?_ ?_;·repeat' constructor)
    apply qst;exact rfl;exact rfl;exact q_call rfl (he) rfl (by repeat' constructor) rfl
    repeat (refine stp rfl ?_ ?_;·repeat' constructor)
    apply qst;exact rfl;exact rfl;exact q_callP rfl (hc) rfl (by repeat' constructor) rfl rfl
    repeat (refine stp rfl ?_ ?_;·repeat' constructor)
    apply qst;exact rfl;exact rfl;exact q_callP rfl (hs) rfl (by repeat' constructor) rfl rfl
    repeat (refine stp rfl ?_ ?_;·repeat' constructor)
    exact end1i rfl rfl rfl
end Go.Pv


set_option maxHeartbeats 2000000
namespace Go.Pv
attribute [local irreducible] PWP POps PQuiet PSem XThen XBlock RetPost InlPost
open Go.Proofs
def refE (l : List SPost) (p : SPost) : Int :=
  if p.op = 0 then (if 0 < ordNo l p.order then 5 else 0)
  else if p.op = 1 then (if standE l (ordNo l p.order) = 0 then (if 0 < itmNo l p.order p.item then 5 else 0) else standE l (ordNo l p.order))
  else if p.op = 4 then (if aimE l p.ref [2, 3] = 0 then (if (entL l p.ref).op = 3 ∧ (entL l p.ref).who = p.who then 26 else 0) else aimE l p.ref [2, 3])
  else if p.op = 5 then (if aimE l p.ref [1, 2, 3] = 0 then (if ¬ (entL l p.ref).op = 2 ∧ p.amount < 0 then 2 else 0) else aimE l p.ref [1, 2, 3])
  else if p.op = 8 then aimE l p.ref [0, 1, 2, 3, 4, 5, 6, 7]
  else standE l (supNo l p)
theorem ordNo_le (l : List SPost) (nm : Str) : 0 ≤ ordNo l nm ∧ ordNo l nm ≤ l.length := by
  have := idx_bounds l fun p => decide (p.op = 0) && decide (p.order = nm)
  rw [ordNo]; omega
theorem itmNo_le (l : List SPost) (o nm : Str) : 0 ≤ itmNo l o nm ∧ itmNo l o nm ≤ l.length := by
  have := idx_bounds l fun p => decide (p.op = 1) && decide (p.order = o) && decide (p.item = nm)
  rw [itmNo]; omega
theorem aimE_zero {l : List SPost} {n : Int} {ks : List Int} (h : aimE l n ks = 0) : 1 ≤ n ∧ n ≤ l.length := by
  rw [aimE] at h
  split at h
  · omega
  · rename_i h'; simpa [inside] using h'
theorem refused_ret (l : List SPost) (hW : Wf l) (p : SPost) : Ret Tryz.prog .shared 102 [.dref (eBook l) 0, .agg (ePost p)] (I (refE l p)) := by
  have ho := (ordR_at l p.order).1
  have hi := (itmR_at l p.order p.item).1
  have hob := ordNo_le l p.order
  rw [refE]
  by_cases h0 : p.op = 0
  · rw [if_pos h0]
    refine Ret.of_pwp layOk mixed Go.Proofs.Tryz.func102 rfl (by decide) rfl rfl ?_
    repeat (first|(refine stp rfl ?_ ?_;·repeat' constructor)|(refine pw_cond rfl (fun hA => absurd hA (by intro hA; simp only [decide_eq_true_eq, decide_eq_false_iff_not, Bool.not_eq_true', Bool.not_eq_false'] at hA; omega)) (fun _ => ?_))|(refine pw_cond rfl (fun _ => ?_) (fun hA => absurd hA (by intro hA; simp only [decide_eq_true_eq, decide_eq_false_iff_not, Bool.not_eq_true', Bool.not_eq_false'] at hA; omega))))
    refine pw_draw 8 [13, 14, 15, 16, 17, 18, 19, 20] (by decide +kernel) ?_
    repeat (refine stp rfl ?_ ?_;·repeat' constructor)
    apply qst;exact rfl;exact rfl;exact q_lookV none ho (ordR_keyed l) zone3 rfl rfl rfl rfl rfl rfl rfl rfl rfl
    repeat (refine stp rfl ?_ ?_;·repeat' constructor)
    refine pw_cond rfl (fun h => ?_) (fun h => ?_)
    · have := of_decide_eq_true h
      repeat (refine stp rfl ?_ ?_;·repeat' constructor)
      exact end1i rfl rfl (by rw [if_pos this])
    · have := of_decide_eq_false h
      repeat (refine stp rfl ?_ ?_;·repeat' constructor)
      exact end1i rfl rfl (by rw [if_neg this])
  rw [if_neg h0]
  by_cases h1 : p.op = 1
  · rw [if_pos h1]
    have hs := standing_ret l hW _ hob.2
    clear h0
    refine Ret.of_pwp layOk mixed Go.Proofs.Tryz.func102 rfl (by decide) rfl rfl ?_
    repeat (first|(refine stp rfl ?_ ?_;·repeat' constructor)|(refine pw_cond rfl (fun hA => absurd hA (by intro hA; simp only [decide_eq_true_eq, decide_eq_false_iff_not, Bool.not_eq_true', Bool.not_eq_false'] at hA; omega)) (fun _ => ?_))|(refine pw_cond rfl (fun _ => ?_) (fun hA => absurd hA (by intro hA; simp only [decide_eq_true_eq, decide_eq_false_iff_not, Bool.not_eq_true', Bool.not_eq_false'] at hA; omega))))
    refine pw_draw 10 [23, 24, 25, 26, 27, 28, 29, 30, 31, 5] (by decide +kernel) ?_
    repeat (refine stp rfl ?_ ?_;·repeat' constructor)
    apply qst;exact rfl;exact rfl;exact q_lookV none ho (ordR_keyed l) zone3 rfl rfl rfl rfl rfl rfl rfl rfl rfl
    repeat (refine stp rfl ?_ ?_;·repeat' constructor)
    apply qst;exact rfl;exact rfl;exact q_callP rfl (hs) rfl (by repeat' constructor) rfl rfl
    repeat (refine stp rfl ?_ ?_;·repeat' constructor)
    refine pw_cond rfl (fun h => ?_) (fun h => ?_)
    · have he : ¬ standE l (ordNo l p.order) = 0 := by simpa using h
      repeat (refine stp rfl ?_ ?_;·repeat' constructor)
      exact end1i rfl rfl (by rw [if_neg he])
    have he : standE l (ordNo l p.order) = 0 := by simpa using h
    rw [if_pos he]
    clear h
    repeat (refine stp rfl ?_ ?_;·repeat' constructor)
    refine pw_draw 11 [35, 36, 37, 38, 39, 40, 41, 42, 43, 44, 45] (by decide +kernel) ?_
    repeat (refine stp rfl ?_ ?_;·repeat' constructor)
    apply qst;exact rfl;exact rfl;exact q_lookV (some [.str, .str]) hi (itmR_keyed l _) zone3 good72 rfl rfl rfl rfl rfl rfl rfl rfl
    repeat (refine stp rfl ?_ ?_;·repeat' constructor)
    refine pw_cond rfl (fun h => ?_) (fun h => ?_)
    · have := of_decide_eq_true h
      repeat (refine stp rfl ?_ ?_;·repeat' constructor)
      exact end1i rfl rfl (by rw [if_pos this])
    · have := of_decide_eq_false h
      repeat (refine stp rfl ?_ ?_;·repeat' constructor)
      exact end1i rfl rfl (by rw [if_neg this])
  rw [if_neg h1]
  by_cases h4 : p.op = 4
  · rw [if_pos h4]
    have ha := aimed_ret l hW p.ref [2, 3] (by decide)
    have hz := fun h => aimE_zero (l := l) (n := p.ref) (ks := [2, 3]) h
    clear h0 h1
    refine Ret.of_pwp layOk mixed Go.Proofs.Tryz.func102 rfl (by decide) rfl rfl ?_
    repeat (first|(refine stp rfl ?_ ?_;·repeat' constructor)|(refine pw_cond rfl (fun hA => absurd hA (by intro hA; simp only [decide_eq_true_eq, decide_eq_false_iff_not, Bool.not_eq_true', Bool.not_eq_false'] at hA; omega)) (fun _ => ?_))|(refine pw_cond rfl (fun _ => ?_) (fun hA => absurd hA (by intro hA; simp only [decide_eq_true_eq, decide_eq_false_iff_not, Bool.not_eq_true', Bool.not_eq_false'] at hA; omega))))
    apply qst;exact rfl;exact rfl;exact q_slit rfl rfl rfl rfl rfl rfl rfl rfl rfl rfl (by repeat' constructor) rfl
    repeat (refine stp rfl ?_ ?_;·repeat' constructor)
    apply qst;exact rfl;exact rfl;exact q_callP rfl (ha) rfl (by repeat' constructor) rfl rfl
    repeat (refine stp rfl ?_ ?_;·repeat' constructor)
    refine pw_cond rfl (fun h => ?_) (fun h => ?_)
    · have he : ¬ aimE l p.ref [2, 3] = 0 := by simpa using h
      repeat (refine stp rfl ?_ ?_;·repeat' constructor)
      exact end1i rfl rfl (by rw [if_neg he])
    have he : aimE l p.ref [2, 3] = 0 := by simpa using h
    rw [if_pos he]
    clear h
    have hb := hz he
    have hen := entry_ret l p.ref hb.1 hb.2 hW.len
    repeat (refine stp rfl ?_ ?_;·repeat' constructor)
    apply qst;exact rfl;exact rfl;exact q_call rfl (hen) rfl (by repeat' constructor) rfl
    repeat (refine stp rfl ?_ ?_;·repeat' constructor)
    (first | refine ps_split rfl rfl (fun h => ?_) (fun h => ?_) | refine pq_split rfl rfl (fun h => ?_) (fun h => ?_) | refine p3_split rfl rfl (fun h => ?_) (fun h => ?_))
    · have g1 := of_decide_eq_true h
      repeat (refine stp rfl ?_ ?_;·repeat' constructor)
      refine pw_cond rfl (fun h => ?_) (fun h => ?_)
      · have g2 := of_decide_eq_true h
        repeat (refine stp rfl ?_ ?_;·repeat' constructor)
        exact end1i rfl rfl (by rw [if_pos ⟨g1, g2⟩])
      · have g2 := of_decide_eq_false h
        repeat (refine stp rfl ?_ ?_;·repeat' constructor)
        exact end1i rfl rfl (by rw [if_neg (fun h => g2 h.2)])
    · have g1 : ¬ (entL l p.ref).op = 3 := by simpa using h
      repeat (refine stp rfl ?_ ?_;·repeat' constructor)
      exact end1i rfl rfl (by rw [if_neg (fun h => g1 h.1)])
  rw [if_neg h4]
  by_cases h5 : p.op = 5
  · rw [if_pos h5]
    have ha := aimed_ret l hW p.ref [1, 2, 3] (by decide)
    have hz := fun h => aimE_zero (l := l) (n := p.ref) (ks := [1, 2, 3]) h
    clear h0 h1 h4
    refine Ret.of_pwp layOk mixed Go.Proofs.Tryz.func102 rfl (by decide) rfl rfl ?_
    repeat (first|(refine stp rfl ?_ ?_;·repeat' constructor)|(refine pw_cond rfl (fun hA => absurd hA (by intro hA; simp only [decide_eq_true_eq, decide_eq_false_iff_not, Bool.not_eq_true', Bool.not_eq_false'] at hA; omega)) (fun _ => ?_))|(refine pw_cond rfl (fun _ => ?_) (fun hA => absurd hA (by intro hA; simp only [decide_eq_true_eq, decide_eq_false_iff_not, Bool.not_eq_true', Bool.not_eq_false'] at hA; omega))))
    apply qst;exact rfl;exact rfl;exact q_slit rfl rfl rfl rfl rfl rfl rfl rfl rfl rfl (by repeat' constructor) rfl
    repeat (refine stp rfl ?_ ?_;·repeat' constructor)
    apply qst;exact rfl;exact rfl;exact q_callP rfl (ha) rfl (by repeat' constructor) rfl rfl
    repeat (refine stp rfl ?_ ?_;·repeat' constructor)
    refine pw_cond rfl (fun h => ?_) (fun h => ?_)
    · have he : ¬ aimE l p.ref [1, 2, 3] = 0 := by simpa using h
      repeat (refine stp rfl ?_ ?_;·repeat' constructor)
      exact end1i rfl rfl (by rw [if_neg he])
    have he : aimE l p.ref [1, 2, 3] = 0 := by simpa using h
    rw [if_pos he]
    clear h
    have hb := hz he
    have hen := entry_ret l p.ref hb.1 hb.2 hW.len
    repeat (refine stp rfl ?_ ?_;·repeat' constructor)
    apply qst;exact rfl;exact rfl;exact q_call rfl (hen) rfl (by repeat' constructor) rfl
    repeat (refine stp rfl ?_ ?_;·repeat' constructor)
    (first | refine ps_split rfl rfl (fun h => ?_) (fun h => ?_) | refine pq_split rfl rfl (fun h => ?_) (fun h => ?_) | refine p3_split rfl rfl (fun h => ?_) (fun h => ?_))
    · have g1 : ¬ (entL l p.ref).op = 2 := by simpa using h
      repeat (refine stp rfl ?_ ?_;·repeat' constructor)
      refine pw_cond rfl (fun h => ?_) (fun h => ?_)
      · have g2 := of_decide_eq_true h
        repeat (refine stp rfl ?_ ?_;·repeat' constructor)
        exact end1i rfl rfl (by rw [if_pos ⟨g1, g2⟩])
      · have g2 := of_decide_eq_false h
        repeat (refine stp rfl ?_ ?_;·repeat' constructor)
        exact end1i rfl rfl (by rw [if_neg (fun h => g2 h.2)])
    · have g1 : (entL l p.ref).op = 2 := by simpa using h
      repeat (refine stp rfl ?_ ?_;·repeat' constructor)
      exact end1i rfl rfl (by rw [if_neg (fun h => h.1 g1)])
  rw [if_neg h5]
  by_cases h8 : p.op = 8
  · rw [if_pos h8]
    have ha := aimed_ret l hW p.ref [0, 1, 2, 3, 4, 5, 6, 7] (by decide)
    clear h0 h1 h4 h5
    refine Ret.of_pwp layOk mixed Go.Proofs.Tryz.func102 rfl (by decide) rfl rfl ?_
    repeat (first|(refine stp rfl ?_ ?_;·repeat' constructor)|(refine pw_cond rfl (fun hA => absurd hA (by intro hA; simp only [decide_eq_true_eq, decide_eq_false_iff_not, Bool.not_eq_true', Bool.not_eq_false'] at hA; omega)) (fun _ => ?_))|(refine pw_cond rfl (fun _ => ?_) (fun hA => absurd hA (by intro hA; simp only [decide_eq_true_eq, decide_eq_false_iff_not, Bool.not_eq_true', Bool.not_eq_false'] at hA; omega))))
    apply qst;exact rfl;exact rfl;exact q_slit rfl rfl rfl rfl rfl rfl rfl rfl rfl rfl (by repeat' constructor) rfl
    repeat (refine stp rfl ?_ ?_;·repeat' constructor)
    apply qst;exact rfl;exact rfl;exact q_callP rfl (ha) rfl (by repeat' constructor) rfl rfl
    repeat (refine stp rfl ?_ ?_;·repeat' constructor)
    exact end1i rfl rfl rfl
  rw [if_neg h8]
  have hsl : supNo l p ≤ l.length := by
    rw [supNo]
    have := itmNo_le l p.order p.item
    split
    · omega
    · split
      · omega
      · rw [if_neg (by omega)]; omega
  have hs := standing_ret l hW _ hsl
  have hsu := support_ret l p
  refine Ret.of_pwp layOk mixed Go.Proofs.Tryz.func102 rfl (by decide) rfl rfl ?_
  repeat (first|(refine stp rfl ?_ ?_;·repeat' constructor)|(refine pw_cond rfl (fun hA => absurd hA (by intro hA; simp only [decide_eq_true_eq, decide_eq_false_iff_not, Bool.not_eq_true', Bool.not_eq_false'] at hA; omega)) (fun _ => ?_))|(refine pw_cond rfl (fun _ => ?_) (fun hA => absurd hA (by intro hA; simp only [decide_eq_true_eq, decide_eq_false_iff_not, Bool.not_eq_true', Bool.not_eq_false'] at hA; omega))))
  apply qst;exact rfl;exact rfl;exact q_callP rfl (hsu) rfl (by repeat' constructor) rfl rfl
  repeat (refine stp rfl ?_ ?_;·repeat' constructor)
  apply qst;exact rfl;exact rfl;exact q_callP rfl (hs) rfl (by repeat' constructor) rfl rfl
  repeat (refine stp rfl ?_ ?_;·repeat' constructor)
  exact end1i rfl rfl rfl
end Go.Pv


set_option maxHeartbeats 2000000
namespace Go.Pv
attribute [local irreducible] PWP POps PQuiet PSem XThen XBlock RetPost InlPost
open Go.Proofs
theorem order_ref (l : List SPost) (nm : Str) (hl : l.length ≤ 400) : Ret Tryz.prog .shared 121 [.sl (l.map ePost), .str nm] (I (ordNo l nm)) := by
  have hll : ((l.map ePost).length : Int) = l.length := by simp
  refine Ret.of_pwp layOk mixed Go.Proofs.Tryz.func121 rfl (by decide) rfl rfl ?_
  repeat (refine stp rfl ?_ ?_;·repeat' constructor)
  refine pw_loop (Clear l fun p => decide (p.op = 0) && decide (p.order = nm)) (fun k => [(0, .sl (l.map ePost)), (1, .str nm), (5, I k)]) (fun _ => []) (fun k => l.length - k) 0 .zero ⟨rfl, rfl, rfl, trivial⟩ ?_
  intro k s hk
  repeat (refine stp rfl ?_ ?_;·repeat' constructor)
  refine pw_cond rfl (fun h => ?_) (fun h => ?_)
  · have hlt : k < l.length := by simpa using h
    clear h
    obtain ⟨x, hx⟩ := get_lt hlt
    repeat (refine stp rfl ?_ ?_;·repeat' constructor)
    apply qst;exact rfl;exact rfl;exact q_idxm rfl rfl rfl rfl rfl (by omega) hx rfl
    repeat (refine stp rfl ?_ ?_;·repeat' constructor)
    (first | refine ps_split rfl rfl (fun h => ?_) (fun h => ?_) | refine pq_split rfl rfl (fun h => ?_) (fun h => ?_) | refine p3_split rfl rfl (fun h => ?_) (fun h => ?_))
    · have g1 := of_decide_eq_true h
      repeat (refine stp rfl ?_ ?_;·repeat' constructor)
      apply qst;exact rfl;exact rfl;exact q_idxm rfl rfl rfl rfl rfl (by omega) hx rfl
      repeat (refine stp rfl ?_ ?_;·repeat' constructor)
      refine pw_cond rfl (fun h => ?_) (fun h => ?_)
      · have g2 := of_decide_eq_true h
        repeat (refine stp rfl ?_ ?_;·repeat' constructor)
        exact end1i rfl rfl (by rw [wrap_i64 (by omega) (by omega), ordNo, hk.found hx (by simp [g1, g2])])
      · have g2 := of_decide_eq_false h
        repeat (refine stp rfl ?_ ?_;·repeat' constructor)
        refine ⟨k + 1, hk.succ hx (by simp [g2]), by omega, rfl, rfl, ?_, trivial⟩
        exact i64_next (by omega) (by omega)
    · have g1 := of_decide_eq_false h
      repeat (refine stp rfl ?_ ?_;·repeat' constructor)
      refine ⟨k + 1, hk.succ hx (by simp [g1]), by omega, rfl, rfl, ?_, trivial⟩
      exact i64_next (by omega) (by omega)
  · repeat (refine stp rfl ?_ ?_;·repeat' constructor)
    exact end1i rfl rfl (by rw [ordNo, hk.none (by simpa using h)]; rfl)
theorem item_ref (l : List SPost) (o nm : Str) (hl : l.length ≤ 400) : Ret Tryz.prog .shared 123 [.sl (l.map ePost), .str o, .str nm] (I (itmNo l o nm)) := by
  have hll : ((l.map ePost).length : Int) = l.length := by simp
  refine Ret.of_pwp layOk mixed Go.Proofs.Tryz.func123 rfl (by decide) rfl rfl ?_
  repeat (refine stp rfl ?_ ?_;·repeat' constructor)
  refine pw_loop (Clear l fun p => decide (p.op = 1) && decide (p.order = o) && decide (p.item = nm)) (fun k => [(0, .sl (l.map ePost)), (1, .str o), (2, .str nm), (7, I k)]) (fun _ => []) (fun k => l.length - k) 0 .zero ⟨rfl, rfl, rfl, rfl, trivial⟩ ?_
  intro k s hk
  repeat (refine stp rfl ?_ ?_;·repeat' constructor)
  refine pw_cond rfl (fun h => ?_) (fun h => ?_)
  · have hlt : k < l.length := by simpa using h
    clear h
    obtain ⟨x, hx⟩ := get_lt hlt
    repeat (refine stp rfl ?_ ?_;·repeat' constructor)
    apply qst;exact rfl;exact rfl;exact q_idxm rfl rfl rfl rfl rfl (by omega) hx rfl
    repeat (refine stp rfl ?_ ?_;·repeat' constructor)
    (first | refine ps_split rfl rfl (fun h => ?_) (fun h => ?_) | refine pq_split rfl rfl (fun h => ?_) (fun h => ?_) | refine p3_split rfl rfl (fun h => ?_) (fun h => ?_))
    · have g1 := of_decide_eq_true h
      clear h
      repeat (refine stp rfl ?_ ?_;·repeat' constructor)
      apply qst;exact rfl;exact rfl;exact q_idxm rfl rfl rfl rfl rfl (by omega) hx rfl
      repeat (refine stp rfl ?_ ?_;·repeat' constructor)
      (first | refine ps_split rfl rfl (fun h => ?_) (fun h => ?_) | refine pq_split rfl rfl (fun h => ?_) (fun h => ?_) | refine p3_split rfl rfl (fun h => ?_) (fun h => ?_))
      · have g2 := of_decide_eq_true h
        repeat (refine stp rfl ?_ ?_;·repeat' constructor)
        apply qst;exact rfl;exact rfl;exact q_idxm rfl rfl rfl rfl rfl (by omega) hx rfl
        repeat (refine stp rfl ?_ ?_;·repeat' constructor)
        refine pw_cond rfl (fun h => ?_) (fun h => ?_)
        · have g3 := of_decide_eq_true h
          repeat (refine stp rfl ?_ ?_;·repeat' constructor)
          exact end1i rfl rfl (by rw [wrap_i64 (by omega) (by omega), itmNo, hk.found hx (by simp [g1, g2, g3])])
        · have g3 := of_decide_eq_false h
          repeat (refine stp rfl ?_ ?_;·repeat' constructor)
          refine ⟨k + 1, hk.succ hx (by simp [g3]), by omega, rfl, rfl, rfl, ?_, trivial⟩
          exact i64_next (by omega) (by omega)
      · have g2 := of_decide_eq_false h
        repeat (refine stp rfl ?_ ?_;·repeat' constructor)
        refine ⟨k + 1, hk.succ hx (by simp [g2]), by omega, rfl, rfl, rfl, ?_, trivial⟩
        exact i64_next (by omega) (by omega)
    · have g1 := of_decide_eq_false h
      repeat (refine stp rfl ?_ ?_;·repeat' constructor)
      refine ⟨k + 1, hk.succ hx (by simp [g1]), by omega, rfl, rfl, rfl, ?_, trivial⟩
      exact i64_next (by omega) (by omega)
  · repeat (refine stp rfl ?_ ?_;·repeat' constructor)
    exact end1i rfl rfl (by rw [itmNo, hk.none (by simpa using h)]; rfl)
theorem base_ref (l : List SPost) (n : Int) (h1 : 1 ≤ n) (h2 : n ≤ l.length) (hl : l.length ≤ 400) : Ret Tryz.prog .shared 140 [.sl (l.map ePost), I n] (I (supNo l (entL l n))) := by
  have he := entL_at h1 h2
  have hw : IntKind.wrap .i64 (n - 1) = n - 1 := wrap_i64 (by omega) (by omega)
  generalize hp : entL l n = p at *
  have ho := order_ref l p.order hl
  have hi := item_ref l p.order p.item hl
  have L1 : (p.op = 1 ∨ p.op = 6 ∨ p.op = 7) → supNo l p = ordNo l p.order := fun h => by rw [supNo, if_pos h]
  have L2 : (p.op = 2 ∨ p.op = 3) → supNo l p = itmNo l p.order p.item := fun h => by rw [supNo, if_neg (by omega), if_pos h]
  have L3 : (p.op = 4 ∨ p.op = 5) → supNo l p = p.ref := fun h => by rw [supNo, if_neg (by omega), if_neg (by omega), if_pos h]
  have L4 : ¬ (p.op = 1 ∨ p.op = 6 ∨ p.op = 7) → ¬ (p.op = 2 ∨ p.op = 3) → ¬ (p.op = 4 ∨ p.op = 5) → supNo l p = 0 := fun h1 h2 h3 => by rw [supNo, if_neg h1, if_neg h2, if_neg h3]
  by_cases c1 : p.op = 1 ∨ p.op = 6 ∨ p.op = 7
  · have hr := L1 c1
    clear L1 L2 L3 L4
    rcases c1 with c1 | c1 | c1 <;>
    · refine Ret.of_pwp layOk mixed Go.Proofs.Tryz.func140 rfl (by decide) rfl rfl ?_
      repeat (refine stp rfl ?_ ?_;·repeat' constructor)
      rw [hw]
      apply qst;exact rfl;exact rfl;exact q_idxm rfl rfl rfl rfl rfl (by omega) he rfl
      repeat (first|(refine stp rfl ?_ ?_;·repeat' constructor)|(refine pw_cond rfl (fun hA => absurd hA (by intro hA; simp only [decide_eq_true_eq, decide_eq_false_iff_not, Bool.not_eq_true', Bool.not_eq_false'] at hA; omega)) (fun _ => ?_))|(refine pw_cond rfl (fun _ => ?_) (fun hA => absurd hA (by intro hA; simp only [decide_eq_true_eq, decide_eq_false_iff_not, Bool.not_eq_true', Bool.not_eq_false'] at hA; omega))))
      apply qst;exact rfl;exact rfl;exact q_callP rfl (ho) rfl (by repeat' constructor) rfl rfl
      repeat (refine stp rfl ?_ ?_;·repeat' constructor)
      exact end1i rfl rfl (by rw [hr])
  by_cases c2 : p.op = 2 ∨ p.op = 3
  · have hr := L2 c2
    clear L1 L2 L3 L4 c1
    rcases c2 with c1 | c1 <;>
    · refine Ret.of_pwp layOk mixed Go.Proofs.Tryz.func140 rfl (by decide) rfl rfl ?_
      repeat (refine stp rfl ?_ ?_;·repeat' constructor)
      rw [hw]
      apply qst;exact rfl;exact rfl;exact q_idxm rfl rfl rfl rfl rfl (by omega) he rfl
      repeat (first|(refine stp rfl ?_ ?_;·repeat' constructor)|(refine pw_cond rfl (fun hA => absurd hA (by intro hA; simp only [decide_eq_true_eq, decide_eq_false_iff_not, Bool.not_eq_true', Bool.not_eq_false'] at hA; omega)) (fun _ => ?_))|(refine pw_cond rfl (fun _ => ?_) (fun hA => absurd hA (by intro hA; simp only [decide_eq_true_eq, decide_eq_false_iff_not, Bool.not_eq_true', Bool.not_eq_false'] at hA; omega))))
      apply qst;exact rfl;exact rfl;exact q_callP rfl (hi) rfl (by repeat' constructor) rfl rfl
      repeat (refine stp rfl ?_ ?_;·repeat' constructor)
      exact end1i rfl rfl (by rw [hr])
  by_cases c3 : p.op = 4 ∨ p.op = 5
  · have hr := L3 c3
    clear L1 L2 L3 L4 c1 c2
    rcases c3 with c1 | c1 <;>
    · refine Ret.of_pwp layOk mixed Go.Proofs.Tryz.func140 rfl (by decide) rfl rfl ?_
      repeat (refine stp rfl ?_ ?_;·repeat' constructor)
      rw [hw]
      apply qst;exact rfl;exact rfl;exact q_idxm rfl rfl rfl rfl rfl (by omega) he rfl
      repeat (first|(refine stp rfl ?_ ?_;·repeat' constructor)|(refine pw_cond rfl (fun hA => absurd hA (by intro hA; simp only [decide_eq_true_eq, decide_eq_false_iff_not, Bool.not_eq_true', Bool.not_eq_false'] at hA; omega)) (fun _ => ?_))|(refine pw_cond rfl (fun _ => ?_) (fun hA => absurd hA (by intro hA; simp only [decide_eq_true_eq, decide_eq_false_iff_not, Bool.not_eq_true', Bool.not_eq_false'] at hA; omega))))
      exact end1i rfl rfl (by rw [hr])
  · have hr := L4 c1 c2 c3
    clear L1 L2 L3 L4
    refine Ret.of_pwp layOk mixed Go.Proofs.Tryz.func140 rfl (by decide) rfl rfl ?_
    repeat (refine stp rfl ?_ ?_;·repeat' constructor)
    rw [hw]
    apply qst;exact rfl;exact rfl;exact q_idxm rfl rfl rfl rfl rfl (by omega) he rfl
    repeat (first|(refine stp rfl ?_ ?_;·repeat' constructor)|(refine pw_cond rfl (fun hA => absurd hA (by intro hA; simp only [decide_eq_true_eq, decide_eq_false_iff_not, Bool.not_eq_true', Bool.not_eq_false'] at hA; omega)) (fun _ => ?_))|(refine pw_cond rfl (fun _ => ?_) (fun hA => absurd hA (by intro hA; simp only [decide_eq_true_eq, decide_eq_false_iff_not, Bool.not_eq_true', Bool.not_eq_false'] at hA; omega))))
    exact end1i rfl rfl (by rw [hr])
theorem goneB_none {l : List SPost} {n : Int} {k : Nat} (h : Clear l (fun p => decide (p.op = 8) && decide (p.ref = n)) k) (hk : ¬ k < l.length) : goneB l n = false := h.any hk
theorem live_ref (l : List SPost) (hW : Wf l) : ∀ (f : Nat) (n : Int), n.toNat ≤ f → 1 ≤ n → n ≤ l.length → Ret Tryz.prog .shared 101 [.sl (l.map ePost), I n] (.bool (liveB l n))
  | 0, n, hf, h1, _ => by omega
  | f + 1, n, hf, h1, h2 => by
    have hl := hW.len
    have hll : ((l.map ePost).length : Int) = l.length := by simp
    have hlt := hW.lt h1
    have hlv := liveB_pos hW h1
    have ih := live_ref l hW f (supNo l (entL l n)) (by omega)
    have hb := base_ref l n h1 h2 hl
    refine Ret.of_pwp layOk mixed Go.Proofs.Tryz.func101 rfl (by decide) rfl rfl ?_
    repeat (refine stp rfl ?_ ?_;·repeat' constructor)
    refine pw_loop (Clear l fun p => decide (p.op = 8) && decide (p.ref = n)) (fun k => [(0, .sl (l.map ePost)), (1, I n), (5, I k)]) (fun _ => []) (fun k => l.length - k) 0 .zero ⟨rfl, rfl, rfl, trivial⟩ ?_
    intro k s hk
    repeat (refine stp rfl ?_ ?_;·repeat' constructor)
    refine pw_cond rfl (fun h => ?_) (fun h => ?_)
    · have hlt : k < l.length := by simpa using h
      clear h
      obtain ⟨x, hx⟩ := get_lt hlt
      repeat (refine stp rfl ?_ ?_;·repeat' constructor)
      apply qst;exact rfl;exact rfl;exact q_idxm rfl rfl rfl rfl rfl (by omega) hx rfl
      repeat (refine stp rfl ?_ ?_;·repeat' constructor)
      (first | refine ps_split rfl rfl (fun h => ?_) (fun h => ?_) | refine pq_split rfl rfl (fun h => ?_) (fun h => ?_) | refine p3_split rfl rfl (fun h => ?_) (fun h => ?_))
      · have g1 := of_decide_eq_true h
        repeat (refine stp rfl ?_ ?_;·repeat' constructor)
        apply qst;exact rfl;exact rfl;exact q_idxm rfl rfl rfl rfl rfl (by omega) hx rfl
        repeat (refine stp rfl ?_ ?_;·repeat' constructor)
        refine pw_cond rfl (fun h => ?_) (fun h => ?_)
        · have g2 := of_decide_eq_true h
          repeat (refine stp rfl ?_ ?_;·repeat' constructor)
          refine end1b rfl rfl ?_
          rw [hlv, goneB, any_of hx (by simp [g1, g2])]
          rfl
        · have g2 := of_decide_eq_false h
          repeat (refine stp rfl ?_ ?_;·repeat' constructor)
          refine ⟨k + 1, hk.succ hx (by simp [g2]), by omega, rfl, rfl, ?_, trivial⟩
          exact i64_next (by omega) (by omega)
      · have g1 := of_decide_eq_false h
        repeat (refine stp rfl ?_ ?_;·repeat' constructor)
        refine ⟨k + 1, hk.succ hx (by simp [g1]), by omega, rfl, rfl, ?_, trivial⟩
        exact i64_next (by omega) (by omega)
    · have hg := goneB_none hk (by simpa using h)
      rw [hg, Bool.not_false, Bool.true_and] at hlv
      rw [hlv]
      repeat (refine stp rfl ?_ ?_;·repeat' constructor)
      apply qst;exact rfl;exact rfl;exact q_callP rfl (hb) rfl (by repeat' constructor) rfl rfl
      repeat (refine stp rfl ?_ ?_;·repeat' constructor)
      generalize supNo l (entL l n) = b at *
      (first | refine ps_split rfl rfl (fun h => ?_) (fun h => ?_) | refine pq_split rfl rfl (fun h => ?_) (fun h => ?_) | refine p3_split rfl rfl (fun h => ?_) (fun h => ?_))
      · have hz := of_decide_eq_true h
        repeat (refine stp rfl ?_ ?_;·repeat' constructor)
        exact end1b rfl rfl (by rw [liveB_zero (by omega)])
      · have hz := of_decide_eq_false h
        have ih := ih (by omega) (by omega)
        repeat (refine stp rfl ?_ ?_;·repeat' constructor)
        apply qst;exact rfl;exact rfl;exact q_callP rfl (ih) rfl (by repeat' constructor) rfl rfl
        repeat (refine stp rfl ?_ ?_;·repeat' constructor)
        exact end1b rfl rfl rfl
theorem of_ref (l : List SPost) (hW : Wf l) (n : Int) (h0 : 0 ≤ n) (h2 : n ≤ l.length) : Ret Tryz.prog .shared 122 [.sl (l.map ePost), I n] (I (standE l n)) := by
  have hv := live_ref l hW n.toNat n (by omega)
  rw [standE]
  refine Ret.of_pwp layOk mixed Go.Proofs.Tryz.func122 rfl (by decide) rfl rfl ?_
  repeat (refine stp rfl ?_ ?_;·repeat' constructor)
  refine pw_cond rfl (fun h => ?_) (fun h => ?_)
  · have h0 := of_decide_eq_true h
    repeat (first|(refine stp rfl ?_ ?_;·repeat' constructor)|(refine pw_cond rfl (fun hA => absurd hA (by intro hA; simp only [decide_eq_true_eq, decide_eq_false_iff_not, Bool.not_eq_true', Bool.not_eq_false'] at hA; omega)) (fun _ => ?_))|(refine pw_cond rfl (fun _ => ?_) (fun hA => absurd hA (by intro hA; simp only [decide_eq_true_eq, decide_eq_false_iff_not, Bool.not_eq_true', Bool.not_eq_false'] at hA; omega))))
    exact end1i rfl rfl (by rw [if_pos h0])
  have hz := of_decide_eq_false h
  rw [if_neg hz]
  have hv := hv (by omega) h2
  generalize liveB l n = b at hv
  cases b with
  | true =>
    repeat (refine stp rfl ?_ ?_;·repeat' constructor)
    apply qst;exact rfl;exact rfl;exact q_callP rfl (hv) rfl (by repeat' constructor) rfl rfl
    repeat (refine stp rfl ?_ ?_;·repeat' constructor)
    exact end1i rfl rfl rfl
  | false =>
    repeat (refine stp rfl ?_ ?_;·repeat' constructor)
    apply qst;exact rfl;exact rfl;exact q_callP rfl (hv) rfl (by repeat' constructor) rfl rfl
    repeat (refine stp rfl ?_ ?_;·repeat' constructor)
    exact end1i rfl rfl rfl
theorem refers_ref (l : List SPost) (hW : Wf l) (n : Int) (h0 : 1 ≤ n) (ks : List Int) (hk : ks.length ≤ 1000000) : Ret Tryz.prog .shared 124 [.sl (l.map ePost), I n, .sl (ks.map eI)] (I (aimE l n ks)) := by
  have hl := hW.len
  have hll : ((l.map ePost).length : Int) = l.length := by simp
  have hkl : ((ks.map eI).length : Int) = ks.length := by simp
  rw [aimE]
  refine Ret.of_pwp layOk mixed Go.Proofs.Tryz.func124 rfl (by decide) rfl rfl ?_
  repeat (refine stp rfl ?_ ?_;·repeat' constructor)
  refine pw_cond rfl (fun h => ?_) (fun h => ?_)
  · have h2 := of_decide_eq_true h
    rw [hll] at h2
    repeat (refine stp rfl ?_ ?_;·repeat' constructor)
    refine end1i rfl rfl ?_
    rw [if_pos]
    simp [inside]; omega
  have h2 : n ≤ l.length := by have := of_decide_eq_false h; omega
  clear h
  rw [if_neg (by simp [inside]; omega)]
  have he := entL_at h0 h2
  have hw : IntKind.wrap .i64 (n - 1) = n - 1 := wrap_i64 (by omega) (by omega)
  have hv := live_ref l hW n.toNat n (by omega) h0 h2
  rw [standE, if_neg (show ¬ n = 0 by omega)]
  repeat (refine stp rfl ?_ ?_;·repeat' constructor)
  refine pw_loop (Clear ks (· == (entL l n).op)) (fun k => [(0, .sl (l.map ePost)), (1, I n), (2, .sl (ks.map eI)), (7, I k)]) (fun _ => []) (fun k => ks.length - k) 0 .zero ⟨rfl, rfl, rfl, rfl, trivial⟩ ?_
  intro k s hc
  repeat (refine stp rfl ?_ ?_;·repeat' constructor)
  refine pw_cond rfl (fun h => ?_) (fun h => ?_)
  · have hlt : k < ks.length := by simpa using h
    clear h
    obtain ⟨x, hx⟩ := get_lt hlt
    repeat (refine stp rfl ?_ ?_;·repeat' constructor)
    refine pw_draw 11 [18, 19, 20, 21, 22, 23, 24, 25, 26, 27, 28] (by decide +kernel) ?_
    repeat (refine stp rfl ?_ ?_;·repeat' constructor)
    rw [hw]
    apply qst;exact rfl;exact rfl;exact q_idxm rfl rfl rfl rfl rfl (by omega) he rfl
    repeat (refine stp rfl ?_ ?_;·repeat' constructor)
    apply qst;exact rfl;exact rfl;exact q_idxm rfl rfl rfl rfl rfl (by omega) hx rfl
    repeat (refine stp rfl ?_ ?_;·repeat' constructor)
    refine pw_cond rfl (fun h => ?_) (fun h => ?_)
    · have g := of_decide_eq_true h
      rw [any_of hx (by simp [g]), if_neg (by simp)]
      generalize liveB l n = b at hv
      cases b with
      | true =>
        repeat (refine stp rfl ?_ ?_;·repeat' constructor)
        apply qst;exact rfl;exact rfl;exact q_callP rfl (hv) rfl (by repeat' constructor) rfl rfl
        repeat (refine stp rfl ?_ ?_;·repeat' constructor)
        exact end1i rfl rfl rfl
      | false =>
        repeat (refine stp rfl ?_ ?_;·repeat' constructor)
        apply qst;exact rfl;exact rfl;exact q_callP rfl (hv) rfl (by repeat' constructor) rfl rfl
        repeat (refine stp rfl ?_ ?_;·repeat' constructor)
        exact end1i rfl rfl rfl
    · have g := of_decide_eq_false h
      repeat (refine stp rfl ?_ ?_;·repeat' constructor)
      refine ⟨k + 1, hc.succ hx (by simp; exact fun e => g e.symm), by omega, rfl, rfl, rfl, ?_, trivial⟩
      exact i64_next (by omega) (by omega)
  · repeat (refine stp rfl ?_ ?_;·repeat' constructor)
    exact end1i rfl rfl (by rw [hc.any (by simpa using h)]; rfl)
end Go.Pv


set_option maxHeartbeats 2000000
namespace Go.Pv
attribute [local irreducible] PWP POps PQuiet PSem XThen XBlock RetPost InlPost RetPostO
open Go.Proofs
inductive Fd where
  | o | i | s | w
  | a (lo hi : Int) | r (lo hi : Int) | l (lo hi : Int)
abbrev nilp : PV := .raw (.pointer none)
def Fd.tm : Fd → List TC
  | .o => [.p 2, .c nilp, .c (I 0), .c (I 0)]
  | .i => [.p 3, .c nilp, .c (I 0), .c (I 0)]
  | .s => [.p 4, .c nilp, .c (I 0), .c (I 0)]
  | .w => [.p 5, .c nilp, .c (I 0), .c (I 0)]
  | .a lo hi => [.c nilp, .p 6, .c (I lo), .c (I hi)]
  | .r lo hi => [.c nilp, .p 7, .c (I lo), .c (I hi)]
  | .l lo hi => [.c nilp, .p 8, .c (I lo), .c (I hi)]
def fdsOf (op : Int) : List Fd :=
  if op = 0 then [.o, .s] else if op = 1 then [.o, .i, .a 0 1000000000] else if op = 2 then [.o, .i, .a (-1000000000) 1000000000] else if op = 3 then [.o, .i, .w, .a 0 1000000000]
  else if op = 4 then [.r 1 400, .w, .l 0 1] else if op = 5 then [.r 1 400, .a (-1000000000) 1000000000] else if op = 6 then [.o] else if op = 7 then [.o, .a 1 1000000000] else [.r 1 400]
theorem text_raw [Globs] (b o : Nat) : Ret Tryz.prog .shared 119 [.raw (.pointer (some ⟨b, o, none⟩))] (.agg [.raw (.pointer (some ⟨b, o, none⟩)), nilp, I 0, I 0]) := by
  refine Ret.of_pwp layOk mixed Go.Proofs.Tryz.func119 rfl (by decide) rfl rfl ?_
  repeat (refine stp rfl ?_ ?_;·repeat' constructor)
  exact endc rfl rfl rfl rfl (by repeat' constructor) rfl
theorem amount_raw [Globs] (b off : Nat) (lo hi : Int) : Ret Tryz.prog .shared 120 [I lo, I hi, .dref [.raw (.pointer (some ⟨b, off, none⟩))] 0] (.agg [nilp, .raw (.pointer (some ⟨b, off + 6, none⟩)), I lo, I hi]) := by
  refine Ret.of_pwp layOk mixed Go.Proofs.Tryz.func120 rfl (by decide) rfl rfl ?_
  repeat (refine stp rfl ?_ ?_;·repeat' constructor)
  apply qst;exact rfl;exact rfl;exact q_nckR rfl
  repeat (refine stp rfl ?_ ?_;·repeat' constructor)
  apply qst;exact rfl;exact rfl;exact q_faR layOk rfl rfl rfl rfl rfl rfl
  repeat (refine stp rfl ?_ ?_;·repeat' constructor)
  exact endc rfl rfl rfl rfl (by repeat' constructor) rfl
theorem fields_raw [G : Globs] (b off : Nat) (op : Int) : @RetO (globAt G b off (.int .i64 op)) Tryz.prog 65 [rawP b off 0] 125 4 ((fdsOf op).map fun f => f.tm.map (TC.inst (rawP b off))) := by
  letI : Globs := globAt G b off (.int .i64 op)
  have hG : ∀ w : World, Globs.glob w → w.cell? ⟨b, off, none⟩ = some (.int .i64 op) := fun w h => h.2.2
  have ht := fun o => text_raw b (off + o)
  have ha := amount_raw b off
  show RetO Tryz.prog 65 [.raw (.pointer (some ⟨b, off, none⟩))] 125 4 ((fdsOf op).map fun f => f.tm.map (TC.inst (rawP b off)))
  have start : ∀ r, r = ((fdsOf op).map fun f => f.tm.map (TC.inst (rawP b off))) → RetO Tryz.prog 65 [.raw (.pointer (some ⟨b, off, none⟩))] 125 4 r → RetO Tryz.prog 65 [.raw (.pointer (some ⟨b, off, none⟩))] 125 4 ((fdsOf op).map fun f => f.tm.map (TC.inst (rawP b off))) := fun r h1 h2 => h1 ▸ h2
  by_cases h0 : op = 0
  · subst h0
    clear start
    refine RetO.of_pwp layOk mixed Go.Proofs.Tryz.func65 rfl (by decide) rfl rfl ?_
    ((repeat (first | refine ps_nil ?_ | refine pq_nil ?_ | refine x_norm ?_ | refine pw_seq ?_)); refine pw_region ?_)
    refine ps_run (o_box rfl rfl rfl (by repeat' constructor) rfl ?_)
    repeat (refine stp rfl ?_ ?_;·repeat' constructor)
    apply qst;exact rfl;exact rfl;exact q_nckR rfl
    repeat (refine stp rfl ?_ ?_;·repeat' constructor)
    apply qst;exact rfl;exact rfl;exact q_faR layOk rfl rfl rfl rfl rfl rfl
    repeat (refine stp rfl ?_ ?_;·repeat' constructor)
    apply qst;exact rfl;exact rfl;exact q_nckR rfl
    repeat (refine stp rfl ?_ ?_;·repeat' constructor)
    apply qst;exact rfl;exact rfl;exact q_faR layOk rfl rfl rfl rfl rfl rfl
    repeat (refine stp rfl ?_ ?_;·repeat' constructor)
    apply qst;exact rfl;exact rfl;exact q_ldR layOk hG rfl rfl rfl
    repeat (first|(refine stp rfl ?_ ?_;·repeat' constructor)|(refine pw_cond rfl (fun hA => absurd hA (by intro hA; simp only [decide_eq_true_eq, decide_eq_false_iff_not, Bool.not_eq_true', Bool.not_eq_false'] at hA; omega)) (fun _ => ?_))|(refine pw_cond rfl (fun _ => ?_) (fun hA => absurd hA (by intro hA; simp only [decide_eq_true_eq, decide_eq_false_iff_not, Bool.not_eq_true', Bool.not_eq_false'] at hA; omega))))
    refine pw_draw 10 [17, 18, 19, 20, 21, 22, 23, 24, 25, 26] (by decide +kernel) ?_
    repeat (refine stp rfl ?_ ?_;·repeat' constructor)
    apply qst;exact rfl;exact rfl;exact q_nckR rfl
    repeat (refine stp rfl ?_ ?_;·repeat' constructor)
    apply qst;exact rfl;exact rfl;exact q_faR layOk rfl rfl rfl rfl rfl rfl
    repeat (refine stp rfl ?_ ?_;·repeat' constructor)
    apply qst;exact rfl;exact rfl;exact q_callP rfl (ht 2) rfl (by repeat' constructor) rfl rfl
    repeat (refine stp rfl ?_ ?_;·repeat' constructor)
    apply qst;exact rfl;exact rfl;exact q_nckR rfl
    repeat (refine stp rfl ?_ ?_;·repeat' constructor)
    apply qst;exact rfl;exact rfl;exact q_faR layOk rfl rfl rfl rfl rfl rfl
    repeat (refine stp rfl ?_ ?_;·repeat' constructor)
    apply qst;exact rfl;exact rfl;exact q_callP rfl (ht 4) rfl (by repeat' constructor) rfl rfl
    repeat (refine stp rfl ?_ ?_;·repeat' constructor)
    refine ps_run (o_slit 0 rfl rfl rfl rfl rfl rfl rfl rfl rfl rfl rfl (by repeat' constructor) rfl ?_)
    repeat (refine stp rfl ?_ ?_;·repeat' constructor)
    exact endO rfl rfl rfl rfl rfl rfl
  by_cases h1 : op = 1
  · subst h1
    clear start
    refine RetO.of_pwp layOk mixed Go.Proofs.Tryz.func65 rfl (by decide) rfl rfl ?_
    ((repeat (first | refine ps_nil ?_ | refine pq_nil ?_ | refine x_norm ?_ | refine pw_seq ?_)); refine pw_region ?_)
    refine ps_run (o_box rfl rfl rfl (by repeat' constructor) rfl ?_)
    repeat (refine stp rfl ?_ ?_;·repeat' constructor)
    apply qst;exact rfl;exact rfl;exact q_nckR rfl
    repeat (refine stp rfl ?_ ?_;·repeat' constructor)
    apply qst;exact rfl;exact rfl;exact q_faR layOk rfl rfl rfl rfl rfl rfl
    repeat (refine stp rfl ?_ ?_;·repeat' constructor)
    apply qst;exact rfl;exact rfl;exact q_nckR rfl
    repeat (refine stp rfl ?_ ?_;·repeat' constructor)
    apply qst;exact rfl;exact rfl;exact q_faR layOk rfl rfl rfl rfl rfl rfl
    repeat (refine stp rfl ?_ ?_;·repeat' constructor)
    apply qst;exact rfl;exact rfl;exact q_ldR layOk hG rfl rfl rfl
    repeat (first|(refine stp rfl ?_ ?_;·repeat' constructor)|(refine pw_cond rfl (fun hA => absurd hA (by intro hA; simp only [decide_eq_true_eq, decide_eq_false_iff_not, Bool.not_eq_true', Bool.not_eq_false'] at hA; omega)) (fun _ => ?_))|(refine pw_cond rfl (fun _ => ?_) (fun hA => absurd hA (by intro hA; simp only [decide_eq_true_eq, decide_eq_false_iff_not, Bool.not_eq_true', Bool.not_eq_false'] at hA; omega))))
    refine pw_draw 12 [30, 31, 32, 33, 34, 35, 36, 37, 38, 39, 40, 41] (by decide +kernel) ?_
    repeat (refine stp rfl ?_ ?_;·repeat' constructor)
    apply qst;exact rfl;exact rfl;exact q_nckR rfl
    repeat (refine stp rfl ?_ ?_;·repeat' constructor)
    apply qst;exact rfl;exact rfl;exact q_faR layOk rfl rfl rfl rfl rfl rfl
    repeat (refine stp rfl ?_ ?_;·repeat' constructor)
    apply qst;exact rfl;exact rfl;exact q_callP rfl (ht 2) rfl (by repeat' constructor) rfl rfl
    repeat (refine stp rfl ?_ ?_;·repeat' constructor)
    apply qst;exact rfl;exact rfl;exact q_nckR rfl
    repeat (refine stp rfl ?_ ?_;·repeat' constructor)
    apply qst;exact rfl;exact rfl;exact q_faR layOk rfl rfl rfl rfl rfl rfl
    repeat (refine stp rfl ?_ ?_;·repeat' constructor)
    apply qst;exact rfl;exact rfl;exact q_callP rfl (ht 3) rfl (by repeat' constructor) rfl rfl
    repeat (refine stp rfl ?_ ?_;·repeat' constructor)
    apply qst;exact rfl;exact rfl;exact q_callP rfl (ha 0 1000000000) rfl (by repeat' constructor) rfl rfl
    repeat (refine stp rfl ?_ ?_;·repeat' constructor)
    refine ps_run (o_slit 0 rfl rfl rfl rfl rfl rfl rfl rfl rfl rfl rfl (by repeat' constructor) rfl ?_)
    repeat (refine stp rfl ?_ ?_;·repeat' constructor)
    exact endO rfl rfl rfl rfl rfl rfl
  by_cases h2 : op = 2
  · subst h2
    clear start
    refine RetO.of_pwp layOk mixed Go.Proofs.Tryz.func65 rfl (by decide) rfl rfl ?_
    ((repeat (first | refine ps_nil ?_ | refine pq_nil ?_ | refine x_norm ?_ | refine pw_seq ?_)); refine pw_region ?_)
    refine ps_run (o_box rfl rfl rfl (by repeat' constructor) rfl ?_)
    repeat (refine stp rfl ?_ ?_;·repeat' constructor)
    apply qst;exact rfl;exact rfl;exact q_nckR rfl
    repeat (refine stp rfl ?_ ?_;·repeat' constructor)
    apply qst;exact rfl;exact rfl;exact q_faR layOk rfl rfl rfl rfl rfl rfl
    repeat (refine stp rfl ?_ ?_;·repeat' constructor)
    apply qst;exact rfl;exact rfl;exact q_nckR rfl
    repeat (refine stp rfl ?_ ?_;·repeat' constructor)
    apply qst;exact rfl;exact rfl;exact q_faR layOk rfl rfl rfl rfl rfl rfl
    repeat (refine stp rfl ?_ ?_;·repeat' constructor)
    apply qst;exact rfl;exact rfl;exact q_ldR layOk hG rfl rfl rfl
    repeat (first|(refine stp rfl ?_ ?_;·repeat' constructor)|(refine pw_cond rfl (fun hA => absurd hA (by intro hA; simp only [decide_eq_true_eq, decide_eq_false_iff_not, Bool.not_eq_true', Bool.not_eq_false'] at hA; omega)) (fun _ => ?_))|(refine pw_cond rfl (fun _ => ?_) (fun hA => absurd hA (by intro hA; simp only [decide_eq_true_eq, decide_eq_false_iff_not, Bool.not_eq_true', Bool.not_eq_false'] at hA; omega))))
    refine pw_draw 12 [45, 46, 47, 48, 49, 50, 51, 52, 53, 54, 55, 56] (by decide +kernel) ?_
    repeat (refine stp rfl ?_ ?_;·repeat' constructor)
    apply qst;exact rfl;exact rfl;exact q_nckR rfl
    repeat (refine stp rfl ?_ ?_;·repeat' constructor)
    apply qst;exact rfl;exact rfl;exact q_faR layOk rfl rfl rfl rfl rfl rfl
    repeat (refine stp rfl ?_ ?_;·repeat' constructor)
    apply qst;exact rfl;exact rfl;exact q_callP rfl (ht 2) rfl (by repeat' constructor) rfl rfl
    repeat (refine stp rfl ?_ ?_;·repeat' constructor)
    apply qst;exact rfl;exact rfl;exact q_nckR rfl
    repeat (refine stp rfl ?_ ?_;·repeat' constructor)
    apply qst;exact rfl;exact rfl;exact q_faR layOk rfl rfl rfl rfl rfl rfl
    repeat (refine stp rfl ?_ ?_;·repeat' constructor)
    apply qst;exact rfl;exact rfl;exact q_callP rfl (ht 3) rfl (by repeat' constructor) rfl rfl
    repeat (refine stp rfl ?_ ?_;·repeat' constructor)
    apply qst;exact rfl;exact rfl;exact q_callP rfl (ha (-1000000000) 1000000000) rfl (by repeat' constructor) rfl rfl
    repeat (refine stp rfl ?_ ?_;·repeat' constructor)
    refine ps_run (o_slit 0 rfl rfl rfl rfl rfl rfl rfl rfl rfl rfl rfl (by repeat' constructor) rfl ?_)
    repeat (refine stp rfl ?_ ?_;·repeat' constructor)
    exact endO rfl rfl rfl rfl rfl rfl
  by_cases h3 : op = 3
  · subst h3
    clear start
    refine RetO.of_pwp layOk mixed Go.Proofs.Tryz.func65 rfl (by decide) rfl rfl ?_
    ((repeat (first | refine ps_nil ?_ | refine pq_nil ?_ | refine x_norm ?_ | refine pw_seq ?_)); refine pw_region ?_)
    refine ps_run (o_box rfl rfl rfl (by repeat' constructor) rfl ?_)
    repeat (refine stp rfl ?_ ?_;·repeat' constructor)
    apply qst;exact rfl;exact rfl;exact q_nckR rfl
    repeat (refine stp rfl ?_ ?_;·repeat' constructor)
    apply qst;exact rfl;exact rfl;exact q_faR layOk rfl rfl rfl rfl rfl rfl
    repeat (refine stp rfl ?_ ?_;·repeat' constructor)
    apply qst;exact rfl;exact rfl;exact q_nckR rfl
    repeat (refine stp rfl ?_ ?_;·repeat' constructor)
    apply qst;exact rfl;exact rfl;exact q_faR layOk rfl rfl rfl rfl rfl rfl
    repeat (refine stp rfl ?_ ?_;·repeat' constructor)
    apply qst;exact rfl;exact rfl;exact q_ldR layOk hG rfl rfl rfl
    repeat (first|(refine stp rfl ?_ ?_;·repeat' constructor)|(refine pw_cond rfl (fun hA => absurd hA (by intro hA; simp only [decide_eq_true_eq, decide_eq_false_iff_not, Bool.not_eq_true', Bool.not_eq_false'] at hA; omega)) (fun _ => ?_))|(refine pw_cond rfl (fun _ => ?_) (fun hA => absurd hA (by intro hA; simp only [decide_eq_true_eq, decide_eq_false_iff_not, Bool.not_eq_true', Bool.not_eq_false'] at hA; omega))))
    refine pw_draw 17 [60, 61, 62, 63, 64, 65, 66, 67, 68, 69, 70, 71, 72, 73, 74, 75, 76] (by decide +kernel) ?_
    repeat (refine stp rfl ?_ ?_;·repeat' constructor)
    apply qst;exact rfl;exact rfl;exact q_nckR rfl
    repeat (refine stp rfl ?_ ?_;·repeat' constructor)
    apply qst;exact rfl;exact rfl;exact q_faR layOk rfl rfl rfl rfl rfl rfl
    repeat (refine stp rfl ?_ ?_;·repeat' constructor)
    apply qst;exact rfl;exact rfl;exact q_callP rfl (ht 2) rfl (by repeat' constructor) rfl rfl
    repeat (refine stp rfl ?_ ?_;·repeat' constructor)
    apply qst;exact rfl;exact rfl;exact q_nckR rfl
    repeat (refine stp rfl ?_ ?_;·repeat' constructor)
    apply qst;exact rfl;exact rfl;exact q_faR layOk rfl rfl rfl rfl rfl rfl
    repeat (refine stp rfl ?_ ?_;·repeat' constructor)
    apply qst;exact rfl;exact rfl;exact q_callP rfl (ht 3) rfl (by repeat' constructor) rfl rfl
    repeat (refine stp rfl ?_ ?_;·repeat' constructor)
    apply qst;exact rfl;exact rfl;exact q_nckR rfl
    repeat (refine stp rfl ?_ ?_;·repeat' constructor)
    apply qst;exact rfl;exact rfl;exact q_faR layOk rfl rfl rfl rfl rfl rfl
    repeat (refine stp rfl ?_ ?_;·repeat' constructor)
    apply qst;exact rfl;exact rfl;exact q_callP rfl (ht 5) rfl (by repeat' constructor) rfl rfl
    repeat (refine stp rfl ?_ ?_;·repeat' constructor)
    apply qst;exact rfl;exact rfl;exact q_callP rfl (ha 0 1000000000) rfl (by repeat' constructor) rfl rfl
    repeat (refine stp rfl ?_ ?_;·repeat' constructor)
    refine ps_run (o_slit 0 rfl rfl rfl rfl rfl rfl rfl rfl rfl rfl rfl (by repeat' constructor) rfl ?_)
    repeat (refine stp rfl ?_ ?_;·repeat' constructor)
    exact endO rfl rfl rfl rfl rfl rfl
  by_cases h4 : op = 4
  · subst h4
    clear start
    refine RetO.of_pwp layOk mixed Go.Proofs.Tryz.func65 rfl (by decide) rfl rfl ?_
    ((repeat (first | refine ps_nil ?_ | refine pq_nil ?_ | refine x_norm ?_ | refine pw_seq ?_)); refine pw_region ?_)
    refine ps_run (o_box rfl rfl rfl (by repeat' constructor) rfl ?_)
    repeat (refine stp rfl ?_ ?_;·repeat' constructor)
    apply qst;exact rfl;exact rfl;exact q_nckR rfl
    repeat (refine stp rfl ?_ ?_;·repeat' constructor)
    apply qst;exact rfl;exact rfl;exact q_faR layOk rfl rfl rfl rfl rfl rfl
    repeat (refine stp rfl ?_ ?_;·repeat' constructor)
    apply qst;exact rfl;exact rfl;exact q_nckR rfl
    repeat (refine stp rfl ?_ ?_;·repeat' constructor)
    apply qst;exact rfl;exact rfl;exact q_faR layOk rfl rfl rfl rfl rfl rfl
    repeat (refine stp rfl ?_ ?_;·repeat' constructor)
    apply qst;exact rfl;exact rfl;exact q_ldR layOk hG rfl rfl rfl
    repeat (first|(refine stp rfl ?_ ?_;·repeat' constructor)|(refine pw_cond rfl (fun hA => absurd hA (by intro hA; simp only [decide_eq_true_eq, decide_eq_false_iff_not, Bool.not_eq_true', Bool.not_eq_false'] at hA; omega)) (fun _ => ?_))|(refine pw_cond rfl (fun _ => ?_) (fun hA => absurd hA (by intro hA; simp only [decide_eq_true_eq, decide_eq_false_iff_not, Bool.not_eq_true', Bool.not_eq_false'] at hA; omega))))
    refine pw_draw 10 [80, 81, 82, 83, 84, 85, 86, 87, 88, 89] (by decide +kernel) ?_
    repeat (refine stp rfl ?_ ?_;·repeat' constructor)
    apply qst;exact rfl;exact rfl;exact q_nckR rfl
    repeat (refine stp rfl ?_ ?_;·repeat' constructor)
    apply qst;exact rfl;exact rfl;exact q_faR layOk rfl rfl rfl rfl rfl rfl
    repeat (refine stp rfl ?_ ?_;·repeat' constructor)
    apply qst;exact rfl;exact rfl;exact q_callP rfl (ht 5) rfl (by repeat' constructor) rfl rfl
    repeat (refine stp rfl ?_ ?_;·repeat' constructor)
    apply qst;exact rfl;exact rfl;exact q_nckR rfl
    repeat (refine stp rfl ?_ ?_;·repeat' constructor)
    apply qst;exact rfl;exact rfl;exact q_faR layOk rfl rfl rfl rfl rfl rfl
    repeat (refine stp rfl ?_ ?_;·repeat' constructor)
    refine ps_run (o_slit 0 rfl rfl rfl rfl rfl rfl rfl rfl rfl rfl rfl (by repeat' constructor) rfl ?_)
    repeat (refine stp rfl ?_ ?_;·repeat' constructor)
    exact endO rfl rfl rfl rfl rfl rfl
  by_cases h5 : op = 5
  · subst h5
    clear start
    refine RetO.of_pwp layOk mixed Go.Proofs.Tryz.func65 rfl (by decide) rfl rfl ?_
    ((repeat (first | refine ps_nil ?_ | refine pq_nil ?_ | refine x_norm ?_ | refine pw_seq ?_)); refine pw_region ?_)
    refine ps_run (o_box rfl rfl rfl (by repeat' constructor) rfl ?_)
    repeat (refine stp rfl ?_ ?_;·repeat' constructor)
    apply qst;exact rfl;exact rfl;exact q_nckR rfl
    repeat (refine stp rfl ?_ ?_;·repeat' constructor)
    apply qst;exact rfl;exact rfl;exact q_faR layOk rfl rfl rfl rfl rfl rfl
    repeat (refine stp rfl ?_ ?_;·repeat' constructor)
    apply qst;exact rfl;exact rfl;exact q_nckR rfl
    repeat (refine stp rfl ?_ ?_;·repeat' constructor)
    apply qst;exact rfl;exact rfl;exact q_faR layOk rfl rfl rfl rfl rfl rfl
    repeat (refine stp rfl ?_ ?_;·repeat' constructor)
    apply qst;exact rfl;exact rfl;exact q_ldR layOk hG rfl rfl rfl
    repeat (first|(refine stp rfl ?_ ?_;·repeat' constructor)|(refine pw_cond rfl (fun hA => absurd hA (by intro hA; simp only [decide_eq_true_eq, decide_eq_false_iff_not, Bool.not_eq_true', Bool.not_eq_false'] at hA; omega)) (fun _ => ?_))|(refine pw_cond rfl (fun _ => ?_) (fun hA => absurd hA (by intro hA; simp only [decide_eq_true_eq, decide_eq_false_iff_not, Bool.not_eq_true', Bool.not_eq_false'] at hA; omega))))
    refine pw_draw 3 [93, 94, 95] (by decide +kernel) ?_
    repeat (refine stp rfl ?_ ?_;·repeat' constructor)
    apply qst;exact rfl;exact rfl;exact q_callP rfl (ha (-1000000000) 1000000000) rfl (by repeat' constructor) rfl rfl
    repeat (refine stp rfl ?_ ?_;·repeat' constructor)
    refine ps_run (o_slit 0 rfl rfl rfl rfl rfl rfl rfl rfl rfl rfl rfl (by repeat' constructor) rfl ?_)
    repeat (refine stp rfl ?_ ?_;·repeat' constructor)
    exact endO rfl rfl rfl rfl rfl rfl
  by_cases h6 : op = 6
  · subst h6
    clear start
    refine RetO.of_pwp layOk mixed Go.Proofs.Tryz.func65 rfl (by decide) rfl rfl ?_
    ((repeat (first | refine ps_nil ?_ | refine pq_nil ?_ | refine x_norm ?_ | refine pw_seq ?_)); refine pw_region ?_)
    refine ps_run (o_box rfl rfl rfl (by repeat' constructor) rfl ?_)
    repeat (refine stp rfl ?_ ?_;·repeat' constructor)
    apply qst;exact rfl;exact rfl;exact q_nckR rfl
    repeat (refine stp rfl ?_ ?_;·repeat' constructor)
    apply qst;exact rfl;exact rfl;exact q_faR layOk rfl rfl rfl rfl rfl rfl
    repeat (refine stp rfl ?_ ?_;·repeat' constructor)
    apply qst;exact rfl;exact rfl;exact q_nckR rfl
    repeat (refine stp rfl ?_ ?_;·repeat' constructor)
    apply qst;exact rfl;exact rfl;exact q_faR layOk rfl rfl rfl rfl rfl rfl
    repeat (refine stp rfl ?_ ?_;·repeat' constructor)
    apply qst;exact rfl;exact rfl;exact q_ldR layOk hG rfl rfl rfl
    repeat (first|(refine stp rfl ?_ ?_;·repeat' constructor)|(refine pw_cond rfl (fun hA => absurd hA (by intro hA; simp only [decide_eq_true_eq, decide_eq_false_iff_not, Bool.not_eq_true', Bool.not_eq_false'] at hA; omega)) (fun _ => ?_))|(refine pw_cond rfl (fun _ => ?_) (fun hA => absurd hA (by intro hA; simp only [decide_eq_true_eq, decide_eq_false_iff_not, Bool.not_eq_true', Bool.not_eq_false'] at hA; omega))))
    repeat (refine stp rfl ?_ ?_;·repeat' constructor)
    apply qst;exact rfl;exact rfl;exact q_nckR rfl
    repeat (refine stp rfl ?_ ?_;·repeat' constructor)
    apply qst;exact rfl;exact rfl;exact q_faR layOk rfl rfl rfl rfl rfl rfl
    repeat (refine stp rfl ?_ ?_;·repeat' constructor)
    apply qst;exact rfl;exact rfl;exact q_callP rfl (ht 2) rfl (by repeat' constructor) rfl rfl
    repeat (refine stp rfl ?_ ?_;·repeat' constructor)
    refine ps_run (o_slit 0 rfl rfl rfl rfl rfl rfl rfl rfl rfl rfl rfl (by repeat' constructor) rfl ?_)
    repeat (refine stp rfl ?_ ?_;·repeat' constructor)
    exact endO rfl rfl rfl rfl rfl rfl
  by_cases h7 : op = 7
  · subst h7
    clear start
    refine RetO.of_pwp layOk mixed Go.Proofs.Tryz.func65 rfl (by decide) rfl rfl ?_
    ((repeat (first | refine ps_nil ?_ | refine pq_nil ?_ | refine x_norm ?_ | refine pw_seq ?_)); refine pw_region ?_)
    refine ps_run (o_box rfl rfl rfl (by repeat' constructor) rfl ?_)
    repeat (refine stp rfl ?_ ?_;·repeat' constructor)
    apply qst;exact rfl;exact rfl;exact q_nckR rfl
    repeat (refine stp rfl ?_ ?_;·repeat' constructor)
    apply qst;exact rfl;exact rfl;exact q_faR layOk rfl rfl rfl rfl rfl rfl
    repeat (refine stp rfl ?_ ?_;·repeat' constructor)
    apply qst;exact rfl;exact rfl;exact q_nckR rfl
    repeat (refine stp rfl ?_ ?_;·repeat' constructor)
    apply qst;exact rfl;exact rfl;exact q_faR layOk rfl rfl rfl rfl rfl rfl
    repeat (refine stp rfl ?_ ?_;·repeat' constructor)
    apply qst;exact rfl;exact rfl;exact q_ldR layOk hG rfl rfl rfl
    repeat (first|(refine stp rfl ?_ ?_;·repeat' constructor)|(refine pw_cond rfl (fun hA => absurd hA (by intro hA; simp only [decide_eq_true_eq, decide_eq_false_iff_not, Bool.not_eq_true', Bool.not_eq_false'] at hA; omega)) (fun _ => ?_))|(refine pw_cond rfl (fun _ => ?_) (fun hA => absurd hA (by intro hA; simp only [decide_eq_true_eq, decide_eq_false_iff_not, Bool.not_eq_true', Bool.not_eq_false'] at hA; omega))))
    repeat (refine stp rfl ?_ ?_;·repeat' constructor)
    apply qst;exact rfl;exact rfl;exact q_nckR rfl
    repeat (refine stp rfl ?_ ?_;·repeat' constructor)
    apply qst;exact rfl;exact rfl;exact q_faR layOk rfl rfl rfl rfl rfl rfl
    repeat (refine stp rfl ?_ ?_;·repeat' constructor)
    apply qst;exact rfl;exact rfl;exact q_callP rfl (ht 2) rfl (by repeat' constructor) rfl rfl
    repeat (refine stp rfl ?_ ?_;·repeat' constructor)
    apply qst;exact rfl;exact rfl;exact q_callP rfl (ha 1 1000000000) rfl (by repeat' constructor) rfl rfl
    repeat (refine stp rfl ?_ ?_;·repeat' constructor)
    refine ps_run (o_slit 0 rfl rfl rfl rfl rfl rfl rfl rfl rfl rfl rfl (by repeat' constructor) rfl ?_)
    repeat (refine stp rfl ?_ ?_;·repeat' constructor)
    exact endO rfl rfl rfl rfl rfl rfl
  · have hf : fdsOf op = [.r 1 400] := by simp [fdsOf, h0, h1, h2, h3, h4, h5, h6, h7]
    rw [hf]
    clear start hf
    refine RetO.of_pwp layOk mixed Go.Proofs.Tryz.func65 rfl (by decide) rfl rfl ?_
    ((repeat (first | refine ps_nil ?_ | refine pq_nil ?_ | refine x_norm ?_ | refine pw_seq ?_)); refine pw_region ?_)
    refine ps_run (o_box rfl rfl rfl (by repeat' constructor) rfl ?_)
    repeat (refine stp rfl ?_ ?_;·repeat' constructor)
    apply qst;exact rfl;exact rfl;exact q_nckR rfl
    repeat (refine stp rfl ?_ ?_;·repeat' constructor)
    apply qst;exact rfl;exact rfl;exact q_faR layOk rfl rfl rfl rfl rfl rfl
    repeat (refine stp rfl ?_ ?_;·repeat' constructor)
    apply qst;exact rfl;exact rfl;exact q_nckR rfl
    repeat (refine stp rfl ?_ ?_;·repeat' constructor)
    apply qst;exact rfl;exact rfl;exact q_faR layOk rfl rfl rfl rfl rfl rfl
    repeat (refine stp rfl ?_ ?_;·repeat' constructor)
    apply qst;exact rfl;exact rfl;exact q_ldR layOk hG rfl rfl rfl
    repeat (first|(refine stp rfl ?_ ?_;·repeat' constructor)|(refine pw_cond rfl (fun hA => absurd hA (by intro hA; simp only [decide_eq_true_eq, decide_eq_false_iff_not, Bool.not_eq_true', Bool.not_eq_false'] at hA; omega)) (fun _ => ?_))|(refine pw_cond rfl (fun _ => ?_) (fun hA => absurd hA (by intro hA; simp only [decide_eq_true_eq, decide_eq_false_iff_not, Bool.not_eq_true', Bool.not_eq_false'] at hA; omega))))
    repeat (refine stp rfl ?_ ?_;·repeat' constructor)
    refine ps_run (o_slit 0 rfl rfl rfl rfl rfl rfl rfl rfl rfl rfl rfl (by repeat' constructor) rfl ?_)
    repeat (refine stp rfl ?_ ?_;·repeat' constructor)
    exact endO rfl rfl rfl rfl rfl rfl
end Go.Pv


set_option maxHeartbeats 2000000
namespace Go.Pv
attribute [local irreducible] PWP POps PQuiet PSem XThen XBlock RetPost InlPost
open Go.Proofs
theorem fields_tm [G : Globs] (b off : Nat) (op : Int) : @RetO (globAt G b off (.int .i64 op)) Tryz.prog 65 [rawP b off 0] 125 4 (((fdsOf op).map Fd.tm).map fun r => r.map (TC.inst (rawP b off))) := by
  rw [List.map_map]
  exact fields_raw b off op
def Fd.txt (p : SPost) : Fd → Str
  | .o => p.order | .i => p.item | .s => p.ship | .w => p.who | _ => []
def Fd.num (p : SPost) : Fd → Int
  | .a _ _ => p.amount | .r _ _ => p.ref | .l _ _ => p.role | _ => 0
def Fd.err (p : SPost) (f : Fd) : Int := match f with
  | .o | .i | .s | .w => if isName (f.txt p) = true then 0 else 4
  | .a lo hi | .r lo hi | .l lo hi => if inside (f.num p) lo hi = true then 0 else 2
def checkE (p : SPost) : Int := if inside p.op 0 8 = true ∧ inside p.day 0 10000 = true then fstE (fdsOf p.op) (fun _ f => f.err p) else 2
theorem fdsOf_tm_ok (op : Int) : ((fdsOf op).map Fd.tm).all (fun r => r.all (TC.ok 9)) = true := by
  rw [List.all_map, List.all_eq_true]
  intro f _
  cases f <;> rfl
theorem fdsOf_len (op : Int) : (fdsOf op).length ≤ 4 := by
  simp only [fdsOf]
  repeat' (first | split | (simp only [List.length_cons, List.length_nil]; omega))
set_option maxRecDepth 20000 in
theorem checkPost_ret (p : SPost) : Ret Tryz.prog .shared 16 [.agg (ePost p)] (I (checkE p)) := by
  have h1 := between_ret p.op 0 8
  have h2 := between_ret p.day 0 10000
  rw [checkE]
  cases hi : inside p.op 0 8 with
  | false =>
    rw [hi] at h1
    refine Ret.of_pwp layOk mixed Go.Proofs.Tryz.func16 rfl (by decide) rfl rfl ?_
    repeat (refine stp rfl ?_ ?_;·repeat' constructor)
    apply qst;exact rfl;exact rfl;exact q_callP rfl (h1) rfl (by repeat' constructor) rfl rfl
    repeat (refine stp rfl ?_ ?_;·repeat' constructor)
    exact end1i rfl rfl rfl
  | true =>
  rw [hi] at h1
  cases hd : inside p.day 0 10000 with
  | false =>
    rw [hd] at h2
    refine Ret.of_pwp layOk mixed Go.Proofs.Tryz.func16 rfl (by decide) rfl rfl ?_
    repeat (refine stp rfl ?_ ?_;·repeat' constructor)
    apply qst;exact rfl;exact rfl;exact q_callP rfl (h1) rfl (by repeat' constructor) rfl rfl
    repeat (refine stp rfl ?_ ?_;·repeat' constructor)
    apply qst;exact rfl;exact rfl;exact q_callP rfl (h2) rfl (by repeat' constructor) rfl rfl
    repeat (refine stp rfl ?_ ?_;·repeat' constructor)
    exact end1i rfl rfl rfl
  | true =>
  rw [hd] at h2
  rw [if_pos ⟨rfl, rfl⟩]
  have hfl := fdsOf_len p.op
  have htl : ((fdsOf p.op).map Fd.tm).length = (fdsOf p.op).length := List.length_map _
  refine Ret.of_pwp layOk mixed Go.Proofs.Tryz.func16 rfl (by decide) rfl rfl ?_
  repeat (refine stp rfl ?_ ?_;·repeat' constructor)
  apply qst;exact rfl;exact rfl;exact q_callP rfl (h1) rfl (by repeat' constructor) rfl rfl
  repeat (refine stp rfl ?_ ?_;·repeat' constructor)
  apply qst;exact rfl;exact rfl;exact q_callP rfl (h2) rfl (by repeat' constructor) rfl rfl
  iterate 6 (refine stp rfl ?_ ?_;·repeat' constructor)
  ((repeat (first | refine x_norm ?_ | refine pw_seq ?_)); refine pw_regionS 0 ?_)
  refine ps_nil ?_
  refine psem_sm rfl (sm_callP ((fdsOf p.op).map Fd.tm) (fun b off => fields_tm b off p.op) rfl rfl rfl rfl rfl rfl (fdsOf_tm_ok p.op) rfl ?_)
  refine psem_ops ?_
  rw [htl]
  repeat (refine stp rfl ?_ ?_;·repeat' constructor)
  have hrow : ∀ (k : Nat) (f : Fd), (fdsOf p.op)[k]? = some f → (((fdsOf p.op).map Fd.tm).map fun r => r.map (TC.inst fun o => PV.ptr 1 1 0 o))[0 + (k : Int).toNat]? = some (f.tm.map (TC.inst fun o => PV.ptr 1 1 0 o)) := fun k f h => by
    rw [List.getElem?_map, List.getElem?_map, Int.toNat_natCast, Nat.zero_add, h]; rfl
  generalize (((fdsOf p.op).map Fd.tm).map fun r => r.map (TC.inst fun o => PV.ptr 1 1 0 o)) = rows at hrow
  clear h1 h2
  have hN := fun s => isName_ret s
  have hB := between_ret
  generalize fdsOf p.op = fs at *
  refine pw_loop (ClearE fs fun _ f => f.err p) (fun k => [(1, .ptr 1 1 0 0), (15, .als 15 1 0 fs.length), (16, I fs.length), (17, I k)]) (fun _ => [(1, 1, ⟨23, 9, [ePost p], 2⟩), (15, 1, ⟨125, 4, rows, 2⟩)]) (fun k => fs.length - k) 0 .zero' ⟨rfl, rfl, rfl, rfl, rfl, rfl, trivial⟩ ?_
  intro k s hk
  have hkl := hk.1
  repeat (refine stp rfl ?_ ?_;·repeat' constructor)
  refine pw_cond rfl (fun h => ?_) (fun h => ?_)
  · have hlt : k < fs.length := by simpa using h
    clear h
    obtain ⟨f, hf⟩ := get_lt hlt
    have hr := hrow k f hf
    cases f
    case o =>
      have hn := hN p.order
      have he : (Fd.o).err p = if isName p.order = true then 0 else 4 := rfl
      generalize isName p.order = b at hn he
      repeat (refine stp rfl ?_ ?_;·repeat' constructor)
      apply qst;exact rfl;exact rfl;exact q_idxA rfl rfl rfl rfl rfl rfl rfl (by omega) (by omega)
      apply qst;exact rfl;exact rfl;exact q_ldp rfl rfl rfl hr rfl
      repeat (refine stp rfl ?_ ?_;·repeat' constructor)
      apply qst;exact rfl;exact rfl;exact q_callP rfl (hn) rfl (by repeat' constructor) rfl rfl
      cases b with
      | true =>
        repeat (refine stp rfl ?_ ?_;·repeat' constructor)
        refine pw_draw 16 [34, 35, 36, 37, 38, 39, 40, 41, 42, 43, 44, 45, 46, 47, 48, 33] (by decide +kernel) ?_
        repeat (refine stp rfl ?_ ?_;·repeat' constructor)
        exact ⟨k + 1, hk.succ hf he, by omega, rfl, rfl, rfl, i64_next (by omega) (by omega), rfl, rfl, trivial⟩
      | false =>
        repeat (refine stp rfl ?_ ?_;·repeat' constructor)
        exact end1i rfl rfl (by rw [hk.found hf he (by decide)]; rfl)
    case i =>
      have hn := hN p.item
      have he : (Fd.i).err p = if isName p.item = true then 0 else 4 := rfl
      generalize isName p.item = b at hn he
      repeat (refine stp rfl ?_ ?_;·repeat' constructor)
      apply qst;exact rfl;exact rfl;exact q_idxA rfl rfl rfl rfl rfl rfl rfl (by omega) (by omega)
      apply qst;exact rfl;exact rfl;exact q_ldp rfl rfl rfl hr rfl
      repeat (refine stp rfl ?_ ?_;·repeat' constructor)
      apply qst;exact rfl;exact rfl;exact q_callP rfl (hn) rfl (by repeat' constructor) rfl rfl
      cases b with
      | true =>
        repeat (refine stp rfl ?_ ?_;·repeat' constructor)
        refine pw_draw 16 [34, 35, 36, 37, 38, 39, 40, 41, 42, 43, 44, 45, 46, 47, 48, 33] (by decide +kernel) ?_
        repeat (refine stp rfl ?_ ?_;·repeat' constructor)
        exact ⟨k + 1, hk.succ hf he, by omega, rfl, rfl, rfl, i64_next (by omega) (by omega), rfl, rfl, trivial⟩
      | false =>
        repeat (refine stp rfl ?_ ?_;·repeat' constructor)
        exact end1i rfl rfl (by rw [hk.found hf he (by decide)]; rfl)
    case s =>
      have hn := hN p.ship
      have he : (Fd.s).err p = if isName p.ship = true then 0 else 4 := rfl
      generalize isName p.ship = b at hn he
      repeat (refine stp rfl ?_ ?_;·repeat' constructor)
      apply qst;exact rfl;exact rfl;exact q_idxA rfl rfl rfl rfl rfl rfl rfl (by omega) (by omega)
      apply qst;exact rfl;exact rfl;exact q_ldp rfl rfl rfl hr rfl
      repeat (refine stp rfl ?_ ?_;·repeat' constructor)
      apply qst;exact rfl;exact rfl;exact q_callP rfl (hn) rfl (by repeat' constructor) rfl rfl
      cases b with
      | true =>
        repeat (refine stp rfl ?_ ?_;·repeat' constructor)
        refine pw_draw 16 [34, 35, 36, 37, 38, 39, 40, 41, 42, 43, 44, 45, 46, 47, 48, 33] (by decide +kernel) ?_
        repeat (refine stp rfl ?_ ?_;·repeat' constructor)
        exact ⟨k + 1, hk.succ hf he, by omega, rfl, rfl, rfl, i64_next (by omega) (by omega), rfl, rfl, trivial⟩
      | false =>
        repeat (refine stp rfl ?_ ?_;·repeat' constructor)
        exact end1i rfl rfl (by rw [hk.found hf he (by decide)]; rfl)
    case w =>
      have hn := hN p.who
      have he : (Fd.w).err p = if isName p.who = true then 0 else 4 := rfl
      generalize isName p.who = b at hn he
      repeat (refine stp rfl ?_ ?_;·repeat' constructor)
      apply qst;exact rfl;exact rfl;exact q_idxA rfl rfl rfl rfl rfl rfl rfl (by omega) (by omega)
      apply qst;exact rfl;exact rfl;exact q_ldp rfl rfl rfl hr rfl
      repeat (refine stp rfl ?_ ?_;·repeat' constructor)
      apply qst;exact rfl;exact rfl;exact q_callP rfl (hn) rfl (by repeat' constructor) rfl rfl
      cases b with
      | true =>
        repeat (refine stp rfl ?_ ?_;·repeat' constructor)
        refine pw_draw 16 [34, 35, 36, 37, 38, 39, 40, 41, 42, 43, 44, 45, 46, 47, 48, 33] (by decide +kernel) ?_
        repeat (refine stp rfl ?_ ?_;·repeat' constructor)
        exact ⟨k + 1, hk.succ hf he, by omega, rfl, rfl, rfl, i64_next (by omega) (by omega), rfl, rfl, trivial⟩
      | false =>
        repeat (refine stp rfl ?_ ?_;·repeat' constructor)
        exact end1i rfl rfl (by rw [hk.found hf he (by decide)]; rfl)
    case a lo hi =>
      have hn := hB p.amount lo hi
      have he : (Fd.a lo hi).err p = if inside p.amount lo hi = true then 0 else 2 := rfl
      generalize inside p.amount lo hi = b at hn he
      repeat (refine stp rfl ?_ ?_;·repeat' constructor)
      apply qst;exact rfl;exact rfl;exact q_idxA rfl rfl rfl rfl rfl rfl rfl (by omega) (by omega)
      apply qst;exact rfl;exact rfl;exact q_ldp rfl rfl rfl hr rfl
      repeat (refine stp rfl ?_ ?_;·repeat' constructor)
      refine pw_draw 16 [34, 35, 36, 37, 38, 39, 40, 41, 42, 43, 44, 45, 46, 47, 48, 33] (by decide +kernel) ?_
      repeat (refine stp rfl ?_ ?_;·repeat' constructor)
      apply qst;exact rfl;exact rfl;exact q_callP rfl (hn) rfl (by repeat' constructor) rfl rfl
      cases b with
      | true =>
        repeat (refine stp rfl ?_ ?_;·repeat' constructor)
        exact ⟨k + 1, hk.succ hf he, by omega, rfl, rfl, rfl, i64_next (by omega) (by omega), rfl, rfl, trivial⟩
      | false =>
        repeat (refine stp rfl ?_ ?_;·repeat' constructor)
        exact end1i rfl rfl (by rw [hk.found hf he (by decide)]; rfl)
    case r lo hi =>
      have hn := hB p.ref lo hi
      have he : (Fd.r lo hi).err p = if inside p.ref lo hi = true then 0 else 2 := rfl
      generalize inside p.ref lo hi = b at hn he
      repeat (refine stp rfl ?_ ?_;·repeat' constructor)
      apply qst;exact rfl;exact rfl;exact q_idxA rfl rfl rfl rfl rfl rfl rfl (by omega) (by omega)
      apply qst;exact rfl;exact rfl;exact q_ldp rfl rfl rfl hr rfl
      repeat (refine stp rfl ?_ ?_;·repeat' constructor)
      refine pw_draw 16 [34, 35, 36, 37, 38, 39, 40, 41, 42, 43, 44, 45, 46, 47, 48, 33] (by decide +kernel) ?_
      repeat (refine stp rfl ?_ ?_;·repeat' constructor)
      apply qst;exact rfl;exact rfl;exact q_callP rfl (hn) rfl (by repeat' constructor) rfl rfl
      cases b with
      | true =>
        repeat (refine stp rfl ?_ ?_;·repeat' constructor)
        exact ⟨k + 1, hk.succ hf he, by omega, rfl, rfl, rfl, i64_next (by omega) (by omega), rfl, rfl, trivial⟩
      | false =>
        repeat (refine stp rfl ?_ ?_;·repeat' constructor)
        exact end1i rfl rfl (by rw [hk.found hf he (by decide)]; rfl)
    case l lo hi =>
      have hn := hB p.role lo hi
      have he : (Fd.l lo hi).err p = if inside p.role lo hi = true then 0 else 2 := rfl
      generalize inside p.role lo hi = b at hn he
      repeat (refine stp rfl ?_ ?_;·repeat' constructor)
      apply qst;exact rfl;exact rfl;exact q_idxA rfl rfl rfl rfl rfl rfl rfl (by omega) (by omega)
      apply qst;exact rfl;exact rfl;exact q_ldp rfl rfl rfl hr rfl
      repeat (refine stp rfl ?_ ?_;·repeat' constructor)
      refine pw_draw 16 [34, 35, 36, 37, 38, 39, 40, 41, 42, 43, 44, 45, 46, 47, 48, 33] (by decide +kernel) ?_
      repeat (refine stp rfl ?_ ?_;·repeat' constructor)
      apply qst;exact rfl;exact rfl;exact q_callP rfl (hn) rfl (by repeat' constructor) rfl rfl
      cases b with
      | true =>
        repeat (refine stp rfl ?_ ?_;·repeat' constructor)
        exact ⟨k + 1, hk.succ hf he, by omega, rfl, rfl, rfl, i64_next (by omega) (by omega), rfl, rfl, trivial⟩
      | false =>
        repeat (refine stp rfl ?_ ?_;·repeat' constructor)
        exact end1i rfl rfl (by rw [hk.found hf he (by decide)]; rfl)
  · repeat (refine stp rfl ?_ ?_;·repeat' constructor)
    exact end1i rfl rfl (by rw [hk.none (by simpa using h)])
end Go.Pv


set_option maxHeartbeats 2000000
namespace Go.Pv
attribute [local irreducible] PWP POps PQuiet PSem XThen XBlock RetPost InlPost
open Go.Proofs
def Fd.set (p o : SPost) : Fd → SPost
  | .o => { o with order := p.order }
  | .i => { o with item := p.item }
  | .s => { o with ship := p.ship }
  | .w => { o with who := p.who }
  | .a _ _ => { o with amount := p.amount }
  | .r _ _ => { o with ref := p.ref }
  | .l _ _ => { o with role := p.role }
def bareP (p : SPost) : SPost := ⟨p.op, p.day, [], [], [], [], 0, 0, 0⟩
def cpyK (p : SPost) (fs : List Fd) : SPost := fs.foldl (fun o f => f.set p o) (bareP p)
def cleanP (p : SPost) : SPost := cpyK p (fdsOf p.op)
theorem cpyK_snoc (p : SPost) {fs : List Fd} {k : Nat} {f : Fd} (h : fs[k]? = some f) : cpyK p (fs.take (k + 1)) = f.set p (cpyK p (fs.take k)) := by
  rw [take_snoc h, cpyK, List.foldl_append]; rfl
set_option maxRecDepth 20000 in
theorem cleared_ret (p : SPost) : Ret Tryz.prog .shared 103 [.agg (ePost p)] (.agg (ePost (cleanP p))) := by
  have hfl := fdsOf_len p.op
  have htl : ((fdsOf p.op).map Fd.tm).length = (fdsOf p.op).length := List.length_map _
  rw [cleanP]
  refine Ret.of_pwp layOk mixed Go.Proofs.Tryz.func103 rfl (by decide) rfl rfl ?_
  ((repeat (first | refine ps_nil ?_ | refine pq_nil ?_ | refine x_norm ?_ | refine pw_seq ?_)); refine pw_region ?_)
  refine ps_run (o_box rfl rfl rfl (by repeat' constructor) rfl ?_)
  iterate 13 (refine stp rfl ?_ ?_;·repeat' constructor)
  ((repeat (first | refine x_norm ?_ | refine pw_seq ?_)); refine pw_regionS 0 ?_)
  refine ps_nil ?_
  refine psem_sm rfl (sm_callP ((fdsOf p.op).map Fd.tm) (fun b off => fields_tm b off p.op) rfl rfl rfl rfl rfl rfl (fdsOf_tm_ok p.op) rfl ?_)
  refine psem_ops ?_
  rw [htl]
  refine ps_v rfl trivial ?_
  refine ps_nil ?_
  ((repeat (first | refine x_norm ?_ | refine pw_seq ?_)); refine pw_regionS 0 ?_)
  refine ps_nil ?_
  refine psem_sm rfl (sm_callP ((fdsOf p.op).map Fd.tm) (fun b off => fields_tm b off p.op) rfl rfl rfl rfl rfl rfl (fdsOf_tm_ok p.op) rfl ?_)
  refine psem_ops ?_
  rw [htl]
  repeat (refine stp rfl ?_ ?_;·repeat' constructor)
  have hrow : ∀ (q : Nat) (k : Nat) (f : Fd), (fdsOf p.op)[k]? = some f → (((fdsOf p.op).map Fd.tm).map fun r => r.map (TC.inst fun o => PV.ptr q 1 0 o))[0 + (k : Int).toNat]? = some (f.tm.map (TC.inst fun o => PV.ptr q 1 0 o)) := fun q k f h => by
    rw [List.getElem?_map, List.getElem?_map, Int.toNat_natCast, Nat.zero_add, h]; rfl
  have hr1 := hrow 1
  have hr3 := hrow 3
  clear hrow
  refine pw_loop (fun k => k ≤ (fdsOf p.op).length) (fun k => [(2, .ptr 2 1 0 0), (3, .ptr 3 1 0 0), (4, .als 12 1 0 (fdsOf p.op).length), (13, .als 13 1 0 (fdsOf p.op).length), (14, I (fdsOf p.op).length), (15, I k)])
    (fun k => [(1, 1, ⟨23, 9, [ePost p], 2⟩), (2, 1, ⟨23, 9, [[I 0, I 0, .str [], .str [], .str [], .str [], I 0, I 0, I 0]], 2⟩), (3, 1, ⟨23, 9, [ePost (cpyK p ((fdsOf p.op).take k))], 2⟩),
      (12, 1, ⟨125, 4, ((fdsOf p.op).map Fd.tm).map fun r => r.map (TC.inst fun o => PV.ptr 3 1 0 o), 2⟩), (13, 1, ⟨125, 4, ((fdsOf p.op).map Fd.tm).map fun r => r.map (TC.inst fun o => PV.ptr 1 1 0 o), 2⟩)]) (fun k => (fdsOf p.op).length - k) 0 (Nat.zero_le _) ⟨rfl, rfl, rfl, rfl, rfl, rfl, rfl, rfl, rfl, rfl, rfl, trivial⟩ ?_
  generalize (((fdsOf p.op).map Fd.tm).map fun r => r.map (TC.inst fun o => PV.ptr 1 1 0 o)) = rows1 at *
  generalize (((fdsOf p.op).map Fd.tm).map fun r => r.map (TC.inst fun o => PV.ptr 3 1 0 o)) = rows3 at *
  generalize fdsOf p.op = fs at *
  intro k s hk
  have hk : k ≤ fs.length := hk
  repeat (refine stp rfl ?_ ?_;·repeat' constructor)
  refine pw_cond rfl (fun h => ?_) (fun h => ?_)
  · have hlt : k < fs.length := by simpa using h
    clear h
    obtain ⟨f, hf⟩ := get_lt hlt
    have g1 := hr1 k f hf
    have g3 := hr3 k f hf
    have hnx := cpyK_snoc p hf
    generalize cpyK p (fs.take k) = q at *
    cases f
    case o =>
      repeat (refine stp rfl ?_ ?_;·repeat' constructor)
      apply qst;exact rfl;exact rfl;exact q_idxA rfl rfl rfl rfl rfl rfl rfl (by omega) (by omega)
      apply qst;exact rfl;exact rfl;exact q_ldp rfl rfl rfl g1 rfl
      repeat (refine stp rfl ?_ ?_;·repeat' constructor)
      refine pw_draw 10 [23, 24, 25, 26, 27, 28, 29, 30, 31, 32] (by decide +kernel) ?_
      repeat (refine stp rfl ?_ ?_;·repeat' constructor)
      apply qst;exact rfl;exact rfl;exact q_idxA rfl rfl rfl rfl rfl rfl rfl (by omega) (by omega)
      repeat (refine stp rfl ?_ ?_;·repeat' constructor)
      apply qst;exact rfl;exact rfl;exact q_ldp rfl rfl rfl g3 rfl
      repeat (refine stp rfl ?_ ?_;·repeat' constructor)
      exact ⟨k + 1, hlt, by omega, rfl, rfl, rfl, rfl, rfl, i64_next (by omega) (by omega), rfl, rfl, by rw [hnx]; rfl, rfl, rfl, trivial⟩
    case i =>
      repeat (refine stp rfl ?_ ?_;·repeat' constructor)
      apply qst;exact rfl;exact rfl;exact q_idxA rfl rfl rfl rfl rfl rfl rfl (by omega) (by omega)
      apply qst;exact rfl;exact rfl;exact q_ldp rfl rfl rfl g1 rfl
      repeat (refine stp rfl ?_ ?_;·repeat' constructor)
      refine pw_draw 10 [23, 24, 25, 26, 27, 28, 29, 30, 31, 32] (by decide +kernel) ?_
      repeat (refine stp rfl ?_ ?_;·repeat' constructor)
      apply qst;exact rfl;exact rfl;exact q_idxA rfl rfl rfl rfl rfl rfl rfl (by omega) (by omega)
      repeat (refine stp rfl ?_ ?_;·repeat' constructor)
      apply qst;exact rfl;exact rfl;exact q_ldp rfl rfl rfl g3 rfl
      repeat (refine stp rfl ?_ ?_;·repeat' constructor)
      exact ⟨k + 1, hlt, by omega, rfl, rfl, rfl, rfl, rfl, i64_next (by omega) (by omega), rfl, rfl, by rw [hnx]; rfl, rfl, rfl, trivial⟩
    case s =>
      repeat (refine stp rfl ?_ ?_;·repeat' constructor)
      apply qst;exact rfl;exact rfl;exact q_idxA rfl rfl rfl rfl rfl rfl rfl (by omega) (by omega)
      apply qst;exact rfl;exact rfl;exact q_ldp rfl rfl rfl g1 rfl
      repeat (refine stp rfl ?_ ?_;·repeat' constructor)
      refine pw_draw 10 [23, 24, 25, 26, 27, 28, 29, 30, 31, 32] (by decide +kernel) ?_
      repeat (refine stp rfl ?_ ?_;·repeat' constructor)
      apply qst;exact rfl;exact rfl;exact q_idxA rfl rfl rfl rfl rfl rfl rfl (by omega) (by omega)
      repeat (refine stp rfl ?_ ?_;·repeat' constructor)
      apply qst;exact rfl;exact rfl;exact q_ldp rfl rfl rfl g3 rfl
      repeat (refine stp rfl ?_ ?_;·repeat' constructor)
      exact ⟨k + 1, hlt, by omega, rfl, rfl, rfl, rfl, rfl, i64_next (by omega) (by omega), rfl, rfl, by rw [hnx]; rfl, rfl, rfl, trivial⟩
    case w =>
      repeat (refine stp rfl ?_ ?_;·repeat' constructor)
      apply qst;exact rfl;exact rfl;exact q_idxA rfl rfl rfl rfl rfl rfl rfl (by omega) (by omega)
      apply qst;exact rfl;exact rfl;exact q_ldp rfl rfl rfl g1 rfl
      repeat (refine stp rfl ?_ ?_;·repeat' constructor)
      refine pw_draw 10 [23, 24, 25, 26, 27, 28, 29, 30, 31, 32] (by decide +kernel) ?_
      repeat (refine stp rfl ?_ ?_;·repeat' constructor)
      apply qst;exact rfl;exact rfl;exact q_idxA rfl rfl rfl rfl rfl rfl rfl (by omega) (by omega)
      repeat (refine stp rfl ?_ ?_;·repeat' constructor)
      apply qst;exact rfl;exact rfl;exact q_ldp rfl rfl rfl g3 rfl
      repeat (refine stp rfl ?_ ?_;·repeat' constructor)
      exact ⟨k + 1, hlt, by omega, rfl, rfl, rfl, rfl, rfl, i64_next (by omega) (by omega), rfl, rfl, by rw [hnx]; rfl, rfl, rfl, trivial⟩
    case a lo hi =>
      repeat (refine stp rfl ?_ ?_;·repeat' constructor)
      apply qst;exact rfl;exact rfl;exact q_idxA rfl rfl rfl rfl rfl rfl rfl (by omega) (by omega)
      apply qst;exact rfl;exact rfl;exact q_ldp rfl rfl rfl g1 rfl
      repeat (refine stp rfl ?_ ?_;·repeat' constructor)
      refine pw_draw 10 [33, 34, 35, 36, 37, 38, 39, 40, 41, 42] (by decide +kernel) ?_
      repeat (refine stp rfl ?_ ?_;·repeat' constructor)
      apply qst;exact rfl;exact rfl;exact q_idxA rfl rfl rfl rfl rfl rfl rfl (by omega) (by omega)
      repeat (refine stp rfl ?_ ?_;·repeat' constructor)
      apply qst;exact rfl;exact rfl;exact q_ldp rfl rfl rfl g3 rfl
      repeat (refine stp rfl ?_ ?_;·repeat' constructor)
      exact ⟨k + 1, hlt, by omega, rfl, rfl, rfl, rfl, rfl, i64_next (by omega) (by omega), rfl, rfl, by rw [hnx]; rfl, rfl, rfl, trivial⟩
    case r lo hi =>
      repeat (refine stp rfl ?_ ?_;·repeat' constructor)
      apply qst;exact rfl;exact rfl;exact q_idxA rfl rfl rfl rfl rfl rfl rfl (by omega) (by omega)
      apply qst;exact rfl;exact rfl;exact q_ldp rfl rfl rfl g1 rfl
      repeat (refine stp rfl ?_ ?_;·repeat' constructor)
      refine pw_draw 10 [33, 34, 35, 36, 37, 38, 39, 40, 41, 42] (by decide +kernel) ?_
      repeat (refine stp rfl ?_ ?_;·repeat' constructor)
      apply qst;exact rfl;exact rfl;exact q_idxA rfl rfl rfl rfl rfl rfl rfl (by omega) (by omega)
      repeat (refine stp rfl ?_ ?_;·repeat' constructor)
      apply qst;exact rfl;exact rfl;exact q_ldp rfl rfl rfl g3 rfl
      repeat (refine stp rfl ?_ ?_;·repeat' constructor)
      exact ⟨k + 1, hlt, by omega, rfl, rfl, rfl, rfl, rfl, i64_next (by omega) (by omega), rfl, rfl, by rw [hnx]; rfl, rfl, rfl, trivial⟩
    case l lo hi =>
      repeat (refine stp rfl ?_ ?_;·repeat' constructor)
      apply qst;exact rfl;exact rfl;exact q_idxA rfl rfl rfl rfl rfl rfl rfl (by omega) (by omega)
      apply qst;exact rfl;exact rfl;exact q_ldp rfl rfl rfl g1 rfl
      repeat (refine stp rfl ?_ ?_;·repeat' constructor)
      refine pw_draw 10 [33, 34, 35, 36, 37, 38, 39, 40, 41, 42] (by decide +kernel) ?_
      repeat (refine stp rfl ?_ ?_;·repeat' constructor)
      apply qst;exact rfl;exact rfl;exact q_idxA rfl rfl rfl rfl rfl rfl rfl (by omega) (by omega)
      repeat (refine stp rfl ?_ ?_;·repeat' constructor)
      apply qst;exact rfl;exact rfl;exact q_ldp rfl rfl rfl g3 rfl
      repeat (refine stp rfl ?_ ?_;·repeat' constructor)
      exact ⟨k + 1, hlt, by omega, rfl, rfl, rfl, rfl, rfl, i64_next (by omega) (by omega), rfl, rfl, by rw [hnx]; rfl, rfl, rfl, trivial⟩
  · have hz : k = fs.length := by have : ¬ k < fs.length := by simpa using h
                                  omega
    subst hz
    rw [List.take_length]
    repeat (refine stp rfl ?_ ?_;·repeat' constructor)
    exact endc rfl rfl rfl rfl (by repeat' constructor) rfl
end Go.Pv


set_option maxHeartbeats 2000000
namespace Go.Pv
attribute [local irreducible] PWP POps PQuiet PSem XThen XBlock RetPost InlPost
open Go.Proofs
def Fd.chr : Fd → UInt8
  | .o => 111 | .i => 105 | .s => 115 | .w => 119 | .a _ _ => 97 | .r _ _ => 114 | .l _ _ => 108
theorem op_cases {op : Int} (h : inside op 0 8 = true) : op = 0 ∨ op = 1 ∨ op = 2 ∨ op = 3 ∨ op = 4 ∨ op = 5 ∨ op = 6 ∨ op = 7 ∨ op = 8 := by
  simp [inside] at h; omega
theorem fields_ref (op : Int) (h : inside op 0 8 = true) : Ret Tryz.prog .shared 59 [I op] (.str ((fdsOf op).map Fd.chr)) := by
  rcases op_cases h with rfl | rfl | rfl | rfl | rfl | rfl | rfl | rfl | rfl <;> clear h <;>
  · refine Ret.of_pwp layOk mixed Go.Proofs.Tryz.func59 rfl (by decide) rfl rfl ?_
    repeat (refine stp rfl ?_ ?_;·repeat' constructor)
    apply qst;exact rfl;exact rfl;exact q_slit rfl rfl rfl rfl rfl rfl rfl rfl rfl rfl (by repeat' constructor) rfl
    repeat (refine stp rfl ?_ ?_;·repeat' constructor)
    apply qst;exact rfl;exact rfl;exact q_idxF rfl rfl rfl rfl rfl (by decide) rfl rfl
    repeat (refine stp rfl ?_ ?_;·repeat' constructor)
    exact end1 rfl rfl rfl trivial rfl
def Fd.isT : Fd → Bool
  | .o | .i | .s | .w => true
  | _ => false
theorem text_ref (p : SPost) (f : Fd) (h : f.isT = true) : Ret Tryz.prog .shared 60 [.agg (ePost p), .int .u8 f.chr.toNat] (.str (f.txt p)) := by
  cases f <;> simp only [Fd.isT, Bool.false_eq_true] at h <;> clear h
  · show Ret Tryz.prog .shared 60 [.agg (ePost p), .int .u8 111] _
    refine Ret.of_pwp layOk mixed Go.Proofs.Tryz.func60 rfl (by decide) rfl rfl ?_
    repeat (refine stp rfl ?_ ?_;·repeat' constructor)
    exact end1 rfl rfl rfl trivial rfl
  · show Ret Tryz.prog .shared 60 [.agg (ePost p), .int .u8 105] _
    refine Ret.of_pwp layOk mixed Go.Proofs.Tryz.func60 rfl (by decide) rfl rfl ?_
    repeat (refine stp rfl ?_ ?_;·repeat' constructor)
    exact end1 rfl rfl rfl trivial rfl
  · show Ret Tryz.prog .shared 60 [.agg (ePost p), .int .u8 115] _
    refine Ret.of_pwp layOk mixed Go.Proofs.Tryz.func60 rfl (by decide) rfl rfl ?_
    repeat (refine stp rfl ?_ ?_;·repeat' constructor)
    exact end1 rfl rfl rfl trivial rfl
  · show Ret Tryz.prog .shared 60 [.agg (ePost p), .int .u8 119] _
    refine Ret.of_pwp layOk mixed Go.Proofs.Tryz.func60 rfl (by decide) rfl rfl ?_
    repeat (refine stp rfl ?_ ?_;·repeat' constructor)
    exact end1 rfl rfl rfl trivial rfl
def amtB (op n : Int) : Bool := if op = 1 ∨ op = 3 then inside n 0 1000000000 else if op = 7 then inside n 1 1000000000 else inside n (-1000000000) 1000000000
theorem amount_ref (op n : Int) (h : inside op 0 8 = true) : Ret Tryz.prog .shared 71 [I op, I n] (.bool (amtB op n)) := by
  have h1 := within_ret n
  rcases op_cases h with rfl | rfl | rfl | rfl | rfl | rfl | rfl | rfl | rfl <;> clear h
  · refine Ret.of_pwp layOk mixed Go.Proofs.Tryz.func71 rfl (by decide) rfl rfl ?_
    repeat (refine stp rfl ?_ ?_;·repeat' constructor)
    apply qst;exact rfl;exact rfl;exact q_callP rfl (h1 (-1000000000) 1000000000) rfl (by repeat' constructor) rfl rfl
    repeat (refine stp rfl ?_ ?_;·repeat' constructor)
    exact end1b rfl rfl rfl
  · refine Ret.of_pwp layOk mixed Go.Proofs.Tryz.func71 rfl (by decide) rfl rfl ?_
    repeat (refine stp rfl ?_ ?_;·repeat' constructor)
    apply qst;exact rfl;exact rfl;exact q_callP rfl (h1 0 1000000000) rfl (by repeat' constructor) rfl rfl
    repeat (refine stp rfl ?_ ?_;·repeat' constructor)
    exact end1b rfl rfl rfl
  · refine Ret.of_pwp layOk mixed Go.Proofs.Tryz.func71 rfl (by decide) rfl rfl ?_
    repeat (refine stp rfl ?_ ?_;·repeat' constructor)
    apply qst;exact rfl;exact rfl;exact q_callP rfl (h1 (-1000000000) 1000000000) rfl (by repeat' constructor) rfl rfl
    repeat (refine stp rfl ?_ ?_;·repeat' constructor)
    exact end1b rfl rfl rfl
  · refine Ret.of_pwp layOk mixed Go.Proofs.Tryz.func71 rfl (by decide) rfl rfl ?_
    repeat (refine stp rfl ?_ ?_;·repeat' constructor)
    apply qst;exact rfl;exact rfl;exact q_callP rfl (h1 0 1000000000) rfl (by repeat' constructor) rfl rfl
    repeat (refine stp rfl ?_ ?_;·repeat' constructor)
    exact end1b rfl rfl rfl
  · refine Ret.of_pwp layOk mixed Go.Proofs.Tryz.func71 rfl (by decide) rfl rfl ?_
    repeat (refine stp rfl ?_ ?_;·repeat' constructor)
    apply qst;exact rfl;exact rfl;exact q_callP rfl (h1 (-1000000000) 1000000000) rfl (by repeat' constructor) rfl rfl
    repeat (refine stp rfl ?_ ?_;·repeat' constructor)
    exact end1b rfl rfl rfl
  · refine Ret.of_pwp layOk mixed Go.Proofs.Tryz.func71 rfl (by decide) rfl rfl ?_
    repeat (refine stp rfl ?_ ?_;·repeat' constructor)
    apply qst;exact rfl;exact rfl;exact q_callP rfl (h1 (-1000000000) 1000000000) rfl (by repeat' constructor) rfl rfl
    repeat (refine stp rfl ?_ ?_;·repeat' constructor)
    exact end1b rfl rfl rfl
  · refine Ret.of_pwp layOk mixed Go.Proofs.Tryz.func71 rfl (by decide) rfl rfl ?_
    repeat (refine stp rfl ?_ ?_;·repeat' constructor)
    apply qst;exact rfl;exact rfl;exact q_callP rfl (h1 (-1000000000) 1000000000) rfl (by repeat' constructor) rfl rfl
    repeat (refine stp rfl ?_ ?_;·repeat' constructor)
    exact end1b rfl rfl rfl
  · refine Ret.of_pwp layOk mixed Go.Proofs.Tryz.func71 rfl (by decide) rfl rfl ?_
    repeat (refine stp rfl ?_ ?_;·repeat' constructor)
    apply qst;exact rfl;exact rfl;exact q_callP rfl (h1 1 1000000000) rfl (by repeat' constructor) rfl rfl
    repeat (refine stp rfl ?_ ?_;·repeat' constructor)
    exact end1b rfl rfl rfl
  · refine Ret.of_pwp layOk mixed Go.Proofs.Tryz.func71 rfl (by decide) rfl rfl ?_
    repeat (refine stp rfl ?_ ?_;·repeat' constructor)
    apply qst;exact rfl;exact rfl;exact q_callP rfl (h1 (-1000000000) 1000000000) rfl (by repeat' constructor) rfl rfl
    repeat (refine stp rfl ?_ ?_;·repeat' constructor)
    exact end1b rfl rfl rfl
theorem fdsOf_bounds {op : Int} {f : Fd} (h : f ∈ fdsOf op) (hi : inside op 0 8 = true) : match f with
    | .a lo hi => ∀ n, amtB op n = inside n lo hi
    | .r lo hi => lo = 1 ∧ hi = 400
    | .l lo hi => lo = 0 ∧ hi = 1
    | _ => True := by
  rcases op_cases hi with rfl | rfl | rfl | rfl | rfl | rfl | rfl | rfl | rfl <;> clear hi <;> simp [fdsOf] at h <;> rcases h with rfl | rfl | rfl | rfl <;> simp [amtB]
set_option maxRecDepth 20000 in
theorem checkPost_ref (p : SPost) : Ret Tryz.prog .shared 17 [.agg (ePost p)] (I (checkE p)) := by
  have h1 := within_ret p.op 0 8
  have h2 := within_ret p.day 0 10000
  rw [checkE]
  cases hi : inside p.op 0 8 with
  | false =>
    rw [hi] at h1
    refine Ret.of_pwp layOk mixed Go.Proofs.Tryz.func17 rfl (by decide) rfl rfl ?_
    repeat (refine stp rfl ?_ ?_;·repeat' constructor)
    apply qst;exact rfl;exact rfl;exact q_callP rfl (h1) rfl (by repeat' constructor) rfl rfl
    repeat (refine stp rfl ?_ ?_;·repeat' constructor)
    exact end1i rfl rfl rfl
  | true =>
  rw [hi] at h1
  cases hd : inside p.day 0 10000 with
  | false =>
    rw [hd] at h2
    refine Ret.of_pwp layOk mixed Go.Proofs.Tryz.func17 rfl (by decide) rfl rfl ?_
    repeat (refine stp rfl ?_ ?_;·repeat' constructor)
    apply qst;exact rfl;exact rfl;exact q_callP rfl (h1) rfl (by repeat' constructor) rfl rfl
    repeat (refine stp rfl ?_ ?_;·repeat' constructor)
    apply qst;exact rfl;exact rfl;exact q_callP rfl (h2) rfl (by repeat' constructor) rfl rfl
    repeat (refine stp rfl ?_ ?_;·repeat' constructor)
    exact end1i rfl rfl rfl
  | true =>
  rw [hd] at h2
  rw [if_pos ⟨rfl, rfl⟩]
  have hfl := fdsOf_len p.op
  have h47 := fields_ref p.op hi
  have hml : ((fdsOf p.op).map Fd.chr).length = (fdsOf p.op).length := List.length_map _
  have h60 := text_ref p
  have h59 := isName_ref
  have h61 := amount_ref p.op p.amount hi
  have h58 := within_ret
  refine Ret.of_pwp layOk mixed Go.Proofs.Tryz.func17 rfl (by decide) rfl rfl ?_
  repeat (refine stp rfl ?_ ?_;·repeat' constructor)
  apply qst;exact rfl;exact rfl;exact q_callP rfl (h1) rfl (by repeat' constructor) rfl rfl
  repeat (refine stp rfl ?_ ?_;·repeat' constructor)
  apply qst;exact rfl;exact rfl;exact q_callP rfl (h2) rfl (by repeat' constructor) rfl rfl
  repeat (refine stp rfl ?_ ?_;·repeat' constructor)
  apply qst;exact rfl;exact rfl;exact q_callP rfl (h47) rfl (by repeat' constructor) rfl rfl
  repeat (refine stp rfl ?_ ?_;·repeat' constructor)
  refine pw_loop (ClearE (fdsOf p.op) fun _ f => f.err p) (fun k => [(1, .ptr 1 1 0 0), (3, .str ((fdsOf p.op).map Fd.chr)), (4, I k)]) (fun _ => [(1, 1, ⟨23, 9, [ePost p], 2⟩)]) (fun k => (fdsOf p.op).length - k) 0 .zero' ⟨rfl, rfl, rfl, rfl, trivial⟩ ?_
  intro k s hk
  have hkl := hk.1
  repeat (refine stp rfl ?_ ?_;·repeat' constructor)
  rw [hml]
  refine pw_cond rfl (fun h => ?_) (fun h => ?_)
  · have hlt : k < (fdsOf p.op).length := by simpa using h
    clear h
    obtain ⟨f, hf⟩ := get_lt hlt
    have hbd := fdsOf_bounds (List.mem_of_getElem? hf) hi
    cases f
    case o =>
      have hn : ((((fdsOf p.op).map Fd.chr).getD ((k : Nat) : Int).toNat 0).toNat : Int) = 111 := by
        rw [Int.toNat_natCast, List.getD_eq_getElem?_getD, List.getElem?_map, hf]; rfl
      have h60 := h60 .o rfl
      have h59 := h59 p.order
      have he : (Fd.o).err p = if isName p.order = true then 0 else 4 := rfl
      generalize isName p.order = b at h59 he
      repeat (refine stp rfl ?_ ?_;·repeat' constructor)
      refine ps_v rfl ⟨by omega, by rw [hml]; omega⟩ ?_
      rw [hn]
      repeat (refine stp rfl ?_ ?_;·repeat' constructor)
      refine pw_draw 7 [32, 33, 34, 35, 36, 37, 38] (by decide +kernel) ?_
      repeat (refine stp rfl ?_ ?_;·repeat' constructor)
      apply qst;exact rfl;exact rfl;exact .v rfl ⟨by omega, by rw [hml]; omega⟩
      rw [hn]
      repeat (refine stp rfl ?_ ?_;·repeat' constructor)
      apply qst;exact rfl;exact rfl;exact q_callP rfl (h60) rfl (by repeat' constructor) rfl rfl
      repeat (refine stp rfl ?_ ?_;·repeat' constructor)
      apply qst;exact rfl;exact rfl;exact q_callP rfl (h59) rfl (by repeat' constructor) rfl rfl
      cases b with
      | true =>
        repeat (refine stp rfl ?_ ?_;·repeat' constructor)
        exact ⟨k + 1, hk.succ hf he, by omega, rfl, rfl, i64_next (by omega) (by omega), rfl, trivial⟩
      | false =>
        repeat (refine stp rfl ?_ ?_;·repeat' constructor)
        exact end1i rfl rfl (by rw [hk.found hf he (by decide)]; rfl)
    case i =>
      have hn : ((((fdsOf p.op).map Fd.chr).getD ((k : Nat) : Int).toNat 0).toNat : Int) = 105 := by
        rw [Int.toNat_natCast, List.getD_eq_getElem?_getD, List.getElem?_map, hf]; rfl
      have h60 := h60 .i rfl
      have h59 := h59 p.item
      have he : (Fd.i).err p = if isName p.item = true then 0 else 4 := rfl
      generalize isName p.item = b at h59 he
      repeat (refine stp rfl ?_ ?_;·repeat' constructor)
      refine ps_v rfl ⟨by omega, by rw [hml]; omega⟩ ?_
      rw [hn]
      repeat (refine stp rfl ?_ ?_;·repeat' constructor)
      refine pw_draw 7 [32, 33, 34, 35, 36, 37, 38] (by decide +kernel) ?_
      repeat (refine stp rfl ?_ ?_;·repeat' constructor)
      apply qst;exact rfl;exact rfl;exact .v rfl ⟨by omega, by rw [hml]; omega⟩
      rw [hn]
      repeat (refine stp rfl ?_ ?_;·repeat' constructor)
      apply qst;exact rfl;exact rfl;exact q_callP rfl (h60) rfl (by repeat' constructor) rfl rfl
      repeat (refine stp rfl ?_ ?_;·repeat' constructor)
      apply qst;exact rfl;exact rfl;exact q_callP rfl (h59) rfl (by repeat' constructor) rfl rfl
      cases b with
      | true =>
        repeat (refine stp rfl ?_ ?_;·repeat' constructor)
        exact ⟨k + 1, hk.succ hf he, by omega, rfl, rfl, i64_next (by omega) (by omega), rfl, trivial⟩
      | false =>
        repeat (refine stp rfl ?_ ?_;·repeat' constructor)
        exact end1i rfl rfl (by rw [hk.found hf he (by decide)]; rfl)
    case s =>
      have hn : ((((fdsOf p.op).map Fd.chr).getD ((k : Nat) : Int).toNat 0).toNat : Int) = 115 := by
        rw [Int.toNat_natCast, List.getD_eq_getElem?_getD, List.getElem?_map, hf]; rfl
      have h60 := h60 .s rfl
      have h59 := h59 p.ship
      have he : (Fd.s).err p = if isName p.ship = true then 0 else 4 := rfl
      generalize isName p.ship = b at h59 he
      repeat (refine stp rfl ?_ ?_;·repeat' constructor)
      refine ps_v rfl ⟨by omega, by rw [hml]; omega⟩ ?_
      rw [hn]
      repeat (refine stp rfl ?_ ?_;·repeat' constructor)
      refine pw_draw 7 [32, 33, 34, 35, 36, 37, 38] (by decide +kernel) ?_
      repeat (refine stp rfl ?_ ?_;·repeat' constructor)
      apply qst;exact rfl;exact rfl;exact .v rfl ⟨by omega, by rw [hml]; omega⟩
      rw [hn]
      repeat (refine stp rfl ?_ ?_;·repeat' constructor)
      apply qst;exact rfl;exact rfl;exact q_callP rfl (h60) rfl (by repeat' constructor) rfl rfl
      repeat (refine stp rfl ?_ ?_;·repeat' constructor)
      apply qst;exact rfl;exact rfl;exact q_callP rfl (h59) rfl (by repeat' constructor) rfl rfl
      cases b with
      | true =>
        repeat (refine stp rfl ?_ ?_;·repeat' constructor)
        exact ⟨k + 1, hk.succ hf he, by omega, rfl, rfl, i64_next (by omega) (by omega), rfl, trivial⟩
      | false =>
        repeat (refine stp rfl ?_ ?_;·repeat' constructor)
        exact end1i rfl rfl (by rw [hk.found hf he (by decide)]; rfl)
    case w =>
      have hn : ((((fdsOf p.op).map Fd.chr).getD ((k : Nat) : Int).toNat 0).toNat : Int) = 119 := by
        rw [Int.toNat_natCast, List.getD_eq_getElem?_getD, List.getElem?_map, hf]; rfl
      have h60 := h60 .w rfl
      have h59 := h59 p.who
      have he : (Fd.w).err p = if isName p.who = true then 0 else 4 := rfl
      generalize isName p.who = b at h59 he
      repeat (refine stp rfl ?_ ?_;·repeat' constructor)
      refine ps_v rfl ⟨by omega, by rw [hml]; omega⟩ ?_
      rw [hn]
      repeat (refine stp rfl ?_ ?_;·repeat' constructor)
      refine pw_draw 7 [32, 33, 34, 35, 36, 37, 38] (by decide +kernel) ?_
      repeat (refine stp rfl ?_ ?_;·repeat' constructor)
      apply qst;exact rfl;exact rfl;exact .v rfl ⟨by omega, by rw [hml]; omega⟩
      rw [hn]
      repeat (refine stp rfl ?_ ?_;·repeat' constructor)
      apply qst;exact rfl;exact rfl;exact q_callP rfl (h60) rfl (by repeat' constructor) rfl rfl
      repeat (refine stp rfl ?_ ?_;·repeat' constructor)
      apply qst;exact rfl;exact rfl;exact q_callP rfl (h59) rfl (by repeat' constructor) rfl rfl
      cases b with
      | true =>
        repeat (refine stp rfl ?_ ?_;·repeat' constructor)
        exact ⟨k + 1, hk.succ hf he, by omega, rfl, rfl, i64_next (by omega) (by omega), rfl, trivial⟩
      | false =>
        repeat (refine stp rfl ?_ ?_;·repeat' constructor)
        exact end1i rfl rfl (by rw [hk.found hf he (by decide)]; rfl)
    case a lo hi =>
      have hn : ((((fdsOf p.op).map Fd.chr).getD ((k : Nat) : Int).toNat 0).toNat : Int) = 97 := by
        rw [Int.toNat_natCast, List.getD_eq_getElem?_getD, List.getElem?_map, hf]; rfl
      rw [hbd p.amount] at h61
      have hc := h61
      have he : (Fd.a lo hi).err p = if inside p.amount lo hi = true then 0 else 2 := rfl
      generalize inside p.amount lo hi = b at hc he
      repeat (refine stp rfl ?_ ?_;·repeat' constructor)
      refine ps_v rfl ⟨by omega, by rw [hml]; omega⟩ ?_
      rw [hn]
      repeat (refine stp rfl ?_ ?_;·repeat' constructor)
      apply qst;exact rfl;exact rfl;exact q_callP rfl (hc) rfl (by repeat' constructor) rfl rfl
      cases b with
      | true =>
        repeat (refine stp rfl ?_ ?_;·repeat' constructor)
        exact ⟨k + 1, hk.succ hf he, by omega, rfl, rfl, i64_next (by omega) (by omega), rfl, trivial⟩
      | false =>
        repeat (refine stp rfl ?_ ?_;·repeat' constructor)
        exact end1i rfl rfl (by rw [hk.found hf he (by decide)]; rfl)
    case r lo hi =>
      have hn : ((((fdsOf p.op).map Fd.chr).getD ((k : Nat) : Int).toNat 0).toNat : Int) = 114 := by
        rw [Int.toNat_natCast, List.getD_eq_getElem?_getD, List.getElem?_map, hf]; rfl
      obtain ⟨rfl, rfl⟩ := hbd
      have hc := h58 p.ref 1 400
      have he : (Fd.r 1 400).err p = if inside p.ref 1 400 = true then 0 else 2 := rfl
      generalize inside p.ref 1 400 = b at hc he
      repeat (refine stp rfl ?_ ?_;·repeat' constructor)
      refine ps_v rfl ⟨by omega, by rw [hml]; omega⟩ ?_
      rw [hn]
      repeat (refine stp rfl ?_ ?_;·repeat' constructor)
      apply qst;exact rfl;exact rfl;exact q_callP rfl (hc) rfl (by repeat' constructor) rfl rfl
      cases b with
      | true =>
        repeat (refine stp rfl ?_ ?_;·repeat' constructor)
        exact ⟨k + 1, hk.succ hf he, by omega, rfl, rfl, i64_next (by omega) (by omega), rfl, trivial⟩
      | false =>
        repeat (refine stp rfl ?_ ?_;·repeat' constructor)
        exact end1i rfl rfl (by rw [hk.found hf he (by decide)]; rfl)
    case l lo hi =>
      have hn : ((((fdsOf p.op).map Fd.chr).getD ((k : Nat) : Int).toNat 0).toNat : Int) = 108 := by
        rw [Int.toNat_natCast, List.getD_eq_getElem?_getD, List.getElem?_map, hf]; rfl
      obtain ⟨rfl, rfl⟩ := hbd
      have hc := h58 p.role 0 1
      have he : (Fd.l 0 1).err p = if inside p.role 0 1 = true then 0 else 2 := rfl
      generalize inside p.role 0 1 = b at hc he
      repeat (refine stp rfl ?_ ?_;·repeat' constructor)
      refine ps_v rfl ⟨by omega, by rw [hml]; omega⟩ ?_
      rw [hn]
      repeat (refine stp rfl ?_ ?_;·repeat' constructor)
      apply qst;exact rfl;exact rfl;exact q_callP rfl (hc) rfl (by repeat' constructor) rfl rfl
      cases b with
      | true =>
        repeat (refine stp rfl ?_ ?_;·repeat' constructor)
        exact ⟨k + 1, hk.succ hf he, by omega, rfl, rfl, i64_next (by omega) (by omega), rfl, trivial⟩
      | false =>
        repeat (refine stp rfl ?_ ?_;·repeat' constructor)
        exact end1i rfl rfl (by rw [hk.found hf he (by decide)]; rfl)
  · repeat (refine stp rfl ?_ ?_;·repeat' constructor)
    exact end1i rfl rfl (by rw [hk.none (by simpa using h)])
set_option maxRecDepth 20000 in
theorem clean_ref (p : SPost) (hi : inside p.op 0 8 = true) : Ret Tryz.prog .shared 18 [.agg (ePost p)] (.agg (ePost (cleanP p))) := by
  have hfl := fdsOf_len p.op
  have h47 := fields_ref p.op hi
  have hml : ((fdsOf p.op).map Fd.chr).length = (fdsOf p.op).length := List.length_map _
  rw [cleanP]
  refine Ret.of_pwp layOk mixed Go.Proofs.Tryz.func18 rfl (by decide) rfl rfl ?_
  repeat (refine stp rfl ?_ ?_;·repeat' constructor)
  apply qst;exact rfl;exact rfl;exact q_callP rfl (h47) rfl (by repeat' constructor) rfl rfl
  repeat (refine stp rfl ?_ ?_;·repeat' constructor)
  refine pw_loop (fun k => k ≤ (fdsOf p.op).length) (fun k => [(1, .ptr 1 1 0 0), (2, .ptr 2 1 0 0), (3, .ptr 3 1 0 0), (4, .str ((fdsOf p.op).map Fd.chr)), (5, I k)])
    (fun k => [(1, 1, ⟨23, 9, [ePost p], 2⟩), (2, 1, ⟨23, 9, [[I 0, I 0, .str [], .str [], .str [], .str [], I 0, I 0, I 0]], 2⟩), (3, 1, ⟨23, 9, [ePost (cpyK p ((fdsOf p.op).take k))], 2⟩)]) (fun k => (fdsOf p.op).length - k) 0 (Nat.zero_le _) ⟨rfl, rfl, rfl, rfl, rfl, rfl, rfl, rfl, trivial⟩ ?_
  intro k s hk
  have hk : k ≤ (fdsOf p.op).length := hk
  repeat (refine stp rfl ?_ ?_;·repeat' constructor)
  rw [hml]
  refine pw_cond rfl (fun h => ?_) (fun h => ?_)
  · have hlt : k < (fdsOf p.op).length := by simpa using h
    clear h
    obtain ⟨f, hf⟩ := get_lt hlt
    have hnx := cpyK_snoc p hf
    generalize cpyK p ((fdsOf p.op).take k) = q at *
    cases f
    case o =>
      have hn : ((((fdsOf p.op).map Fd.chr).getD ((k : Nat) : Int).toNat 0).toNat : Int) = 111 := by
        rw [Int.toNat_natCast, List.getD_eq_getElem?_getD, List.getElem?_map, hf]; rfl
      repeat (refine stp rfl ?_ ?_;·repeat' constructor)
      refine ps_v rfl ⟨by omega, by rw [hml]; omega⟩ ?_
      rw [hn]
      repeat (refine stp rfl ?_ ?_;·repeat' constructor)
      exact ⟨k + 1, hlt, by omega, rfl, rfl, rfl, rfl, i64_next (by omega) (by omega), rfl, rfl, by rw [hnx]; rfl, trivial⟩
    case i =>
      have hn : ((((fdsOf p.op).map Fd.chr).getD ((k : Nat) : Int).toNat 0).toNat : Int) = 105 := by
        rw [Int.toNat_natCast, List.getD_eq_getElem?_getD, List.getElem?_map, hf]; rfl
      repeat (refine stp rfl ?_ ?_;·repeat' constructor)
      refine ps_v rfl ⟨by omega, by rw [hml]; omega⟩ ?_
      rw [hn]
      repeat (refine stp rfl ?_ ?_;·repeat' constructor)
      exact ⟨k + 1, hlt, by omega, rfl, rfl, rfl, rfl, i64_next (by omega) (by omega), rfl, rfl, by rw [hnx]; rfl, trivial⟩
    case s =>
      have hn : ((((fdsOf p.op).map Fd.chr).getD ((k : Nat) : Int).toNat 0).toNat : Int) = 115 := by
        rw [Int.toNat_natCast, List.getD_eq_getElem?_getD, List.getElem?_map, hf]; rfl
      repeat (refine stp rfl ?_ ?_;·repeat' constructor)
      refine ps_v rfl ⟨by omega, by rw [hml]; omega⟩ ?_
      rw [hn]
      repeat (refine stp rfl ?_ ?_;·repeat' constructor)
      exact ⟨k + 1, hlt, by omega, rfl, rfl, rfl, rfl, i64_next (by omega) (by omega), rfl, rfl, by rw [hnx]; rfl, trivial⟩
    case w =>
      have hn : ((((fdsOf p.op).map Fd.chr).getD ((k : Nat) : Int).toNat 0).toNat : Int) = 119 := by
        rw [Int.toNat_natCast, List.getD_eq_getElem?_getD, List.getElem?_map, hf]; rfl
      repeat (refine stp rfl ?_ ?_;·repeat' constructor)
      refine ps_v rfl ⟨by omega, by rw [hml]; omega⟩ ?_
      rw [hn]
      repeat (refine stp rfl ?_ ?_;·repeat' constructor)
      exact ⟨k + 1, hlt, by omega, rfl, rfl, rfl, rfl, i64_next (by omega) (by omega), rfl, rfl, by rw [hnx]; rfl, trivial⟩
    case a lo hi =>
      have hn : ((((fdsOf p.op).map Fd.chr).getD ((k : Nat) : Int).toNat 0).toNat : Int) = 97 := by
        rw [Int.toNat_natCast, List.getD_eq_getElem?_getD, List.getElem?_map, hf]; rfl
      repeat (refine stp rfl ?_ ?_;·repeat' constructor)
      refine ps_v rfl ⟨by omega, by rw [hml]; omega⟩ ?_
      rw [hn]
      repeat (refine stp rfl ?_ ?_;·repeat' constructor)
      exact ⟨k + 1, hlt, by omega, rfl, rfl, rfl, rfl, i64_next (by omega) (by omega), rfl, rfl, by rw [hnx]; rfl, trivial⟩
    case r lo hi =>
      have hn : ((((fdsOf p.op).map Fd.chr).getD ((k : Nat) : Int).toNat 0).toNat : Int) = 114 := by
        rw [Int.toNat_natCast, List.getD_eq_getElem?_getD, List.getElem?_map, hf]; rfl
      repeat (refine stp rfl ?_ ?_;·repeat' constructor)
      refine ps_v rfl ⟨by omega, by rw [hml]; omega⟩ ?_
      rw [hn]
      repeat (refine stp rfl ?_ ?_;·repeat' constructor)
      exact ⟨k + 1, hlt, by omega, rfl, rfl, rfl, rfl, i64_next (by omega) (by omega), rfl, rfl, by rw [hnx]; rfl, trivial⟩
    case l lo hi =>
      have hn : ((((fdsOf p.op).map Fd.chr).getD ((k : Nat) : Int).toNat 0).toNat : Int) = 108 := by
        rw [Int.toNat_natCast, List.getD_eq_getElem?_getD, List.getElem?_map, hf]; rfl
      repeat (refine stp rfl ?_ ?_;·repeat' constructor)
      refine ps_v rfl ⟨by omega, by rw [hml]; omega⟩ ?_
      rw [hn]
      repeat (refine stp rfl ?_ ?_;·repeat' constructor)
      exact ⟨k + 1, hlt, by omega, rfl, rfl, rfl, rfl, i64_next (by omega) (by omega), rfl, rfl, by rw [hnx]; rfl, trivial⟩
  · have hz : k = (fdsOf p.op).length := by have : ¬ k < (fdsOf p.op).length := by simpa using h
                                            omega
    subst hz
    rw [List.take_length]
    repeat (refine stp rfl ?_ ?_;·repeat' constructor)
    exact endc rfl rfl rfl rfl (by repeat' constructor) rfl
end Go.Pv


set_option maxHeartbeats 2000000
namespace Go.Pv
attribute [local irreducible] PWP POps PQuiet PSem XThen XBlock RetPost InlPost
open Go.Proofs
theorem checkE_op {p : SPost} (h : checkE p = 0) : inside p.op 0 8 = true ∧ inside p.day 0 10000 = true ∧ fstE (fdsOf p.op) (fun _ f => f.err p) = 0 := by
  rw [checkE] at h
  split at h
  · rename_i h'; exact ⟨h'.1, h'.2, h⟩
  · omega
theorem checkE_ref {p : SPost} (h : checkE p = 0) (ho : p.op = 4 ∨ p.op = 5 ∨ p.op = 8) : 1 ≤ p.ref ∧ p.ref ≤ 400 := by
  have hz := fstE_zero (checkE_op h).2.2 0 (.r 1 400) (by rcases ho with e | e | e <;> rw [e] <;> rfl)
  have hz : (if inside p.ref 1 400 = true then (0 : Int) else 2) = 0 := hz
  by_cases h' : inside p.ref 1 400 = true
  · simpa [inside] using h'
  · rw [if_neg h'] at hz; omega
def refusalR (l : List SPost) (p : SPost) : Int :=
  if checkE p = 0 then (if 400 ≤ l.length then 8 else if 0 < l.length ∧ p.day < (entL l l.length).day then 10 else refE l p) else checkE p
set_option maxRecDepth 20000 in
theorem refusal_ref (l : List SPost) (hW : Wf l) (p : SPost) : Ret Tryz.prog .shared 72 [.sl (l.map ePost), .agg (ePost p)] (I (refusalR l p)) := by
  have hl := hW.len
  have hll : ((l.map ePost).length : Int) = l.length := by simp
  have h39 := checkPost_ref p
  rw [refusalR]
  by_cases hc : checkE p = 0
  case neg =>
    rw [if_neg hc]
    refine Ret.of_pwp layOk mixed Go.Proofs.Tryz.func72 rfl (by decide) rfl rfl ?_
    repeat (refine stp rfl ?_ ?_;·repeat' constructor)
    apply qst;exact rfl;exact rfl;exact q_callP rfl (h39) rfl (by repeat' constructor) rfl rfl
    repeat (refine stp rfl ?_ ?_;·repeat' constructor)
    refine pw_cond rfl (fun h => ?_) (fun h => ?_)
    · repeat (refine stp rfl ?_ ?_;·repeat' constructor)
      exact end1i rfl rfl rfl
    · exact absurd (by simpa using h) hc
  rw [if_pos hc]
  have href := checkE_ref hc
  rw [hc] at h39
  have hin := op_cases (checkE_op hc).1
  clear hc
  by_cases h4 : 400 ≤ l.length
  · rw [if_pos h4]
    refine Ret.of_pwp layOk mixed Go.Proofs.Tryz.func72 rfl (by decide) rfl rfl ?_
    repeat (refine stp rfl ?_ ?_;·repeat' constructor)
    apply qst;exact rfl;exact rfl;exact q_callP rfl (h39) rfl (by repeat' constructor) rfl rfl
    repeat (refine stp rfl ?_ ?_;·repeat' constructor)
    rw [hll]
    refine pw_cond rfl (fun h => ?_) (fun h => ?_)
    · repeat (refine stp rfl ?_ ?_;·repeat' constructor)
      exact end1i rfl rfl rfl
    · exact absurd (of_decide_eq_false h) (by omega)
  rw [if_neg h4]
  have h33 := order_ref l p.order hl
  have h41 := item_ref l p.order p.item hl
  have hob := ordNo_le l p.order
  have hib := itmNo_le l p.order p.item
  have h40 := of_ref l hW
  have h42 := refers_ref l hW p.ref
  have hwl : 0 < l.length → IntKind.wrap .i64 ((l.length : Int) - 1) = (l.length : Int) - 1 := fun h => wrap_i64 (by omega) (by omega)
  by_cases hday : 0 < l.length ∧ p.day < (entL l l.length).day
  · rw [if_pos hday]
    have he := entL_at (l := l) (n := l.length) (by omega) (by omega)
    have hwl := hwl hday.1
    refine Ret.of_pwp layOk mixed Go.Proofs.Tryz.func72 rfl (by decide) rfl rfl ?_
    repeat (refine stp rfl ?_ ?_;·repeat' constructor)
    apply qst;exact rfl;exact rfl;exact q_callP rfl (h39) rfl (by repeat' constructor) rfl rfl
    repeat (refine stp rfl ?_ ?_;·repeat' constructor)
    rw [hll]
    refine pw_cond rfl (fun h => ?_) (fun h => ?_)
    · exact absurd (of_decide_eq_true h) (by omega)
    clear h
    repeat (refine stp rfl ?_ ?_;·repeat' constructor)
    refine pw_draw 15 [18, 19, 20, 21, 22, 23, 24, 25, 26, 27, 28, 29, 30, 31, 32] (by decide +kernel) ?_
    repeat (refine stp rfl ?_ ?_;·repeat' constructor)
    rw [hll]
    (first | refine ps_split rfl rfl (fun h => ?_) (fun h => ?_) | refine pq_split rfl rfl (fun h => ?_) (fun h => ?_) | refine p3_split rfl rfl (fun h => ?_) (fun h => ?_))
    · repeat (refine stp rfl ?_ ?_;·repeat' constructor)
      rw [hll, hwl]
      apply qst;exact rfl;exact rfl;exact q_idxm rfl rfl rfl rfl rfl (by omega) he rfl
      repeat (refine stp rfl ?_ ?_;·repeat' constructor)
      refine pw_cond rfl (fun h => ?_) (fun h => ?_)
      · repeat (refine stp rfl ?_ ?_;·repeat' constructor)
        exact end1i rfl rfl rfl
      · exact absurd (of_decide_eq_false h) (by omega)
    · exact absurd (of_decide_eq_false h) (by omega)
  rw [if_neg hday]
  refine Ret.of_pwp layOk mixed Go.Proofs.Tryz.func72 rfl (by decide) rfl rfl ?_
  repeat (refine stp rfl ?_ ?_;·repeat' constructor)
  apply qst;exact rfl;exact rfl;exact q_callP rfl (h39) rfl (by repeat' constructor) rfl rfl
  repeat (refine stp rfl ?_ ?_;·repeat' constructor)
  rw [hll]
  refine pw_cond rfl (fun h => ?_) (fun h => ?_)
  · exact absurd (of_decide_eq_true h) (by omega)
  clear h
  refine pw_skip ?_
  refine x_norm ?_
  refine pw_cut [(0, .sl (l.map ePost)), (3, .ptr 3 1 0 0)] [(3, 1, ⟨23, 9, [ePost p], 2⟩)] ?_ ?_
  · repeat (refine stp rfl ?_ ?_;·repeat' constructor)
    refine pw_draw 15 [18, 19, 20, 21, 22, 23, 24, 25, 26, 27, 28, 29, 30, 31, 32] (by decide +kernel) ?_
    repeat (refine stp rfl ?_ ?_;·repeat' constructor)
    rw [hll]
    (first | refine ps_split rfl rfl (fun h => ?_) (fun h => ?_) | refine pq_split rfl rfl (fun h => ?_) (fun h => ?_) | refine p3_split rfl rfl (fun h => ?_) (fun h => ?_))
    · have hlp := of_decide_eq_true h
      have he := entL_at (l := l) (n := l.length) (by omega) (by omega)
      have hwl := hwl (by omega)
      repeat (refine stp rfl ?_ ?_;·repeat' constructor)
      rw [hll, hwl]
      apply qst;exact rfl;exact rfl;exact q_idxm rfl rfl rfl rfl rfl (by omega) he rfl
      repeat (refine stp rfl ?_ ?_;·repeat' constructor)
      refine pw_cond rfl (fun h => ?_) (fun h => ?_)
      · exact absurd (of_decide_eq_true h) (by omega)
      · repeat (refine stp rfl ?_ ?_;·repeat' constructor)
        exact ⟨rfl, rfl, rfl, trivial⟩
    · repeat (refine stp rfl ?_ ?_;·repeat' constructor)
      exact ⟨rfl, rfl, rfl, trivial⟩
  intro s
  clear hday hwl h39 h4
  rw [refE]
  by_cases h0 : p.op = 0
  · rw [if_pos h0]
    repeat (refine stp rfl ?_ ?_;·repeat' constructor)
    apply qst;exact rfl;exact rfl;exact q_callP rfl (h33) rfl (by repeat' constructor) rfl rfl
    repeat (first|(refine stp rfl ?_ ?_;·repeat' constructor)|(refine pw_cond rfl (fun hA => absurd hA (by intro hA; simp only [decide_eq_true_eq, decide_eq_false_iff_not, Bool.not_eq_true', Bool.not_eq_false'] at hA; omega)) (fun _ => ?_))|(refine pw_cond rfl (fun _ => ?_) (fun hA => absurd hA (by intro hA; simp only [decide_eq_true_eq, decide_eq_false_iff_not, Bool.not_eq_true', Bool.not_eq_false'] at hA; omega))))
    refine pw_cond rfl (fun h => ?_) (fun h => ?_)
    · have := of_decide_eq_true h
      repeat (refine stp rfl ?_ ?_;·repeat' constructor)
      exact end1i rfl rfl (by rw [if_pos this])
    · have := of_decide_eq_false h
      repeat (refine stp rfl ?_ ?_;·repeat' constructor)
      exact end1i rfl rfl (by rw [if_neg this])
  rw [if_neg h0]
  by_cases h1 : p.op = 1
  · rw [if_pos h1]
    have hs := h40 _ hob.1 hob.2
    clear h0
    repeat (refine stp rfl ?_ ?_;·repeat' constructor)
    apply qst;exact rfl;exact rfl;exact q_callP rfl (h33) rfl (by repeat' constructor) rfl rfl
    repeat (first|(refine stp rfl ?_ ?_;·repeat' constructor)|(refine pw_cond rfl (fun hA => absurd hA (by intro hA; simp only [decide_eq_true_eq, decide_eq_false_iff_not, Bool.not_eq_true', Bool.not_eq_false'] at hA; omega)) (fun _ => ?_))|(refine pw_cond rfl (fun _ => ?_) (fun hA => absurd hA (by intro hA; simp only [decide_eq_true_eq, decide_eq_false_iff_not, Bool.not_eq_true', Bool.not_eq_false'] at hA; omega))))
    apply qst;exact rfl;exact rfl;exact q_callP rfl (hs) rfl (by repeat' constructor) rfl rfl
    repeat (refine stp rfl ?_ ?_;·repeat' constructor)
    refine pw_cond rfl (fun h => ?_) (fun h => ?_)
    · have he : ¬ standE l (ordNo l p.order) = 0 := by simpa using h
      repeat (refine stp rfl ?_ ?_;·repeat' constructor)
      exact end1i rfl rfl (by rw [if_neg he])
    have he : standE l (ordNo l p.order) = 0 := by simpa using h
    rw [if_pos he]
    clear h
    repeat (refine stp rfl ?_ ?_;·repeat' constructor)
    apply qst;exact rfl;exact rfl;exact q_callP rfl (h41) rfl (by repeat' constructor) rfl rfl
    repeat (refine stp rfl ?_ ?_;·repeat' constructor)
    refine pw_cond rfl (fun h => ?_) (fun h => ?_)
    · have := of_decide_eq_true h
      repeat (refine stp rfl ?_ ?_;·repeat' constructor)
      exact end1i rfl rfl (by rw [if_pos this])
    · have := of_decide_eq_false h
      repeat (refine stp rfl ?_ ?_;·repeat' constructor)
      exact end1i rfl rfl (by rw [if_neg this])
  rw [if_neg h1]
  by_cases h4 : p.op = 4
  · rw [if_pos h4]
    have hrf := href (.inl h4)
    have ha := h42 hrf.1 [2, 3] (by decide)
    have hz := fun h => aimE_zero (l := l) (n := p.ref) (ks := [2, 3]) h
    clear h0 h1
    repeat (refine stp rfl ?_ ?_;·repeat' constructor)
    apply qst;exact rfl;exact rfl;exact q_callP rfl (h33) rfl (by repeat' constructor) rfl rfl
    repeat (first|(refine stp rfl ?_ ?_;·repeat' constructor)|(refine pw_cond rfl (fun hA => absurd hA (by intro hA; simp only [decide_eq_true_eq, decide_eq_false_iff_not, Bool.not_eq_true', Bool.not_eq_false'] at hA; omega)) (fun _ => ?_))|(refine pw_cond rfl (fun _ => ?_) (fun hA => absurd hA (by intro hA; simp only [decide_eq_true_eq, decide_eq_false_iff_not, Bool.not_eq_true', Bool.not_eq_false'] at hA; omega))))
    apply qst;exact rfl;exact rfl;exact q_slit rfl rfl rfl rfl rfl rfl rfl rfl rfl rfl (by repeat' constructor) rfl
    repeat (refine stp rfl ?_ ?_;·repeat' constructor)
    apply qst;exact rfl;exact rfl;exact q_callP rfl (ha) rfl (by repeat' constructor) rfl rfl
    repeat (refine stp rfl ?_ ?_;·repeat' constructor)
    refine pw_cond rfl (fun h => ?_) (fun h => ?_)
    · have he : ¬ aimE l p.ref [2, 3] = 0 := by simpa using h
      repeat (refine stp rfl ?_ ?_;·repeat' constructor)
      exact end1i rfl rfl (by rw [if_neg he])
    have he : aimE l p.ref [2, 3] = 0 := by simpa using h
    rw [if_pos he]
    clear h
    have hb := hz he
    have hen := entL_at hb.1 hb.2
    have hw : IntKind.wrap .i64 (p.ref - 1) = p.ref - 1 := wrap_i64 (by omega) (by omega)
    repeat (refine stp rfl ?_ ?_;·repeat' constructor)
    refine pw_draw 20 [79, 80, 81, 82, 83, 84, 85, 86, 87, 88, 89, 90, 91, 92, 93, 94, 95, 96, 97, 98] (by decide +kernel) ?_
    repeat (refine stp rfl ?_ ?_;·repeat' constructor)
    rw [hw]
    apply qst;exact rfl;exact rfl;exact q_idxm rfl rfl rfl rfl rfl (by omega) hen rfl
    repeat (refine stp rfl ?_ ?_;·repeat' constructor)
    (first | refine ps_split rfl rfl (fun h => ?_) (fun h => ?_) | refine pq_split rfl rfl (fun h => ?_) (fun h => ?_) | refine p3_split rfl rfl (fun h => ?_) (fun h => ?_))
    · have g1 := of_decide_eq_true h
      repeat (refine stp rfl ?_ ?_;·repeat' constructor)
      rw [hw]
      apply qst;exact rfl;exact rfl;exact q_idxm rfl rfl rfl rfl rfl (by omega) hen rfl
      repeat (refine stp rfl ?_ ?_;·repeat' constructor)
      refine pw_cond rfl (fun h => ?_) (fun h => ?_)
      · have g2 := of_decide_eq_true h
        repeat (refine stp rfl ?_ ?_;·repeat' constructor)
        exact end1i rfl rfl (by rw [if_pos ⟨g1, g2⟩])
      · have g2 := of_decide_eq_false h
        repeat (refine stp rfl ?_ ?_;·repeat' constructor)
        exact end1i rfl rfl (by rw [if_neg (fun h => g2 h.2)])
    · have g1 := of_decide_eq_false h
      repeat (refine stp rfl ?_ ?_;·repeat' constructor)
      exact end1i rfl rfl (by rw [if_neg (fun h => g1 h.1)])
  rw [if_neg h4]
  by_cases h5 : p.op = 5
  · rw [if_pos h5]
    have hrf := href (.inr (.inl h5))
    have ha := h42 hrf.1 [1, 2, 3] (by decide)
    have hz := fun h => aimE_zero (l := l) (n := p.ref) (ks := [1, 2, 3]) h
    clear h0 h1 h4
    repeat (refine stp rfl ?_ ?_;·repeat' constructor)
    apply qst;exact rfl;exact rfl;exact q_callP rfl (h33) rfl (by repeat' constructor) rfl rfl
    repeat (first|(refine stp rfl ?_ ?_;·repeat' constructor)|(refine pw_cond rfl (fun hA => absurd hA (by intro hA; simp only [decide_eq_true_eq, decide_eq_false_iff_not, Bool.not_eq_true', Bool.not_eq_false'] at hA; omega)) (fun _ => ?_))|(refine pw_cond rfl (fun _ => ?_) (fun hA => absurd hA (by intro hA; simp only [decide_eq_true_eq, decide_eq_false_iff_not, Bool.not_eq_true', Bool.not_eq_false'] at hA; omega))))
    apply qst;exact rfl;exact rfl;exact q_slit rfl rfl rfl rfl rfl rfl rfl rfl rfl rfl (by repeat' constructor) rfl
    repeat (refine stp rfl ?_ ?_;·repeat' constructor)
    apply qst;exact rfl;exact rfl;exact q_callP rfl (ha) rfl (by repeat' constructor) rfl rfl
    repeat (refine stp rfl ?_ ?_;·repeat' constructor)
    refine pw_cond rfl (fun h => ?_) (fun h => ?_)
    · have he : ¬ aimE l p.ref [1, 2, 3] = 0 := by simpa using h
      repeat (refine stp rfl ?_ ?_;·repeat' constructor)
      exact end1i rfl rfl (by rw [if_neg he])
    have he : aimE l p.ref [1, 2, 3] = 0 := by simpa using h
    rw [if_pos he]
    clear h
    have hb := hz he
    have hen := entL_at hb.1 hb.2
    have hw : IntKind.wrap .i64 (p.ref - 1) = p.ref - 1 := wrap_i64 (by omega) (by omega)
    repeat (refine stp rfl ?_ ?_;·repeat' constructor)
    rw [hw]
    apply qst;exact rfl;exact rfl;exact q_idxm rfl rfl rfl rfl rfl (by omega) hen rfl
    repeat (refine stp rfl ?_ ?_;·repeat' constructor)
    (first | refine ps_split rfl rfl (fun h => ?_) (fun h => ?_) | refine pq_split rfl rfl (fun h => ?_) (fun h => ?_) | refine p3_split rfl rfl (fun h => ?_) (fun h => ?_))
    · have g1 : ¬ (entL l p.ref).op = 2 := by simpa using h
      repeat (refine stp rfl ?_ ?_;·repeat' constructor)
      refine pw_cond rfl (fun h => ?_) (fun h => ?_)
      · have g2 := of_decide_eq_true h
        repeat (refine stp rfl ?_ ?_;·repeat' constructor)
        exact end1i rfl rfl (by rw [if_pos ⟨g1, g2⟩])
      · have g2 := of_decide_eq_false h
        repeat (refine stp rfl ?_ ?_;·repeat' constructor)
        exact end1i rfl rfl (by rw [if_neg (fun h => g2 h.2)])
    · have g1 : (entL l p.ref).op = 2 := by simpa using h
      repeat (refine stp rfl ?_ ?_;·repeat' constructor)
      exact end1i rfl rfl (by rw [if_neg (fun h => h.1 g1)])
  rw [if_neg h5]
  by_cases h8 : p.op = 8
  · rw [if_pos h8]
    have hrf := href (.inr (.inr h8))
    have ha := h42 hrf.1 [0, 1, 2, 3, 4, 5, 6, 7] (by decide)
    clear h0 h1 h4 h5
    repeat (refine stp rfl ?_ ?_;·repeat' constructor)
    apply qst;exact rfl;exact rfl;exact q_callP rfl (h33) rfl (by repeat' constructor) rfl rfl
    repeat (first|(refine stp rfl ?_ ?_;·repeat' constructor)|(refine pw_cond rfl (fun hA => absurd hA (by intro hA; simp only [decide_eq_true_eq, decide_eq_false_iff_not, Bool.not_eq_true', Bool.not_eq_false'] at hA; omega)) (fun _ => ?_))|(refine pw_cond rfl (fun _ => ?_) (fun hA => absurd hA (by intro hA; simp only [decide_eq_true_eq, decide_eq_false_iff_not, Bool.not_eq_true', Bool.not_eq_false'] at hA; omega))))
    apply qst;exact rfl;exact rfl;exact q_slit rfl rfl rfl rfl rfl rfl rfl rfl rfl rfl (by repeat' constructor) rfl
    repeat (refine stp rfl ?_ ?_;·repeat' constructor)
    apply qst;exact rfl;exact rfl;exact q_callP rfl (ha) rfl (by repeat' constructor) rfl rfl
    repeat (refine stp rfl ?_ ?_;·repeat' constructor)
    exact end1i rfl rfl rfl
  rw [if_neg h8]
  by_cases h2 : p.op = 2 ∨ p.op = 3
  · have hs := h40 _ hib.1 hib.2
    have hsu : supNo l p = itmNo l p.order p.item := by rw [supNo, if_neg (by omega), if_pos h2]
    rw [hsu]
    clear h0 h1 h4 h5 h8 hin
    rcases h2 with h2 | h2 <;>
    · repeat (refine stp rfl ?_ ?_;·repeat' constructor)
      apply qst;exact rfl;exact rfl;exact q_callP rfl (h33) rfl (by repeat' constructor) rfl rfl
      repeat (first|(refine stp rfl ?_ ?_;·repeat' constructor)|(refine pw_cond rfl (fun hA => absurd hA (by intro hA; simp only [decide_eq_true_eq, decide_eq_false_iff_not, Bool.not_eq_true', Bool.not_eq_false'] at hA; omega)) (fun _ => ?_))|(refine pw_cond rfl (fun _ => ?_) (fun hA => absurd hA (by intro hA; simp only [decide_eq_true_eq, decide_eq_false_iff_not, Bool.not_eq_true', Bool.not_eq_false'] at hA; omega))))
      apply qst;exact rfl;exact rfl;exact q_callP rfl (h41) rfl (by repeat' constructor) rfl rfl
      repeat (refine stp rfl ?_ ?_;·repeat' constructor)
      apply qst;exact rfl;exact rfl;exact q_callP rfl (hs) rfl (by repeat' constructor) rfl rfl
      repeat (refine stp rfl ?_ ?_;·repeat' constructor)
      exact end1i rfl rfl rfl
  have hs := h40 _ hob.1 hob.2
  have hsu : supNo l p = ordNo l p.order := by rw [supNo, if_pos (by omega)]
  rw [hsu]
  have h6 : p.op = 6 ∨ p.op = 7 := by omega
  clear h0 h1 h4 h5 h8 hin h2
  rcases h6 with h2 | h2 <;>
  · repeat (refine stp rfl ?_ ?_;·repeat' constructor)
    apply qst;exact rfl;exact rfl;exact q_callP rfl (h33) rfl (by repeat' constructor) rfl rfl
    repeat (first|(refine stp rfl ?_ ?_;·repeat' constructor)|(refine pw_cond rfl (fun hA => absurd hA (by intro hA; simp only [decide_eq_true_eq, decide_eq_false_iff_not, Bool.not_eq_true', Bool.not_eq_false'] at hA; omega)) (fun _ => ?_))|(refine pw_cond rfl (fun _ => ?_) (fun hA => absurd hA (by intro hA; simp only [decide_eq_true_eq, decide_eq_false_iff_not, Bool.not_eq_true', Bool.not_eq_false'] at hA; omega))))
    apply qst;exact rfl;exact rfl;exact q_callP rfl (hs) rfl (by repeat' constructor) rfl rfl
    repeat (refine stp rfl ?_ ?_;·repeat' constructor)
    exact end1i rfl rfl rfl
end Go.Pv


set_option maxHeartbeats 2000000
namespace Go.Pv
attribute [local irreducible] PWP POps PQuiet PSem XThen XBlock RetPost InlPost
open Go.Proofs
theorem inl_end1O {L : Lay} {fn : Func} {K : (Nat → Nat × Option Cont) → PV → Prop} {s : St} {t : Nat} {v : PV} {e : Exit} (owns : List (Nat × Nat × Cont)) (he : e = .ret ∨ e = .normal) (h : fn.results.toList = [.tmp t]) (h1 : s.reg t = v) (ho : FitO s owns)
    (hk : ∀ s1 : St, K (s1.over [] owns).own v) : InlPost L fn (fun s' r => K s'.own r) e s := by
  have hk := hk s
  rw [Fit.over (l := []) ho] at hk
  rcases he with rfl | rfl <;>
  · unfold InlPost
    refine ⟨[s.reg t], True ∧ True, by rw [h]; rfl, ⟨trivial, trivial⟩, ?_⟩
    rw [h1]; exact hk
theorem inl_end2O {L : Lay} {fn : Func} {K : (Nat → Nat × Option Cont) → PV → Prop} {s : St} {t1 t2 : Nat} {v1 v2 : PV} {e : Exit} (owns : List (Nat × Nat × Cont)) (he : e = .ret ∨ e = .normal) (h : fn.results.toList = [.tmp t1, .tmp t2]) (h1 : s.reg t1 = v1) (h2 : s.reg t2 = v2) (ho : FitO s owns)
    (hk : ∀ s1 : St, K (s1.over [] owns).own (.tup [v1, v2])) : InlPost L fn (fun s' r => K s'.own r) e s := by
  have hk := hk s
  rw [Fit.over (l := []) ho] at hk
  rcases he with rfl | rfl <;>
  · unfold InlPost
    refine ⟨[s.reg t1, s.reg t2], True ∧ True ∧ True, by rw [h]; rfl, ⟨trivial, trivial, trivial⟩, ?_⟩
    rw [h1, h2]; exact hk
def bkRow (g1 g2 g3 g62 : Nat) (l : List SPost) : List PV := [.als 62 (g62 + l.length) 0 (l.map ePost).length, .mp 1 g1, .mp 2 g2, .mp 1003 g3]
def bkO (g1 g2 g3 g5 g62 : Nat) (l : List SPost) : List (Nat × Nat × Cont) :=
  [(1, g1, ⟨142, 0, ordR l, 0⟩), (2, g2, ⟨143, 0, itmR l, 0⟩), (5, g5, ⟨146, 4, [bkRow g1 g2 g3 g62 l], 2⟩), (62, g62 + l.length, ⟨23, 9, l.map ePost, 0⟩), (1003, g3, ⟨144, 0, gonR l, 0⟩)]
set_option maxRecDepth 20000 in
theorem new_inl {K : St → Prop} {s : St} {d : Nat} {ty : TypeId} {pos : String} {af : Array Edge}
    (hK : ∀ (s1 : St) (g1 g2 g3 g5 : Nat), K (({ reg := s.reg, own := (s1.over [] [(1, g1, ⟨142, 0, [], 0⟩), (2, g2, ⟨143, 0, [], 0⟩), (3, g3, ⟨144, 0, [], 0⟩), (5, g5, ⟨146, 4, [[.nil, .mp 1 g1, .mp 2 g2, .mp 3 g3]], 2⟩)]).own } : St).putR d (.ptr 5 g5 0 0))) :
    Sm Tryz.prog lay.get s ⟨some d, .call ⟨.value (.func 73), #[], #[]⟩, ty, pos, af, none⟩ K := by
  refine sm_inline layOk rfl rfl Tryz.func73 rfl (by decide) rfl rfl ?_
  show PWP _ _ _ _ (callSt s [])
  repeat (refine stp rfl ?_ ?_;·repeat' constructor)
  refine ps_run (o_mkmap rfl ?_)
  refine ps_run (o_mkmap rfl ?_)
  refine ps_run (o_mkmap rfl ?_)
  repeat (refine stp rfl ?_ ?_;·repeat' constructor)
  refine inl_end1O (t := 0) (v := .ptr 5 ((s.own 5).1 + 1) 0 0) (K := fun o r => K (({ reg := s.reg, own := o } : St).putR d r)) [(1, (s.own 1).1 + 1, ⟨142, 0, [], 0⟩), (2, (s.own 2).1 + 1, ⟨143, 0, [], 0⟩), (3, (s.own 3).1 + 1, ⟨144, 0, [], 0⟩), (5, (s.own 5).1 + 1, ⟨146, 4, [[.nil, .mp 1 ((s.own 1).1 + 1), .mp 2 ((s.own 2).1 + 1), .mp 3 ((s.own 3).1 + 1)]], 2⟩)] (.inl rfl) ?_ ?_ ?_ fun s1 => hK s1 _ _ _ _
  · rfl
  · rfl
  · exact ⟨rfl, rfl, rfl, rfl, trivial⟩
theorem clean_op (p : SPost) : (cleanP p).op = p.op ∧ (cleanP p).day = p.day := by
  have : ∀ (fs : List Fd) (o : SPost), (fs.foldl (fun o f => f.set p o) o).op = o.op ∧ (fs.foldl (fun o f => f.set p o) o).day = o.day := by
    intro fs
    induction fs with
    | nil => intro o; exact ⟨rfl, rfl⟩
    | cons f fs ih =>
      intro o
      rw [List.foldl_cons, (ih _).1, (ih _).2]
      cases f <;> exact ⟨rfl, rfl⟩
  exact this _ _
theorem mput_new {k v : PV} {rows : List (List PV)} (h : (mix k rows).isSome = false) : mput k v rows = rows ++ [[k, v]] := by
  rw [mput]
  cases hm : mix k rows with
  | none => rfl
  | some i => rw [hm] at h; cases h
theorem ord_none {l : List SPost} {nm : Str} (h : ¬ 0 < ordNo l nm) : (mix (.str nm) (ordR l)).isSome = false := by
  rw [(ordR_at l nm).2, ← idx_nonneg]
  rw [ordNo] at h
  exact decide_eq_false (by omega)
theorem itm_none {l : List SPost} {o nm : Str} (h : ¬ 0 < itmNo l o nm) : (mix (.agg [.str o, .str nm]) (itmR l)).isSome = false := by
  rw [(itmR_at l o nm).2, ← idx_nonneg]
  rw [itmNo] at h
  exact decide_eq_false (by omega)
theorem gon_none {l : List SPost} (hW : Wf l) {n : Int} {ks : List Int} (h : aimE l n ks = 0) : (mix (I n) (gonR l)).isSome = false := by
  rw [(gonR_at l n).2]
  have hb := aimE_zero h
  rw [aimE, if_neg (by simp [inside]; omega)] at h
  split at h
  · omega
  rw [standE, if_neg (by omega)] at h
  split at h
  · rename_i hv
    rw [liveB_pos hW hb.1] at hv
    simpa using (Bool.and_eq_true_iff.1 hv).1
  · omega
theorem bk_snoc (l : List SPost) (q : SPost) : ordR (l ++ [q]) = ordR l ++ (match ordK q with | some k => [[k, numV (0 + l.length)]] | none => []) ∧ itmR (l ++ [q]) = itmR l ++ (match itmK q with | some k => [[k, numV (0 + l.length)]] | none => []) ∧
    gonR (l ++ [q]) = gonR l ++ (match gonK q with | some k => [[k, .bool true]] | none => []) := ⟨mrows_snoc _ _ q l 0, mrows_snoc _ _ q l 0, mrows_snoc _ _ q l 0⟩
set_option maxRecDepth 20000 in
theorem post_inl {K : St → Prop} {s : St} {d g1 g2 g3 g5 g62 : Nat} {x y : Operand} {tys : Array TypeId} {ty : TypeId} {pos : String} {af : Array Edge} (l : List SPost) (hW : Wf l) (p : SPost) (hx : s.ev x = .ptr 5 g5 0 0) (hy : s.ev y = .agg (ePost p)) (ho : FitO s (bkO g1 g2 g3 g5 g62 l))
    (hno : ∀ s1 : St, refusalR l p ≠ 0 → K (({ reg := s.reg, own := (s1.over [] (bkO g1 g2 g3 g5 g62 l)).own } : St).putR d (.tup [I 0, I (refusalR l p)])))
    (hyes : ∀ s1 : St, refusalR l p = 0 → K (({ reg := s.reg, own := (s1.over [] (bkO g1 g2 g3 g5 g62 (l ++ [cleanP p]))).own } : St).putR d (.tup [I (l.length + 1), I 0]))) :
    Sm Tryz.prog lay.get s ⟨some d, .call ⟨.value (.func 46), #[x, y], tys⟩, ty, pos, af, none⟩ K := by
  have hl := hW.len
  have hll : ((l.map ePost).length : Int) = l.length := by simp
  have h36 := checkPost_ret p
  have h37 := refused_ret l hW p
  have h38 := cleared_ret p
  refine sm_inline layOk rfl rfl Tryz.func46 rfl (by decide) rfl rfl ?_
  show PWP _ _ _ _ (callSt s (([x, y] : List Operand).map s.ev ++ []))
  rw [show (([x, y] : List Operand).map s.ev ++ ([] : List PV)) = [.ptr 5 g5 0 0, .agg (ePost p)] by simp [hx, hy]]
  rw [show callSt s [.ptr 5 g5 0 0, .agg (ePost p)] = callSt (s.over [] (bkO g1 g2 g3 g5 g62 l)) [.ptr 5 g5 0 0, .agg (ePost p)] by rw [Fit.over (l := []) ho]]
  have nope : refusalR l p ≠ 0 → ∀ (st : St) (e : Exit), (e = .ret ∨ e = .normal) → st.reg 4 = I 0 → st.reg 5 = I (refusalR l p) → FitO st (bkO g1 g2 g3 g5 g62 l) → InlPost lay.get Tryz.f46 (fun s' r => K (({ reg := s.reg, own := s'.own } : St).putR d r)) e st := fun hr st e he h1 h2 h3 =>
    inl_end2O (K := fun o r => K (({ reg := s.reg, own := o } : St).putR d r)) _ he rfl h1 h2 h3 fun s1 => hno s1 hr
  clear ho hx hy
  ((repeat (first | refine ps_nil ?_ | refine pq_nil ?_ | refine x_norm ?_ | refine pw_seq ?_)); refine pw_region ?_)
  refine ps_run (o_box rfl rfl rfl (by repeat' constructor) rfl ?_)
  generalize (s.own 3).1 + 1 = gg
  repeat (refine stp rfl ?_ ?_;·repeat' constructor)
  apply qst;exact rfl;exact rfl;exact q_callP rfl (h36) rfl (by repeat' constructor) rfl rfl
  repeat (refine stp rfl ?_ ?_;·repeat' constructor)
  refine pw_cond rfl (fun h => ?_) (fun h => ?_)
  · have hne : ¬ checkE p = 0 := by simpa using h
    have hr : refusalR l p = checkE p := by rw [refusalR, if_neg hne]
    repeat (refine stp rfl ?_ ?_;·repeat' constructor)
    exact nope (by rw [hr]; exact hne) _ _ (.inl rfl) rfl (by rw [hr]; rfl) ⟨rfl, rfl, rfl, rfl, rfl, trivial⟩
  have hc0 : checkE p = 0 := by simpa using h
  rw [refusalR, if_pos hc0] at nope hno hyes
  clear h h36
  refine pw_skip ?_
  refine x_norm ?_
  refine pw_cutP (¬ 400 ≤ l.length ∧ ¬ (0 < l.length ∧ p.day < (entL l l.length).day)) [(0, .ptr 5 g5 0 0), (3, .ptr 3 gg 0 0)] ((3, gg, ⟨23, 9, [ePost p], 2⟩) :: bkO g1 g2 g3 g5 g62 l) ?_ ?_
  · repeat (refine stp rfl ?_ ?_;·repeat' constructor)
    rw [hll]
    by_cases h4 : 400 ≤ l.length
    · rw [if_pos h4] at nope
      refine pw_cond rfl (fun h => ?_) (fun h => ?_)
      · repeat (refine stp rfl ?_ ?_;·repeat' constructor)
        exact nope (by decide) _ _ (.inl rfl) rfl rfl ⟨rfl, rfl, rfl, rfl, rfl, trivial⟩
      · exact absurd (of_decide_eq_false h) (by omega)
    rw [if_neg h4] at nope
    refine pw_cond rfl (fun h => ?_) (fun h => ?_)
    · exact absurd (of_decide_eq_true h) (by omega)
    clear h
    have hwl : 0 < l.length → IntKind.wrap .i64 ((l.length : Int) - 1) = (l.length : Int) - 1 := fun h => wrap_i64 (by omega) (by omega)
    repeat (refine stp rfl ?_ ?_;·repeat' constructor)
    refine pw_draw 25 [24, 25, 26, 27, 28, 29, 30, 31, 32, 33, 34, 35, 36, 37, 38, 39, 40, 41, 42, 43, 44, 45, 46, 47, 23] (by decide +kernel) ?_
    repeat (refine stp rfl ?_ ?_;·repeat' constructor)
    rw [hll]
    (first | refine ps_split rfl rfl (fun h => ?_) (fun h => ?_) | refine pq_split rfl rfl (fun h => ?_) (fun h => ?_) | refine p3_split rfl rfl (fun h => ?_) (fun h => ?_))
    · have hlp := of_decide_eq_true h
      have he := entL_at (l := l) (n := l.length) (by omega) (by omega)
      have hwl := hwl (by omega)
      have hrow : (l.map ePost)[0 + ((l.length : Int) - 1).toNat]? = some (ePost (entL l l.length)) := by rw [List.getElem?_map, Nat.zero_add, he]; rfl
      repeat (refine stp rfl ?_ ?_;·repeat' constructor)
      rw [hll, hwl]
      apply qst;exact rfl;exact rfl;exact q_idxA rfl rfl rfl rfl rfl rfl rfl (by omega) (by omega)
      repeat (refine stp rfl ?_ ?_;·repeat' constructor)
      apply qst;exact rfl;exact rfl;exact q_ldp rfl rfl rfl hrow rfl
      repeat (refine stp rfl ?_ ?_;·repeat' constructor)
      refine pw_cond rfl (fun h => ?_) (fun h => ?_)
      · have hd := of_decide_eq_true h
        rw [if_pos ⟨by omega, hd⟩] at nope
        repeat (refine stp rfl ?_ ?_;·repeat' constructor)
        exact nope (by decide) _ _ (.inl rfl) rfl rfl ⟨rfl, rfl, rfl, rfl, rfl, trivial⟩
      · have hd := of_decide_eq_false h
        repeat (refine stp rfl ?_ ?_;·repeat' constructor)
        exact ⟨⟨h4, fun hc => hd hc.2⟩, rfl, rfl, rfl, rfl, rfl, rfl, rfl, rfl, trivial⟩
    · have hlp := of_decide_eq_false h
      repeat (refine stp rfl ?_ ?_;·repeat' constructor)
      exact ⟨⟨h4, fun hc => hlp (by omega)⟩, rfl, rfl, rfl, rfl, rfl, rfl, rfl, rfl, trivial⟩
  rintro ⟨h4, hday⟩ s1
  rw [if_neg h4, if_neg hday] at nope hno hyes
  repeat (refine stp rfl ?_ ?_;·repeat' constructor)
  apply qst;exact rfl;exact rfl;exact q_callP rfl (h37) rfl (by repeat' constructor) rfl rfl
  repeat (refine stp rfl ?_ ?_;·repeat' constructor)
  refine pw_cond rfl (fun h => ?_) (fun h => ?_)
  · have hne : ¬ refE l p = 0 := by simpa using h
    repeat (refine stp rfl ?_ ?_;·repeat' constructor)
    exact nope hne _ _ (.inl rfl) rfl rfl ⟨rfl, rfl, rfl, rfl, rfl, trivial⟩
  have hr0 : refE l p = 0 := by simpa using h
  clear h nope hno
  replace hyes := fun s1 => hyes s1 hr0
  have hsn := bk_snoc l (cleanP p)
  have hqo := clean_op p
  generalize hq : cleanP p = q at *
  refine pw_skip ?_
  refine x_norm ?_
  refine pw_cut [(0, .ptr 5 g5 0 0), (3, .ptr 3 gg 0 0)] [(1, g1, ⟨142, 0, ordR l, 0⟩), (2, g2, ⟨143, 0, itmR l, 0⟩), (3, gg, ⟨23, 9, [ePost p], 2⟩), (5, g5, ⟨146, 4, [bkRow g1 g2 g3 g62 (l ++ [q])], 2⟩), (62, g62 + (l ++ [q]).length, ⟨23, 9, (l ++ [q]).map ePost, 0⟩), (1003, g3, ⟨144, 0, gonR l, 0⟩)] ?_ ?_
  · refine pw_draw3 [5, 62] [2, 3, 4, 8, 9, 10, 11] (by decide +kernel) ?_
    repeat (refine stp rfl ?_ ?_;·repeat' constructor)
    apply qst;exact rfl;exact rfl;exact q_call rfl (h38) rfl (by repeat' constructor) rfl
    repeat (refine stp rfl ?_ ?_;·repeat' constructor)
    apply qst;exact rfl;exact rfl;exact q_slit rfl rfl rfl rfl rfl rfl rfl rfl rfl rfl (by repeat' constructor) rfl
    repeat (refine stp rfl ?_ ?_;·repeat' constructor)
    refine z3e rfl rfl rfl (o_app 0 rfl rfl rfl rfl rfl rfl rfl rfl rfl rfl rfl (by repeat' constructor) (by intro row hr; first | (simp at hr; subst hr; rfl) | (simp at hr; obtain ⟨_, _, rfl⟩ := hr; rfl) | simp at hr) rfl rfl (by simp; omega) (by simp; omega) ⟨offz rfl, ?_⟩)
    repeat (refine stp rfl ?_ ?_;·repeat' constructor)
    refine ⟨rfl, rfl, rfl, rfl, rfl, ?_, ?_, rfl, trivial⟩
    · refine Eq.trans (b := (g5, some (Cont.mk 146 4 [[.als 62 (g62 + l.length + 1) 0 (l.map ePost ++ [ePost q]).length, .mp 1 g1, .mp 2 g2, .mp 1003 g3]] 2))) rfl ?_
      rw [als_snoc ePost 62 g62 l q]; rfl
    · exact cont_snoc ePost g62 23 9 0 l q
  intro s2
  have hl2 : (((l ++ [q]).map ePost).length : Int) = l.length + 1 := by simp
  have fin : ∀ (st : St), st.reg 4 = I (l.length + 1) → st.reg 5 = I 0 → FitO st (bkO g1 g2 g3 g5 g62 (l ++ [q])) → InlPost lay.get Tryz.f46 (fun s' r => K (({ reg := s.reg, own := s'.own } : St).putR d r)) .ret st := fun st h1 h2 h3 =>
    inl_end2O (K := fun o r => K (({ reg := s.reg, own := o } : St).putR d r)) _ (.inl rfl) rfl h1 h2 h3 fun s1 => hyes s1
  rw [refE] at hr0
  by_cases h0 : p.op = 0
  · rw [if_pos h0] at hr0
    have hz : ¬ 0 < ordNo l p.order := by intro hc; rw [if_pos hc] at hr0; omega
    have hqq : q.order = p.order := by rw [← hq, cleanP, h0]; rfl
    have hput := mput_new (v := I (l.length + 1)) (ord_none hz)
    have e1 : ordR (l ++ [q]) = ordR l ++ [[.str p.order, I (l.length + 1)]] := by rw [hsn.1, ordK, hqo.1, if_pos h0, hqq]; simp [numV]
    have e2 : itmR (l ++ [q]) = itmR l := by rw [hsn.2.1, itmK, hqo.1, if_neg (by omega)]; simp
    have e3 : gonR (l ++ [q]) = gonR l := by rw [hsn.2.2, gonK, hqo.1, if_neg (by omega)]; simp
    rw [← e1] at hput
    rw [bkO, e2, e3] at fin
    repeat (refine stp rfl ?_ ?_;·repeat' constructor)
    rw [hl2]
    repeat (first|(refine stp rfl ?_ ?_;·repeat' constructor)|(refine pw_cond rfl (fun hA => absurd hA (by intro hA; simp only [decide_eq_true_eq, decide_eq_false_iff_not, Bool.not_eq_true', Bool.not_eq_false'] at hA; omega)) (fun _ => ?_))|(refine pw_cond rfl (fun _ => ?_) (fun hA => absurd hA (by intro hA; simp only [decide_eq_true_eq, decide_eq_false_iff_not, Bool.not_eq_true', Bool.not_eq_false'] at hA; omega))))
    refine pw_draw 7 [74, 75, 76, 77, 78, 79, 80] (by decide +kernel) ?_
    repeat (refine stp rfl ?_ ?_;·repeat' constructor)
    refine ps_run0 (o_msetG none 0 rfl rfl rfl rfl rfl rfl rfl rfl rfl rfl (ordR_keyed l) rfl rfl ?_)
    rw [show nrm 0 (I (l.length + 1)) = I (l.length + 1) from rfl, hput]
    repeat (refine stp rfl ?_ ?_;·repeat' constructor)
    exact fin _ rfl rfl ⟨rfl, rfl, rfl, rfl, rfl, trivial⟩
  rw [if_neg h0] at hr0
  by_cases h1 : p.op = 1
  · rw [if_pos h1] at hr0
    have hz : ¬ 0 < itmNo l p.order p.item := by
      intro hc; rw [if_pos hc] at hr0; split at hr0 <;> omega
    have hqq : q.order = p.order ∧ q.item = p.item := by rw [← hq, cleanP, h1]; exact ⟨rfl, rfl⟩
    have hput := mput_new (v := I (l.length + 1)) (itm_none hz)
    have e1 : ordR (l ++ [q]) = ordR l := by rw [hsn.1, ordK, hqo.1, if_neg h0]; simp
    have e2 : itmR (l ++ [q]) = itmR l ++ [[.agg [.str p.order, .str p.item], I (l.length + 1)]] := by rw [hsn.2.1, itmK, hqo.1, if_pos h1, hqq.1, hqq.2]; simp [numV]
    have e3 : gonR (l ++ [q]) = gonR l := by rw [hsn.2.2, gonK, hqo.1, if_neg (by omega)]; simp
    rw [← e2] at hput
    rw [bkO, e1, e3] at fin
    clear h0
    repeat (refine stp rfl ?_ ?_;·repeat' constructor)
    rw [hl2]
    repeat (first|(refine stp rfl ?_ ?_;·repeat' constructor)|(refine pw_cond rfl (fun hA => absurd hA (by intro hA; simp only [decide_eq_true_eq, decide_eq_false_iff_not, Bool.not_eq_true', Bool.not_eq_false'] at hA; omega)) (fun _ => ?_))|(refine pw_cond rfl (fun _ => ?_) (fun hA => absurd hA (by intro hA; simp only [decide_eq_true_eq, decide_eq_false_iff_not, Bool.not_eq_true', Bool.not_eq_false'] at hA; omega))))
    refine pw_draw 10 [83, 84, 85, 86, 87, 88, 89, 90, 91, 92] (by decide +kernel) ?_
    repeat (refine stp rfl ?_ ?_;·repeat' constructor)
    refine ps_run0 (o_msetG (some [.str, .str]) 0 rfl rfl rfl good72 rfl rfl rfl rfl rfl rfl (itmR_keyed l _) rfl rfl ?_)
    rw [show nrm 0 (I (l.length + 1)) = I (l.length + 1) from rfl]
    refine Eq.mp (congrArg (fun r => POps _ _ _ _ _ (St.setOwn _ 2 g2 (some ⟨143, 0, r, 0⟩))) hput.symm) ?_
    repeat (refine stp rfl ?_ ?_;·repeat' constructor)
    exact fin _ rfl rfl ⟨rfl, rfl, rfl, rfl, rfl, trivial⟩
  rw [if_neg h1] at hr0
  by_cases h8 : p.op = 8
  · rw [if_neg (by omega), if_neg (by omega), if_pos h8] at hr0
    have hqq : q.ref = p.ref := by rw [← hq, cleanP, h8]; rfl
    have hput := mput_new (v := .bool true) (gon_none hW hr0)
    have e1 : ordR (l ++ [q]) = ordR l := by rw [hsn.1, ordK, hqo.1, if_neg h0]; simp
    have e2 : itmR (l ++ [q]) = itmR l := by rw [hsn.2.1, itmK, hqo.1, if_neg h1]; simp
    have e3 : gonR (l ++ [q]) = gonR l ++ [[I p.ref, .bool true]] := by rw [hsn.2.2, gonK, hqo.1, if_pos h8, hqq]
    rw [← e3] at hput
    rw [bkO, e1, e2] at fin
    clear h0 h1
    repeat (refine stp rfl ?_ ?_;·repeat' constructor)
    rw [hl2]
    repeat (first|(refine stp rfl ?_ ?_;·repeat' constructor)|(refine pw_cond rfl (fun hA => absurd hA (by intro hA; simp only [decide_eq_true_eq, decide_eq_false_iff_not, Bool.not_eq_true', Bool.not_eq_false'] at hA; omega)) (fun _ => ?_))|(refine pw_cond rfl (fun _ => ?_) (fun hA => absurd hA (by intro hA; simp only [decide_eq_true_eq, decide_eq_false_iff_not, Bool.not_eq_true', Bool.not_eq_false'] at hA; omega))))
    refine pw_draw 6 [95, 96, 97, 98, 99, 100] (by decide +kernel) ?_
    repeat (refine stp rfl ?_ ?_;·repeat' constructor)
    refine ps_run0 (o_msetG none 0 rfl rfl rfl rfl rfl rfl rfl rfl rfl rfl (gonR_keyed l) rfl rfl ?_)
    rw [show nrm 0 (.bool true) = .bool true from rfl, hput]
    repeat (refine stp rfl ?_ ?_;·repeat' constructor)
    exact fin _ rfl rfl ⟨rfl, rfl, rfl, rfl, rfl, trivial⟩
  have e1 : ordR (l ++ [q]) = ordR l := by rw [hsn.1, ordK, hqo.1, if_neg h0]; simp
  have e2 : itmR (l ++ [q]) = itmR l := by rw [hsn.2.1, itmK, hqo.1, if_neg h1]; simp
  have e3 : gonR (l ++ [q]) = gonR l := by rw [hsn.2.2, gonK, hqo.1, if_neg h8]; simp
  rw [bkO, e1, e2, e3] at fin
  repeat (refine stp rfl ?_ ?_;·repeat' constructor)
  rw [hl2]
  repeat (first|(refine stp rfl ?_ ?_;·repeat' constructor)|(refine pw_cond rfl (fun hA => absurd hA (by intro hA; simp only [decide_eq_true_eq, decide_eq_false_iff_not, Bool.not_eq_true', Bool.not_eq_false'] at hA; omega)) (fun _ => ?_))|(refine pw_cond rfl (fun _ => ?_) (fun hA => absurd hA (by intro hA; simp only [decide_eq_true_eq, decide_eq_false_iff_not, Bool.not_eq_true', Bool.not_eq_false'] at hA; omega))))
  exact fin _ rfl rfl ⟨rfl, rfl, rfl, rfl, rfl, trivial⟩
end Go.Pv


set_option maxHeartbeats 2000000
namespace Go.Pv
attribute [local irreducible] PWP POps PQuiet PSem XThen XBlock RetPost InlPost
open Go.Proofs
inductive Acc : List SPost → Prop
  | nil : Acc []
  | snoc {l : List SPost} {p : SPost} (h : Acc l) (hr : refusalR l p = 0) : Acc (l ++ [cleanP p])
theorem idx_append {α : Type} (l : List α) (q : α) (p : α → Bool) : idx (l ++ [q]) p = if 0 ≤ idx l p then idx l p else if p q = true then l.length else -1 := by
  unfold idx
  rw [List.findIdx?_append]
  cases h : l.findIdx? p with
  | some i => simp
  | none =>
    cases hq : p q <;> simp [List.findIdx?_cons, hq]
theorem ordNo_snoc {l : List SPost} {nm : Str} (q : SPost) (h : 1 ≤ ordNo l nm) : ordNo (l ++ [q]) nm = ordNo l nm := by
  rw [ordNo] at *
  rw [idx_append, if_pos (by omega), ordNo]
theorem itmNo_snoc {l : List SPost} {o nm : Str} (q : SPost) (h : 1 ≤ itmNo l o nm) : itmNo (l ++ [q]) o nm = itmNo l o nm := by
  rw [itmNo] at *
  rw [idx_append, if_pos (by omega), itmNo]
theorem clean_order {p : SPost} (h : p.op = 0 ∨ p.op = 1 ∨ p.op = 2 ∨ p.op = 3 ∨ p.op = 6 ∨ p.op = 7) : (cleanP p).order = p.order := by
  rcases h with h | h | h | h | h | h <;> rw [cleanP, h] <;> rfl
theorem clean_item {p : SPost} (h : p.op = 1 ∨ p.op = 2 ∨ p.op = 3) : (cleanP p).item = p.item := by
  rcases h with h | h | h <;> rw [cleanP, h] <;> rfl
theorem cleanP_ref {p : SPost} (h : p.op = 4 ∨ p.op = 5 ∨ p.op = 8) : (cleanP p).ref = p.ref := by
  rcases h with h | h | h <;> rw [cleanP, h] <;> rfl
theorem cleanP_ref0 {p : SPost} (h : p.op = 0 ∨ p.op = 1 ∨ p.op = 2 ∨ p.op = 3 ∨ p.op = 6 ∨ p.op = 7) : (cleanP p).ref = 0 := by
  rcases h with h | h | h | h | h | h <;> rw [cleanP, h] <;> rfl
theorem standE_zero {l : List SPost} {n : Int} (h : standE l n = 0) : n ≠ 0 ∧ liveB l n = true := by
  rw [standE] at h
  split at h
  · omega
  · split at h
    · exact ⟨by assumption, by assumption⟩
    · omega
theorem refusalR_zero {l : List SPost} {p : SPost} (h : refusalR l p = 0) : checkE p = 0 ∧ l.length < 400 ∧ ¬ (0 < l.length ∧ p.day < (entL l l.length).day) ∧ refE l p = 0 := by
  rw [refusalR] at h
  split at h
  · rename_i hc
    split at h
    · omega
    · split at h
      · omega
      · exact ⟨hc, by omega, by assumption, h⟩
  · contradiction
theorem refE_zero {l : List SPost} {p : SPost} (h : refE l p = 0) : (p.op = 0 → ordNo l p.order = 0) ∧ ((p.op = 1 ∨ p.op = 6 ∨ p.op = 7) → 1 ≤ ordNo l p.order ∧ liveB l (ordNo l p.order) = true) ∧ (p.op = 1 → itmNo l p.order p.item = 0) ∧
    ((p.op = 2 ∨ p.op = 3) → 1 ≤ itmNo l p.order p.item ∧ liveB l (itmNo l p.order p.item) = true) ∧ ((p.op = 4 ∨ p.op = 5 ∨ p.op = 8) → 1 ≤ p.ref ∧ p.ref ≤ l.length ∧ liveB l p.ref = true) := by
  have hob := ordNo_le l p.order
  have hib := itmNo_le l p.order p.item
  have aim : ∀ ks, aimE l p.ref ks = 0 → 1 ≤ p.ref ∧ p.ref ≤ l.length ∧ liveB l p.ref = true := fun ks h => by
    have hb := aimE_zero h
    rw [aimE, if_neg (by simp [inside]; omega)] at h
    split at h
    · omega
    · exact ⟨hb.1, hb.2, (standE_zero h).2⟩
  rw [refE] at h
  by_cases h0 : p.op = 0
  · rw [if_pos h0] at h
    exact ⟨fun _ => by split at h <;> omega, fun h' => by omega, fun h' => by omega, fun h' => by omega, fun h' => by omega⟩
  rw [if_neg h0] at h
  by_cases h1 : p.op = 1
  · rw [if_pos h1] at h
    by_cases hs : standE l (ordNo l p.order) = 0
    · rw [if_pos hs] at h
      have := standE_zero hs
      exact ⟨fun h' => by omega, fun _ => ⟨by omega, this.2⟩, fun _ => by split at h <;> omega, fun h' => by omega, fun h' => by omega⟩
    · rw [if_neg hs] at h; omega
  rw [if_neg h1] at h
  by_cases h4 : p.op = 4
  · rw [if_pos h4] at h
    by_cases hs : aimE l p.ref [2, 3] = 0
    · exact ⟨fun h' => by omega, fun h' => by omega, fun h' => by omega, fun h' => by omega, fun _ => aim _ hs⟩
    · rw [if_neg hs] at h; omega
  rw [if_neg h4] at h
  by_cases h5 : p.op = 5
  · rw [if_pos h5] at h
    by_cases hs : aimE l p.ref [1, 2, 3] = 0
    · exact ⟨fun h' => by omega, fun h' => by omega, fun h' => by omega, fun h' => by omega, fun _ => aim _ hs⟩
    · rw [if_neg hs] at h; omega
  rw [if_neg h5] at h
  by_cases h8 : p.op = 8
  · rw [if_pos h8] at h
    exact ⟨fun h' => by omega, fun h' => by omega, fun h' => by omega, fun h' => by omega, fun _ => aim _ h⟩
  rw [if_neg h8] at h
  have hs := standE_zero h
  refine ⟨fun h' => by omega, fun h' => ?_, fun h' => by omega, fun h' => ?_, fun h' => by omega⟩
  · have : supNo l p = ordNo l p.order := by rw [supNo, if_pos h']
    rw [this] at hs
    exact ⟨by omega, hs.2⟩
  · have : supNo l p = itmNo l p.order p.item := by rw [supNo, if_neg (by omega), if_pos h']
    rw [this] at hs
    exact ⟨by omega, hs.2⟩
structure Ok (l : List SPost) : Prop where
  wf : Wf l
  ops : ∀ (i : Nat) p, l[i]? = some p → 0 ≤ p.op ∧ p.op ≤ 8
  pos : ∀ (i : Nat) p, l[i]? = some p → (p.op = 1 ∨ p.op = 6 ∨ p.op = 7 → 1 ≤ ordNo l p.order) ∧ (p.op = 2 ∨ p.op = 3 → 1 ≤ itmNo l p.order p.item) ∧ (p.op = 4 ∨ p.op = 5 ∨ p.op = 8 → 1 ≤ p.ref ∧ p.ref ≤ i) ∧ (¬ (p.op = 4 ∨ p.op = 5 ∨ p.op = 8) → p.ref = 0)
theorem snoc_get {α : Type} {l : List α} {q x : α} {i : Nat} (h : (l ++ [q])[i]? = some x) : (i < l.length ∧ l[i]? = some x) ∨ (i = l.length ∧ x = q) := by
  rcases Nat.lt_trichotomy i l.length with hlt | heq | hgt
  · rw [List.getElem?_append_left hlt] at h; exact .inl ⟨hlt, h⟩
  · subst heq; simp at h; exact .inr ⟨rfl, h.symm⟩
  · rw [List.getElem?_eq_none (by simp; omega)] at h; cases h
theorem Ok.sup_snoc {l : List SPost} (h : Ok l) (q : SPost) {i : Nat} {p : SPost} (hp : l[i]? = some p) : supNo (l ++ [q]) p = supNo l p := by
  have := h.pos i p hp
  simp only [supNo]
  split
  · rename_i h1; exact ordNo_snoc q (this.1 h1)
  · split
    · rename_i h2; exact itmNo_snoc q (this.2.1 h2)
    · rfl
theorem Ok.snoc {l : List SPost} (h : Ok l) {p : SPost} (hr : refusalR l p = 0) : Ok (l ++ [cleanP p]) := by
  obtain ⟨c1, c2, c3, c4⟩ := refusalR_zero hr
  obtain ⟨r0, r1, r2, r3, r4⟩ := refE_zero c4
  have hop := op_cases (checkE_op c1).1
  have hqo := (clean_op p).1
  have hob := ordNo_le l p.order
  have hib := itmNo_le l p.order p.item
  have hnew : (p.op = 1 ∨ p.op = 6 ∨ p.op = 7 → ordNo (l ++ [cleanP p]) (cleanP p).order = ordNo l p.order) := fun h' => by
    rw [clean_order (by omega), ordNo_snoc _ (r1 h').1]
  have hnew2 : (p.op = 2 ∨ p.op = 3 → itmNo (l ++ [cleanP p]) (cleanP p).order (cleanP p).item = itmNo l p.order p.item) := fun h' => by
    rw [clean_order (by omega), clean_item (by omega), itmNo_snoc _ (r3 h').1]
  refine ⟨⟨fun i x hx => ?_, by simp; omega⟩, fun i x hx => ?_, fun i x hx => ?_⟩
  · rcases snoc_get hx with ⟨hi, hx⟩ | ⟨rfl, rfl⟩
    · rw [h.sup_snoc _ hx]; exact h.wf.sup i x hx
    · simp only [supNo, hqo]
      split
      · rename_i h'; rw [hnew h']; have := r1 h'; omega
      · split
        · rename_i h'; rw [hnew2 h']; have := r3 h'; omega
        · split
          · rename_i h'; rw [cleanP_ref (by omega)]; have := r4 (by omega); omega
          · omega
  · rcases snoc_get hx with ⟨hi, hx⟩ | ⟨rfl, rfl⟩
    · exact h.ops i x hx
    · rw [hqo]; omega
  · rcases snoc_get hx with ⟨hi, hx⟩ | ⟨rfl, rfl⟩
    · have := h.pos i x hx
      exact ⟨fun h' => by rw [ordNo_snoc _ (this.1 h')]; exact this.1 h', fun h' => by rw [itmNo_snoc _ (this.2.1 h')]; exact this.2.1 h', this.2.2⟩
    · rw [hqo]
      exact ⟨fun h' => by rw [hnew h']; exact (r1 h').1, fun h' => by rw [hnew2 h']; exact (r3 h').1, fun h' => by rw [cleanP_ref h']; have := r4 h'; omega, fun h' => cleanP_ref0 (by omega)⟩
theorem Acc.ok {l : List SPost} (h : Acc l) : Ok l := by
  induction h with
  | nil => exact ⟨⟨fun i p h => by simp at h, by simp⟩, fun i p h => by simp at h, fun i p h => by simp at h⟩
  | snoc _ hr ih => exact ih.snoc hr
def fstN {α : Type} : List α → (Nat → α → Int) → Nat
  | [], _ => 0
  | a :: l, f => if f 0 a = 0 then fstN l (fun i => f (i + 1)) + 1 else 0
theorem fstN_found {α : Type} : ∀ {l : List α} {f : Nat → α → Int} {i : Nat} {a : α}, l[i]? = some a → f i a ≠ 0 → (∀ j b, j < i → l[j]? = some b → f j b = 0) → fstN l f = i
  | [], f, i, a, h, _, _ => by simp at h
  | b :: l, f, 0, a, h, he, _ => by
    simp at h; subst h
    simp [fstN, he]
  | b :: l, f, i + 1, a, h, he, hn => by
    have h0 := hn 0 b (by omega) rfl
    rw [fstN, if_pos h0]
    rw [fstN_found (f := fun i => f (i + 1)) (i := i) (by simpa using h) he fun j c hj hc => hn (j + 1) c (by omega) (by simpa using hc)]
theorem fstN_none {α : Type} : ∀ {l : List α} {f : Nat → α → Int}, (∀ (j : Nat) b, l[j]? = some b → f j b = 0) → fstN l f = l.length
  | [], f, _ => rfl
  | b :: l, f, hn => by
    rw [fstN, if_pos (hn 0 b rfl), fstN_none fun j c hc => hn (j + 1) c (by simpa using hc)]; rfl
def lodF (l : List SPost) (j : Nat) (p : SPost) : Int := refusalR ((l.take j).map cleanP) p
def lodN (l : List SPost) : Nat := fstN l (lodF l)
def lodE (l : List SPost) : Int := fstE l (lodF l)
def lodL (l : List SPost) : List SPost := (l.take (lodN l)).map cleanP
theorem lod_acc {l : List SPost} : ∀ {k : Nat}, ClearE l (lodF l) k → Acc ((l.take k).map cleanP)
  | 0, _ => by simpa using Acc.nil
  | k + 1, h => by
    have hk := h.1
    obtain ⟨x, hx⟩ := get_lt (show k < l.length by omega)
    have ih : Acc ((l.take k).map cleanP) := lod_acc ⟨by omega, fun j b hj hb => h.2 j b (by omega) hb⟩
    have hr := h.2 k x (by omega) hx
    rw [take_snoc hx, List.map_append]
    exact ih.snoc hr
end Go.Pv


set_option maxHeartbeats 2000000
namespace Go.Pv
attribute [local irreducible] PWP POps PQuiet PSem XThen XBlock RetPost InlPost
open Go.Proofs
section
variable {L : Lay} {s : St} {fn : Func} {r : PV}
theorem end3f {t1 t2 t3 : Nat} {v1 d1 : PV} {C1 : Prop} {b1 : Bool} {k2 k3 : IntKind} {n2 n3 : Int} (h : fn.results.toList = [.tmp t1, .tmp t2, .tmp t3]) (h1 : (s.reg t1).fz = some v1) (h2 : s.reg t2 = .int k2 n2) (h3 : s.reg t3 = .int k3 n3) (r1 : res s 4 v1 = some (d1, C1, ⟨b1, true⟩)) (c1 : C1)
    (hd : PV.tup [d1, .int k2 n2, .int k3 n3] = r) : RetPost L fn .fresh r .ret s := by
  rw [PV.fz_eq] at h1
  have h1 := Option.some.inj h1
  subst h1
  unfold RetPost
  refine ⟨[s.reg t1, s.reg t2, s.reg t3], True ∧ True ∧ True ∧ True, .tup [d1, .int k2 n2, .int k3 n3], C1 ∧ True ∧ True ∧ True, (⟨b1, true⟩ : Fl).and ((⟨true, true⟩ : Fl).and ((⟨true, true⟩ : Fl).and ⟨true, true⟩)), by rw [h]; rfl, ⟨trivial, trivial, trivial, trivial⟩, ?_, ⟨c1, trivial, trivial, trivial⟩, rfl, hd⟩
  show (match resL (res s 4) [s.reg t1, s.reg t2, s.reg t3] with | some (ds, C1, b) => some (PV.tup ds, C1, b) | none => none) = _
  rw [h2, h3]
  have q : ∀ (k : IntKind) (n : Int), res s 4 (.int k n) = some (.int k n, True, ⟨true, true⟩) := fun k n => rfl
  simp only [resL, r1, q]
end
set_option maxRecDepth 20000 in
theorem load_ret (l : List SPost) (hl : l.length ≤ 1000000) : Ret Tryz.prog .fresh 53 [.sl (l.map ePost)] (.tup [.dref (eBook (lodL l)) 0, I (lodN l), I (lodE l)]) := by
  have hll : ((l.map ePost).length : Int) = l.length := by simp
  refine Ret.of_pwp layOk mixed Go.Proofs.Tryz.func53 rfl (by decide) rfl rfl ?_
  ((repeat (first | refine ps_nil ?_ | refine pq_nil ?_ | refine x_norm ?_ | refine pw_seq ?_)); refine pw_region ?_)
  refine ps_v rfl trivial ?_
  refine ps_v rfl trivial ?_
  refine ps_v rfl trivial ?_
  refine ps_nil ?_
  ((repeat (first | refine x_norm ?_ | refine pw_seq ?_)); refine pw_regionS 0 ?_)
  refine ps_nil ?_
  refine psem_sm rfl (new_inl fun s1 g1 g2 g3 g5 => ?_)
  refine psem_ops ?_
  refine ps_v rfl trivial ?_
  refine ps_nil ?_
  refine x_norm ?_
  refine pw_ghost (Ghost.moveC (k := 3) (k' := 1003) (k0 := 5) (i := 0) (j := 3) rfl rfl rfl rfl rfl rfl rfl rfl rfl rfl) ?_
  refine pw_ghost (Ghost.nilcell (k := 62) (k0 := 5) (i := 0) (j := 0) 23 9 0 rfl rfl rfl rfl rfl rfl rfl) ?_
  repeat (refine stp rfl ?_ ?_;·repeat' constructor)
  rw [hll]
  refine pw_loop (ClearE l (lodF l)) (fun k => [(0, .sl (l.map ePost)), (5, .ptr 5 g5 0 0), (11, .sl (l.map ePost)), (12, I l.length), (13, I k)]) (fun k => bkO g1 g2 ((s1.own 1003).1 + 1) g5 ((s1.own 62).1 + 1) ((l.take k).map cleanP)) (fun k => l.length - k) 0 .zero' ⟨rfl, rfl, rfl, rfl, rfl, rfl, rfl, rfl, rfl, rfl, trivial⟩ ?_
  generalize (s1.own 1003).1 + 1 = g13
  generalize (s1.own 62).1 + 1 = g62
  intro k s hk
  have hkl := hk.1
  have hW := (lod_acc hk).ok.wf
  repeat (refine stp rfl ?_ ?_;·repeat' constructor)
  refine pw_cond rfl (fun h => ?_) (fun h => ?_)
  · have hlt : k < l.length := by have := of_decide_eq_true h; omega
    clear h
    obtain ⟨x, hx⟩ := get_lt hlt
    repeat (refine stp rfl ?_ ?_;·repeat' constructor)
    apply qst;exact rfl;exact rfl;exact q_idxm rfl rfl rfl rfl rfl (by omega) hx rfl
    iterate 4 (refine stp rfl ?_ ?_;·repeat' constructor)
    refine ps_nil ?_
    ((repeat (first | refine x_norm ?_ | refine pw_seq ?_)); refine pw_regionS 2 ?_)
    refine ps_v rfl trivial ?_
    refine ps_v rfl rfl ?_
    refine ps_nil ?_
    refine psem_sm rfl (post_inl (g1 := g1) (g2 := g2) (g3 := g13) (g5 := g5) (g62 := g62) ((l.take k).map cleanP) hW x rfl rfl ⟨rfl, rfl, rfl, rfl, rfl, trivial⟩ (fun s2 hne => ?_) (fun s2 h0 => ?_))
    · have hne' : lodF l k x ≠ 0 := hne
      have e1 : lodN l = k := fstN_found hx hne' hk.2
      have e2 : lodE l = refusalR ((l.take k).map cleanP) x := hk.found hx rfl hne'
      rw [lodL, e1, e2]
      refine psem_ops ?_
      repeat (refine stp rfl ?_ ?_;·repeat' constructor)
      refine pw_cond rfl (fun h => ?_) (fun h => ?_)
      · repeat (refine stp rfl ?_ ?_;·repeat' constructor)
        exact end3f rfl rfl rfl rfl rfl (by repeat' constructor) rfl
      · exact absurd (by simpa using h) hne
    · refine psem_ops ?_
      have hn := hk.succ hx h0
      have htk : (l.take (k + 1)).map cleanP = (l.take k).map cleanP ++ [cleanP x] := by rw [take_snoc hx, List.map_append]; rfl
      repeat (refine stp rfl ?_ ?_;·repeat' constructor)
      refine ⟨k + 1, hn, by omega, ?_⟩
      rw [htk]
      exact ⟨rfl, rfl, rfl, rfl, i64_next (by omega) (by omega), rfl, rfl, rfl, rfl, rfl, trivial⟩
  · have hf : ¬ k < l.length := by have := of_decide_eq_false h; omega
    have hz : k = l.length := by omega
    subst hz
    have e1 : lodN l = l.length := fstN_none fun j b hb => hk.2 j b (List.getElem?_eq_some_iff.1 hb).1 hb
    have e2 : lodE l = 0 := hk.none hf
    rw [lodL, e1, e2]
    repeat (refine stp rfl ?_ ?_;·repeat' constructor)
    exact end3f rfl rfl rfl rfl rfl (by repeat' constructor) (by rw [hll]; rfl)
end Go.Pv


set_option maxHeartbeats 2000000
namespace Go.Pv
attribute [local irreducible] PWP POps PQuiet PSem XThen XBlock RetPost InlPost
open Go.Proofs
def ofB (l : List SPost) (op n i : Int) : Bool := decide ((entL l i).op = op) && decide ((entL l i).ref = n) && liveB l i
def latF (l : List SPost) (n : Int) : Nat → Int
  | 0 => 0
  | i + 1 => if ofB l 5 n (i + 1) = true then i + 1 else latF l n i
def sigF (l : List SPost) (n : Int) : Nat → List Int
  | 0 => []
  | i + 1 => if ofB l 4 n (i + 1) = true then sigF l n i ++ [(i : Int) + 1] else if ofB l 5 n (i + 1) = true then [] else sigF l n i
theorem ofB_late {l : List SPost} (h : Ok l) {op n i : Int} (ho : op = 4 ∨ op = 5) (h1 : 1 ≤ i) (h2 : i ≤ l.length) (hb : ofB l op n i = true) : n < i := by
  simp only [ofB, Bool.and_eq_true, decide_eq_true_eq] at hb
  have := (h.pos _ _ (entL_at h1 h2)).2.2.1 (by omega)
  omega
theorem latF_early {l : List SPost} (h : Ok l) {n : Int} : ∀ (i : Nat), (i : Int) ≤ n → i ≤ l.length → latF l n i = 0
  | 0, _, _ => rfl
  | i + 1, h1, h2 => by
    have : ¬ ofB l 5 n (i + 1) = true := fun hb => by have := ofB_late h (.inr rfl) (by omega) (by omega) hb; omega
    rw [latF, if_neg this, latF_early h i (by omega) (by omega)]
theorem sigF_early {l : List SPost} (h : Ok l) {n : Int} : ∀ (i : Nat), (i : Int) ≤ n → i ≤ l.length → sigF l n i = []
  | 0, _, _ => rfl
  | i + 1, h1, h2 => by
    have h4 : ¬ ofB l 4 n (i + 1) = true := fun hb => by have := ofB_late h (.inl rfl) (by omega) (by omega) hb; omega
    rw [sigF, if_neg h4, sigF_early h i (by omega) (by omega)]
    split <;> rfl
theorem latF_bounds (l : List SPost) (n : Int) : ∀ (i : Nat), 0 ≤ latF l n i ∧ latF l n i ≤ i
  | 0 => by simp [latF]
  | i + 1 => by
    have := latF_bounds l n i
    rw [latF]
    split <;> omega
theorem latF_last {l : List SPost} {n : Int} : ∀ {i : Nat} {j : Int}, latF l n i < j → j ≤ i → 1 ≤ j → ofB l 5 n j = false
  | 0, j, h1, h2, h3 => by omega
  | i + 1, j, h1, h2, h3 => by
    rw [latF] at h1
    split at h1
    · omega
    · rename_i hb
      by_cases hj : j = i + 1
      · subst hj; simpa using hb
      · exact latF_last h1 (by omega) h3
theorem sigF_lat {l : List SPost} {n : Int} : ∀ {i : Nat}, latF l n i = 0 ∨ sigF l n (latF l n i).toNat = []
  | 0 => .inl rfl
  | i + 1 => by
    rw [latF]
    split
    · rename_i hb
      right
      rw [show ((i : Int) + 1).toNat = i + 1 by omega, sigF, if_pos hb]
      have : ¬ ofB l 4 n (i + 1) = true := fun h4 => by
        simp only [ofB, Bool.and_eq_true, decide_eq_true_eq] at hb h4
        omega
      rw [if_neg this]
    · exact sigF_lat
theorem sigF_from {l : List SPost} (h : Ok l) {n : Int} {b : Nat} (hb : b ≤ l.length) (hn : 0 ≤ n) (hnb : n ≤ b) : sigF l n (max n (latF l n b)).toNat = [] := by
  have hlb := latF_bounds l n b
  by_cases hm : latF l n b ≤ n
  · rw [show max n (latF l n b) = n by omega]
    exact sigF_early h _ (by omega) (by omega)
  · rw [show max n (latF l n b) = latF l n b by omega]
    rcases sigF_lat (l := l) (n := n) (i := b) with h0 | h0
    · omega
    · exact h0
theorem sigF_len (l : List SPost) (n : Int) : ∀ i, (sigF l n i).length ≤ i
  | 0 => by simp [sigF]
  | i + 1 => by
    have := sigF_len l n i
    rw [sigF]
    split
    · simp; omega
    · split <;> simp; omega
theorem latest_ret (l : List SPost) (h : Ok l) (n : Int) (b : Nat) (hn : 1 ≤ n) (hnb : n ≤ b) (hb : b ≤ l.length) : Ret Tryz.prog .shared 148 [.dref (eBook l) 0, I n, I (b + 1)] (I (latF l n b)) := by
  have hl := h.wf.len
  have hw : IntKind.wrap .i64 ((b : Int) + 1 - 1) = b := by rw [wrap_i64 (by omega) (by omega)]; omega
  refine Ret.of_pwp layOk mixed Go.Proofs.Tryz.func148 rfl (by decide) rfl rfl ?_
  repeat (refine stp rfl ?_ ?_;·repeat' constructor)
  rw [hw]
  refine pw_loop (fun i : Nat => i ≤ b ∧ n ≤ i ∧ latF l n i = latF l n b) (fun i => [(0, .dref (eBook l) 0), (1, I n), (7, I i)]) (fun _ => []) (fun i => i) b ⟨Nat.le_refl _, hnb, rfl⟩ ⟨rfl, rfl, rfl, trivial⟩ ?_
  intro i s hi
  repeat (refine stp rfl ?_ ?_;·repeat' constructor)
  refine pw_cond rfl (fun h => ?_) (fun h => ?_)
  · have hlt : n < i := of_decide_eq_true h
    clear h
    obtain ⟨j, rfl⟩ : ∃ j, i = j + 1 := ⟨i - 1, by omega⟩
    have he := entry_ret l (j + 1 : Nat) (by omega) (by omega) hl
    have hv := live_ret l ‹Ok l›.wf (j + 1 : Nat) (by omega)
    have hs : latF l n (j + 1) = if ofB l 5 n (j + 1 : Nat) = true then ((j + 1 : Nat) : Int) else latF l n j := rfl
    have hw1 : IntKind.wrap .i64 (((j + 1 : Nat) : Int) - 1) = j := by rw [wrap_i64 (by omega) (by omega)]; omega
    rw [ofB] at hs
    repeat (refine stp rfl ?_ ?_;·repeat' constructor)
    apply qst;exact rfl;exact rfl;exact q_call rfl (he) rfl (by repeat' constructor) rfl
    repeat (refine stp rfl ?_ ?_;·repeat' constructor)
    generalize entL l (j + 1 : Nat) = p at *
    (first | refine ps_split rfl rfl (fun h => ?_) (fun h => ?_) | refine pq_split rfl rfl (fun h => ?_) (fun h => ?_) | refine p3_split rfl rfl (fun h => ?_) (fun h => ?_))
    · have g1 := of_decide_eq_true h
      clear h
      repeat (refine stp rfl ?_ ?_;·repeat' constructor)
      (first | refine ps_split rfl rfl (fun h => ?_) (fun h => ?_) | refine pq_split rfl rfl (fun h => ?_) (fun h => ?_) | refine p3_split rfl rfl (fun h => ?_) (fun h => ?_))
      · have g2 := of_decide_eq_true h
        clear h
        rw [g1, g2, decide_eq_true rfl, decide_eq_true rfl, Bool.true_and, Bool.true_and] at hs
        generalize liveB l (j + 1 : Nat) = lv at *
        repeat (refine stp rfl ?_ ?_;·repeat' constructor)
        apply qst;exact rfl;exact rfl;exact q_callP rfl (hv) rfl (by repeat' constructor) rfl rfl
        repeat (refine stp rfl ?_ ?_;·repeat' constructor)
        cases lv with
        | true =>
          repeat (refine stp rfl ?_ ?_;·repeat' constructor)
          exact end1i rfl rfl (by rw [← hi.2.2, hs]; rfl)
        | false =>
          repeat (refine stp rfl ?_ ?_;·repeat' constructor)
          refine ⟨j, ⟨by omega, by omega, by rw [← hi.2.2, hs]; rfl⟩, by omega, rfl, rfl, ?_, trivial⟩
          exact congrArg I hw1
      · have g2 := of_decide_eq_false h
        rw [decide_eq_false g2, Bool.and_false, Bool.false_and] at hs
        repeat (refine stp rfl ?_ ?_;·repeat' constructor)
        refine ⟨j, ⟨by omega, by omega, by rw [← hi.2.2, hs]; rfl⟩, by omega, rfl, rfl, ?_, trivial⟩
        exact congrArg I hw1
    · have g1 := of_decide_eq_false h
      rw [decide_eq_false g1, Bool.false_and, Bool.false_and] at hs
      repeat (refine stp rfl ?_ ?_;·repeat' constructor)
      refine ⟨j, ⟨by omega, by omega, by rw [← hi.2.2, hs]; rfl⟩, by omega, rfl, rfl, ?_, trivial⟩
      exact congrArg I hw1
  · have hz : ¬ n < i := of_decide_eq_false h
    have : latF l n i = 0 := latF_early ‹Ok l› i (by omega) (by omega)
    repeat (refine stp rfl ?_ ?_;·repeat' constructor)
    exact end1i rfl rfl (by rw [← hi.2.2, this])
end Go.Pv


set_option maxHeartbeats 2000000
namespace Go.Pv
attribute [local irreducible] PWP POps PQuiet PSem XThen XBlock RetPost InlPost
open Go.Proofs
set_option maxRecDepth 20000 in
theorem signatures_ret (l : List SPost) (hO : Ok l) (n : Int) (b : Nat) (hn : 1 ≤ n) (hnb : n ≤ b) (hb : b ≤ l.length) : Ret Tryz.prog .fresh 110 [.dref (eBook l) 0, I n, I (b + 1)] (.sl ((sigF l n b).map eI)) := by
  have hl := hO.wf.len
  have hlt := latest_ret l hO n b hn hnb hb
  have hlb := latF_bounds l n b
  have h0 := sigF_from hO hb (by omega) hnb
  have hlast := fun (j : Int) => latF_last (l := l) (n := n) (i := b) (j := j)
  obtain ⟨m, hm⟩ : ∃ m : Nat, (m : Int) = max n (latF l n b) := ⟨(max n (latF l n b)).toNat, by omega⟩
  rw [← hm, Int.toNat_natCast] at h0
  have hmx : (if n < latF l n b then latF l n b else n) = m := by rw [hm]; split <;> omega
  have hmb : m ≤ b := by omega
  have hml : latF l n b ≤ m := by omega
  have hw : IntKind.wrap .i64 ((m : Int) + 1) = m + 1 := wrap_i64 (by omega) (by omega)
  generalize latF l n b = lt at *
  refine Ret.of_pwp layOk mixed Go.Proofs.Tryz.func110 rfl (by decide) rfl rfl ?_
  ((repeat (first | refine ps_nil ?_ | refine pq_nil ?_ | refine x_norm ?_ | refine pw_seq ?_)); refine pw_region ?_)
  refine ps_v rfl trivial ?_
  ((repeat (first | refine ps_nil ?_ | refine pq_nil ?_ | refine x_norm ?_ | refine pw_seq ?_)); refine pw_region ?_)
  refine ps_v rfl trivial ?_
  refine ps_nil ?_
  refine x_norm ?_
  refine pw_ghost (Ghost.nilreg (k := 7) (t := 7) 3 1 0 rfl rfl) ?_
  repeat (refine stp rfl ?_ ?_;·repeat' constructor)
  apply qst;exact rfl;exact rfl;exact q_callP rfl (hlt) rfl (by repeat' constructor) rfl rfl
  repeat (refine stp rfl ?_ ?_;·repeat' constructor)
  rw [hmx, hw]
  refine pw_loop (fun j : Nat => m ≤ j ∧ j ≤ b) (fun j => [(0, .dref (eBook l) 0), (1, I n), (2, I (b + 1)), (7, .als 7 (1 + (sigF l n j).length) 0 ((sigF l n j).map eI).length), (8, I (j + 1))]) (fun j => [(7, 1 + (sigF l n j).length, ⟨3, 1, (sigF l n j).map eI, 0⟩)]) (fun j => b - j) m ⟨Nat.le_refl _, hmb⟩ ?_ ?_
  · rw [h0]; exact ⟨rfl, rfl, rfl, rfl, rfl, rfl, trivial⟩
  intro j s hj
  repeat (refine stp rfl ?_ ?_;·repeat' constructor)
  refine pw_cond rfl (fun h => ?_) (fun h => ?_)
  · have hjb : j < b := by have := of_decide_eq_true h; omega
    clear h
    have he := entry_ret l ((j : Int) + 1) (by omega) (by omega) hl
    have hv := live_ret l hO.wf ((j : Int) + 1) (by omega)
    have hno : ofB l 5 n ((j : Int) + 1) = false := hlast _ (by omega) (by omega) (by omega)
    have hs : sigF l n (j + 1) = if ofB l 4 n ((j : Int) + 1) = true then sigF l n j ++ [(j : Int) + 1] else sigF l n j := by
      rw [sigF, hno]; simp
    have hsl := sigF_len l n j
    rw [ofB] at hs
    repeat (refine stp rfl ?_ ?_;·repeat' constructor)
    apply qst;exact rfl;exact rfl;exact q_call rfl (he) rfl (by repeat' constructor) rfl
    repeat (refine stp rfl ?_ ?_;·repeat' constructor)
    generalize entL l ((j : Int) + 1) = p at *
    (first | refine ps_split rfl rfl (fun h => ?_) (fun h => ?_) | refine pq_split rfl rfl (fun h => ?_) (fun h => ?_) | refine p3_split rfl rfl (fun h => ?_) (fun h => ?_))
    · have g1 := of_decide_eq_true h
      clear h
      repeat (refine stp rfl ?_ ?_;·repeat' constructor)
      (first | refine ps_split rfl rfl (fun h => ?_) (fun h => ?_) | refine pq_split rfl rfl (fun h => ?_) (fun h => ?_) | refine p3_split rfl rfl (fun h => ?_) (fun h => ?_))
      · have g2 := of_decide_eq_true h
        clear h
        rw [g1, g2, decide_eq_true rfl, decide_eq_true rfl, Bool.true_and, Bool.true_and] at hs
        generalize liveB l ((j : Int) + 1) = lv at *
        repeat (refine stp rfl ?_ ?_;·repeat' constructor)
        apply qst;exact rfl;exact rfl;exact q_callP rfl (hv) rfl (by repeat' constructor) rfl rfl
        repeat (refine stp rfl ?_ ?_;·repeat' constructor)
        cases lv with
        | true =>
          rw [if_pos rfl] at hs
          repeat (refine stp rfl ?_ ?_;·repeat' constructor)
          apply qst;exact rfl;exact rfl;exact q_slit rfl rfl rfl rfl rfl rfl rfl rfl rfl rfl (by repeat' constructor) rfl
          repeat (refine stp rfl ?_ ?_;·repeat' constructor)
          refine ps_run (o_app 0 rfl rfl rfl rfl rfl rfl rfl rfl rfl rfl rfl (by repeat' constructor) (by intro row hr; first | (simp at hr; subst hr; rfl) | simp at hr) rfl rfl (by simp; omega) (by simp; omega) ?_)
          repeat (refine stp rfl ?_ ?_;·repeat' constructor)
          refine ⟨j + 1, ⟨by omega, by omega⟩, by omega, rfl, rfl, rfl, ?_, i64_next (by omega) (by omega), ?_, trivial⟩
          · rw [hs]; exact als_snoc eI 7 1 _ _
          · rw [hs]; exact cont_snoc eI 1 3 1 0 _ _
        | false =>
          rw [if_neg (by simp)] at hs
          repeat (refine stp rfl ?_ ?_;·repeat' constructor)
          exact ⟨j + 1, ⟨by omega, by omega⟩, by omega, rfl, rfl, rfl, by rw [hs]; rfl, i64_next (by omega) (by omega), by rw [hs]; rfl, trivial⟩
      · have g2 := of_decide_eq_false h
        rw [decide_eq_false g2, Bool.and_false, Bool.false_and, if_neg (by simp)] at hs
        repeat (refine stp rfl ?_ ?_;·repeat' constructor)
        exact ⟨j + 1, ⟨by omega, by omega⟩, by omega, rfl, rfl, rfl, by rw [hs]; rfl, i64_next (by omega) (by omega), by rw [hs]; rfl, trivial⟩
    · have g1 := of_decide_eq_false h
      rw [decide_eq_false g1, Bool.false_and, Bool.false_and, if_neg (by simp)] at hs
      repeat (refine stp rfl ?_ ?_;·repeat' constructor)
      exact ⟨j + 1, ⟨by omega, by omega⟩, by omega, rfl, rfl, rfl, by rw [hs]; rfl, i64_next (by omega) (by omega), by rw [hs]; rfl, trivial⟩
  · have hz : j = b := by have := of_decide_eq_false h; omega
    subst hz
    repeat (refine stp rfl ?_ ?_;·repeat' constructor)
    exact end1f rfl rfl rfl ⟨rfl, rfl, rfl⟩ rfl
end Go.Pv


set_option maxHeartbeats 2000000
namespace Go.Pv
attribute [local irreducible] PWP POps PQuiet PSem XThen XBlock RetPost InlPost
open Go.Proofs
theorem roleIs_ret (l : List SPost) (hl : l.length ≤ 400) (role i : Int) (h1 : 1 ≤ i) (h2 : i ≤ l.length) : Ret Tryz.prog .shared 174 [I i, .dref [.dref (eBook l) 0] 0, .dref [I role] 0] (.bool (decide ((entL l i).role = role))) := by
  have he := entry_ret l i h1 h2 hl
  refine Ret.of_pwp layOk mixed Go.Proofs.Tryz.func174 rfl (by decide) rfl rfl ?_
  repeat (refine stp rfl ?_ ?_;·repeat' constructor)
  refine pw_draw 7 [5, 6, 7, 8, 9, 10, 4] (by decide +kernel) ?_
  repeat (refine stp rfl ?_ ?_;·repeat' constructor)
  apply qst;exact rfl;exact rfl;exact q_call rfl (he) rfl (by repeat' constructor) rfl
  repeat (refine stp rfl ?_ ?_;·repeat' constructor)
  exact end1b rfl rfl rfl
theorem indexFunc_ret (l : List SPost) (hl : l.length ≤ 400) (role : Int) (L : List Int) (hL : L.length ≤ 1000000) (hin : ∀ x, x ∈ L → 1 ≤ x ∧ x ≤ l.length) :
    Ret Tryz.prog .shared 213 [.sl (L.map eI), .clo 174 [.dref [.dref (eBook l) 0] 0, .dref [I role] 0]] (I (idx L fun i => decide ((entL l i).role = role))) := by
  have hll : ((L.map eI).length : Int) = L.length := by simp
  refine Ret.of_pwp layOk mixed Go.Proofs.Tryz.func213 rfl (by decide) rfl rfl ?_
  repeat (refine stp rfl ?_ ?_;·repeat' constructor)
  refine pw_loop (Clear L fun i => decide ((entL l i).role = role)) (fun k => [(0, .sl (L.map eI)), (1, .clo 174 [.dref [.dref (eBook l) 0] 0, .dref [I role] 0]), (7, I (L.map eI).length), (8, I k)]) (fun _ => []) (fun k => L.length - k) 0 .zero ⟨rfl, rfl, rfl, rfl, trivial⟩ ?_
  intro k s hk
  repeat (refine stp rfl ?_ ?_;·repeat' constructor)
  refine pw_cond rfl (fun h => ?_) (fun h => ?_)
  · have hlt : k < L.length := by have := of_decide_eq_true h; omega
    clear h
    obtain ⟨x, hx⟩ := get_lt hlt
    have hb := hin x (List.mem_of_getElem? hx)
    have hc := roleIs_ret l hl role x hb.1 hb.2
    generalize hbb : decide ((entL l x).role = role) = b at hc
    repeat (refine stp rfl ?_ ?_;·repeat' constructor)
    apply qst;exact rfl;exact rfl;exact q_idxm rfl rfl rfl rfl rfl (by omega) hx rfl
    repeat (refine stp rfl ?_ ?_;·repeat' constructor)
    apply qst;exact rfl;exact rfl;exact q_callP rfl (hc) rfl (by repeat' constructor) rfl rfl
    cases b with
    | true =>
      repeat (refine stp rfl ?_ ?_;·repeat' constructor)
      exact end1i rfl rfl (by rw [hk.found hx hbb])
    | false =>
      repeat (refine stp rfl ?_ ?_;·repeat' constructor)
      refine ⟨k + 1, hk.succ hx hbb, by omega, rfl, rfl, rfl, ?_, trivial⟩
      exact i64_next (by omega) (by omega)
  · have hf : ¬ k < L.length := by have := of_decide_eq_false h; omega
    repeat (refine stp rfl ?_ ?_;·repeat' constructor)
    exact end1i rfl rfl (by rw [hk.none hf])
theorem containsFunc_ret (l : List SPost) (hl : l.length ≤ 400) (role : Int) (L : List Int) (hL : L.length ≤ 1000000) (hin : ∀ x, x ∈ L → 1 ≤ x ∧ x ≤ l.length) :
    Ret Tryz.prog .shared 173 [.sl (L.map eI), .clo 174 [.dref [.dref (eBook l) 0] 0, .dref [I role] 0]] (.bool (L.any fun i => decide ((entL l i).role = role))) := by
  have h1 := indexFunc_ret l hl role L hL hin
  refine Ret.of_pwp layOk mixed Go.Proofs.Tryz.func173 rfl (by decide) rfl rfl ?_
  repeat (refine stp rfl ?_ ?_;·repeat' constructor)
  apply qst;exact rfl;exact rfl;exact q_callP rfl (h1) rfl (by repeat' constructor) rfl rfl
  repeat (refine stp rfl ?_ ?_;·repeat' constructor)
  exact end1b rfl rfl (by rw [idx_nonneg])
theorem sigF_mem {l : List SPost} {n : Int} : ∀ {b : Nat} {x : Int}, x ∈ sigF l n b → 1 ≤ x ∧ x ≤ b
  | 0, x, h => by simp [sigF] at h
  | b + 1, x, h => by
    rw [sigF] at h
    split at h
    · rcases List.mem_append.1 h with h | h
      · have := sigF_mem h; omega
      · simp at h; omega
    · split at h
      · simp at h
      · have := sigF_mem h; omega
def sgdB (l : List SPost) (n : Int) (b : Nat) (role : Int) : Bool := (sigF l n b).any fun i => decide ((entL l i).role = role)
theorem signed_ret (l : List SPost) (hO : Ok l) (n : Int) (b : Nat) (role : Int) (hn : 1 ≤ n) (hnb : n ≤ b) (hb : b ≤ l.length) : Ret Tryz.prog .shared 146 [.dref (eBook l) 0, I n, I (b + 1), I role] (.bool (sgdB l n b role)) := by
  have hs := signatures_ret l hO n b hn hnb hb
  have hl := hO.wf.len
  have hsl := sigF_len l n b
  have hc := containsFunc_ret l hl role (sigF l n b) (by omega) (fun x hx => by have := sigF_mem hx; omega)
  rw [sgdB]
  generalize sigF l n b = L at *
  refine Ret.of_pwp layOk mixed Go.Proofs.Tryz.func146 rfl (by decide) rfl rfl ?_
  ((repeat (first | refine ps_nil ?_ | refine pq_nil ?_ | refine x_norm ?_ | refine pw_seq ?_)); refine pw_region ?_)
  refine ps_run (o_box rfl rfl rfl (by repeat' constructor) rfl ?_)
  refine ps_run (o_box rfl rfl rfl (by repeat' constructor) rfl ?_)
  repeat (refine stp rfl ?_ ?_;·repeat' constructor)
  apply qst;exact rfl;exact rfl;exact q_callF rfl (hs) rfl (by repeat' constructor) rfl
  repeat (refine stp rfl ?_ ?_;·repeat' constructor)
  apply qst;exact rfl;exact rfl;exact q_callP rfl (hc) rfl (by repeat' constructor) rfl rfl
  repeat (refine stp rfl ?_ ?_;·repeat' constructor)
  exact end1b rfl rfl rfl
end Go.Pv


set_option maxHeartbeats 2000000
namespace Go.Pv
attribute [local irreducible] PWP POps PQuiet PSem XThen XBlock RetPost InlPost
open Go.Proofs
def aget : List (Int × Int) → Int → Int
  | [], _ => 0
  | (d, c) :: m, k => if d = k then c else aget m k
def aput (k v : Int) : List (Int × Int) → List (Int × Int)
  | [] => [(k, v)]
  | (d, c) :: m => if d = k then (d, v) :: m else (d, c) :: aput k v m
def eKV (e : Int × Int) : List PV := [I e.1, I e.2]
theorem mput_cons (key v : PV) (row : List PV) (rows : List (List PV)) : mput key v (row :: rows) = bif mhd key row then row.set 1 v :: rows else row :: mput key v rows := by
  unfold mput
  cases h : mhd key row with
  | true => simp [mix, h]
  | false =>
    simp only [mix, h, cond_false]
    cases hm : mix key rows with
    | none => simp
    | some i =>
      have hi := mix_lt hm
      simp [List.getElem?_eq_getElem hi]
theorem mval_kv (d : Int) : ∀ m : List (Int × Int), mval (I 0) (I d) (m.map eKV) = I (aget m d)
  | [] => rfl
  | (e, c) :: m => by
    rw [List.map_cons, mval_cons, mval_kv d m]
    have : mhd (I d) (eKV (e, c)) = decide (e = d) := rfl
    rw [this, aget]
    by_cases h : e = d
    · rw [if_pos h, decide_eq_true h]; rfl
    · rw [if_neg h, decide_eq_false h]; rfl
theorem mput_kv (d v : Int) : ∀ m : List (Int × Int), mput (I d) (I v) (m.map eKV) = (aput d v m).map eKV
  | [] => rfl
  | (e, c) :: m => by
    rw [List.map_cons, mput_cons, mput_kv d v m]
    have : mhd (I d) (eKV (e, c)) = decide (e = d) := rfl
    rw [this, aput]
    by_cases h : e = d
    · rw [if_pos h, decide_eq_true h]; rfl
    · rw [if_neg h, decide_eq_false h]; rfl
theorem keyed_kv (m : List (Int × Int)) : keyed (.int .i64) (m.map eKV) = true := by
  induction m with
  | nil => rfl
  | cons e m ih => rw [List.map_cons]; exact ih
theorem keyedG_kv (m : List (Int × Int)) : keyedG (.int .i64) none (m.map eKV) = true := by
  induction m with
  | nil => rfl
  | cons e m ih => rw [List.map_cons]; exact ih
theorem aget_aput (k v : Int) (d : Int) : ∀ m : List (Int × Int), aget (aput k v m) d = if k = d then v else aget m d
  | [] => rfl
  | (e, c) :: m => by
    have ih := aget_aput k v d m
    simp only [aput, aget]
    by_cases h : e = k
    · subst h
      rw [if_pos rfl, aget]
      by_cases h2 : e = d
      · rw [if_pos h2, if_pos h2]
      · rw [if_neg h2, if_neg h2, if_neg h2]
    · rw [if_neg h, aget, ih]
      by_cases h2 : e = d
      · rw [if_pos h2, if_neg (by omega), if_pos h2]
      · rw [if_neg h2, if_neg h2]
def tstB (l : List SPost) (o : Str) (i : Nat) (n : Int) (M : List (Int × Int)) : Bool := decide ((entL l n).op = 3) && decide ((entL l n).order = o) && decide (aget M n = 0) && liveB l n && sgdB l n i 0
def covIn (l : List SPost) (o : Str) (i : Nat) (M : List (Int × Int)) : Nat → List (Int × Int)
  | 0 => M
  | n + 1 => if tstB l o i ((n : Int) + 1) (covIn l o i M n) = true then aput ((n : Int) + 1) (i + 1) (covIn l o i M n) else covIn l o i M n
def ivcB (l : List SPost) (o : Str) (k : Nat) : Bool := decide ((entL l ((k : Int) + 1)).op = 6) && decide ((entL l ((k : Int) + 1)).order = o) && liveB l ((k : Int) + 1)
def covOut (l : List SPost) (o : Str) : Nat → List (Int × Int)
  | 0 => []
  | k + 1 => if ivcB l o k = true then covIn l o k (covOut l o k) k else covOut l o k
set_option maxRecDepth 20000 in
theorem covered_ret (l : List SPost) (hO : Ok l) (o : Str) : Ret Tryz.prog .fresh 112 [.dref (eBook l) 0, .str o] (.mapd ((covOut l o l.length).map eKV)) := by
  have hl := hO.wf.len
  have hll : ((l.map ePost).length : Int) = l.length := by simp
  refine Ret.of_pwp layOk mixed Go.Proofs.Tryz.func112 rfl (by decide) rfl rfl ?_
  repeat (refine stp rfl ?_ ?_;·repeat' constructor)
  refine ps_run (o_mkmap rfl ?_)
  repeat (refine stp rfl ?_ ?_;·repeat' constructor)
  rw [hll]
  refine pw_loop (fun k => k ≤ l.length) (fun k => [(0, .dref (eBook l) 0), (1, .str o), (5, .mp 10 1), (14, .sl (l.map ePost)), (15, I l.length), (16, I k)]) (fun k => [(10, 1, ⟨180, 0, (covOut l o k).map eKV, 0⟩)]) (fun k => l.length - k) 0 (Nat.zero_le _) ⟨rfl, rfl, rfl, rfl, rfl, rfl, rfl, trivial⟩ ?_
  intro k s hk
  have hk : k ≤ l.length := hk
  repeat (refine stp rfl ?_ ?_;·repeat' constructor)
  refine pw_cond rfl (fun h => ?_) (fun h => ?_)
  · have hlt : k < l.length := by have := of_decide_eq_true h; omega
    clear h
    have hx : l[k]? = some (entL l ((k : Int) + 1)) := by
      have := entL_at (l := l) (n := (k : Int) + 1) (by omega) (by omega)
      rwa [show ((k : Int) + 1 - 1).toNat = k by omega] at this
    have hv := live_ret l hO.wf ((k : Int) + 1) (by omega)
    have hs : covOut l o (k + 1) = if ivcB l o k = true then covIn l o k (covOut l o k) k else covOut l o k := rfl
    have hw : IntKind.wrap .i64 ((k : Int) + 1) = (k : Int) + 1 := wrap_i64 (by omega) (by omega)
    rw [ivcB] at hs
    generalize entL l ((k : Int) + 1) = x at hx hs
    repeat (refine stp rfl ?_ ?_;·repeat' constructor)
    apply qst;exact rfl;exact rfl;exact q_idxm rfl rfl rfl rfl rfl (by omega) hx rfl
    repeat (refine stp rfl ?_ ?_;·repeat' constructor)
    (first | refine ps_split rfl rfl (fun h => ?_) (fun h => ?_) | refine pq_split rfl rfl (fun h => ?_) (fun h => ?_) | refine p3_split rfl rfl (fun h => ?_) (fun h => ?_))
    · have g1 : ¬ x.op = 6 := by simpa using h
      rw [decide_eq_false g1, Bool.false_and, Bool.false_and, if_neg (by simp)] at hs
      repeat (refine stp rfl ?_ ?_;·repeat' constructor)
      exact ⟨k + 1, hlt, by omega, rfl, rfl, rfl, rfl, rfl, i64_next (by omega) (by omega), by rw [hs]; rfl, trivial⟩
    have g1 : x.op = 6 := by simpa using h
    clear h
    rw [decide_eq_true g1, Bool.true_and] at hs
    repeat (refine stp rfl ?_ ?_;·repeat' constructor)
    (first | refine ps_split rfl rfl (fun h => ?_) (fun h => ?_) | refine pq_split rfl rfl (fun h => ?_) (fun h => ?_) | refine p3_split rfl rfl (fun h => ?_) (fun h => ?_))
    · have g2 : ¬ x.order = o := by simpa using h
      rw [decide_eq_false g2, Bool.false_and, if_neg (by simp)] at hs
      repeat (refine stp rfl ?_ ?_;·repeat' constructor)
      exact ⟨k + 1, hlt, by omega, rfl, rfl, rfl, rfl, rfl, i64_next (by omega) (by omega), by rw [hs]; rfl, trivial⟩
    have g2 : x.order = o := by simpa using h
    clear h
    rw [decide_eq_true g2, Bool.true_and] at hs
    generalize liveB l ((k : Int) + 1) = lv at *
    repeat (refine stp rfl ?_ ?_;·repeat' constructor)
    rw [hw]
    apply qst;exact rfl;exact rfl;exact q_callP rfl (hv) rfl (by repeat' constructor) rfl rfl
    cases lv with
    | false =>
      rw [if_neg (by simp)] at hs
      repeat (refine stp rfl ?_ ?_;·repeat' constructor)
      exact ⟨k + 1, hlt, by omega, rfl, rfl, rfl, rfl, rfl, i64_next (by omega) (by omega), by rw [hs]; rfl, trivial⟩
    | true =>
    rw [if_pos rfl] at hs
    have hso := hs
    repeat (refine stp rfl ?_ ?_;·repeat' constructor)
    refine pw_loop (fun n => n ≤ k) (fun n => [(0, .dref (eBook l) 0), (1, .str o), (5, .mp 10 1), (6, I k), (8, I (n + 1)), (14, .sl (l.map ePost)), (15, I l.length), (16, I k)]) (fun n => [(10, 1, ⟨180, 0, (covIn l o k (covOut l o k) n).map eKV, 0⟩)]) (fun n => k - n) 0 (Nat.zero_le _) ⟨rfl, rfl, rfl, rfl, rfl, rfl, rfl, rfl, rfl, trivial⟩ ?_
    intro n s2 hn
    have hn : n ≤ k := hn
    clear hs hv g1 g2 hx
    repeat (refine stp rfl ?_ ?_;·repeat' constructor)
    refine pw_cond rfl (fun h => ?_) (fun h => ?_)
    · have hnk : n < k := by have := of_decide_eq_true h; omega
      clear h
      have he := entry_ret l ((n : Int) + 1) (by omega) (by omega) hl
      have hv := live_ret l hO.wf ((n : Int) + 1) (by omega)
      have hsg := signed_ret l hO ((n : Int) + 1) k 0 (by omega) (by omega) (by omega)
      have hs : covIn l o k (covOut l o k) (n + 1) = if tstB l o k ((n : Int) + 1) (covIn l o k (covOut l o k) n) = true then aput ((n : Int) + 1) (k + 1) (covIn l o k (covOut l o k) n) else covIn l o k (covOut l o k) n := rfl
      have hwn : PV.int .i64 (IntKind.wrap .i64 ((n : Int) + 1 + 1)) = I (((n + 1 : Nat) : Int) + 1) := by rw [wrap_i64 (by omega) (by omega)]; rfl
      rw [tstB] at hs
      generalize covIn l o k (covOut l o k) n = M at *
      repeat (refine stp rfl ?_ ?_;·repeat' constructor)
      apply qst;exact rfl;exact rfl;exact q_call rfl (he) rfl (by repeat' constructor) rfl
      repeat (refine stp rfl ?_ ?_;·repeat' constructor)
      generalize entL l ((n : Int) + 1) = x at *
      (first | refine ps_split rfl rfl (fun h => ?_) (fun h => ?_) | refine pq_split rfl rfl (fun h => ?_) (fun h => ?_) | refine p3_split rfl rfl (fun h => ?_) (fun h => ?_))
      rotate_left
      · have g1 := of_decide_eq_false h
        rw [decide_eq_false g1, Bool.false_and, Bool.false_and, Bool.false_and, Bool.false_and, if_neg (by simp)] at hs
        repeat (refine stp rfl ?_ ?_;·repeat' constructor)
        exact ⟨n + 1, hnk, by omega, rfl, rfl, rfl, rfl, hwn, rfl, rfl, rfl, by rw [hs]; rfl, trivial⟩
      have g1 := of_decide_eq_true h
      clear h
      rw [decide_eq_true g1, Bool.true_and] at hs
      repeat (refine stp rfl ?_ ?_;·repeat' constructor)
      (first | refine ps_split rfl rfl (fun h => ?_) (fun h => ?_) | refine pq_split rfl rfl (fun h => ?_) (fun h => ?_) | refine p3_split rfl rfl (fun h => ?_) (fun h => ?_))
      rotate_left
      · have g2 := of_decide_eq_false h
        rw [decide_eq_false g2, Bool.false_and, Bool.false_and, Bool.false_and, if_neg (by simp)] at hs
        repeat (refine stp rfl ?_ ?_;·repeat' constructor)
        exact ⟨n + 1, hnk, by omega, rfl, rfl, rfl, rfl, hwn, rfl, rfl, rfl, by rw [hs]; rfl, trivial⟩
      have g2 := of_decide_eq_true h
      clear h
      rw [decide_eq_true g2, Bool.true_and] at hs
      repeat (refine stp rfl ?_ ?_;·repeat' constructor)
      apply qst;exact rfl;exact rfl;exact q_lookG none rfl rfl rfl rfl rfl zone3 rfl rfl rfl rfl rfl rfl (keyedG_kv M)
      rw [mval_kv]
      repeat (refine stp rfl ?_ ?_;·repeat' constructor)
      (first | refine ps_split rfl rfl (fun h => ?_) (fun h => ?_) | refine pq_split rfl rfl (fun h => ?_) (fun h => ?_) | refine p3_split rfl rfl (fun h => ?_) (fun h => ?_))
      rotate_left
      · have g3 := of_decide_eq_false h
        rw [decide_eq_false g3, Bool.false_and, Bool.false_and, if_neg (by simp)] at hs
        repeat (refine stp rfl ?_ ?_;·repeat' constructor)
        exact ⟨n + 1, hnk, by omega, rfl, rfl, rfl, rfl, hwn, rfl, rfl, rfl, by rw [hs]; rfl, trivial⟩
      have g3 := of_decide_eq_true h
      clear h
      rw [decide_eq_true g3, Bool.true_and] at hs
      generalize liveB l ((n : Int) + 1) = lv at *
      repeat (refine stp rfl ?_ ?_;·repeat' constructor)
      apply qst;exact rfl;exact rfl;exact q_callP rfl (hv) rfl (by repeat' constructor) rfl rfl
      cases lv with
      | false =>
        rw [Bool.false_and, if_neg (by simp)] at hs
        repeat (refine stp rfl ?_ ?_;·repeat' constructor)
        exact ⟨n + 1, hnk, by omega, rfl, rfl, rfl, rfl, hwn, rfl, rfl, rfl, by rw [hs]; rfl, trivial⟩
      | true =>
      rw [Bool.true_and] at hs
      generalize sgdB l ((n : Int) + 1) k 0 = sg at *
      repeat (refine stp rfl ?_ ?_;·repeat' constructor)
      rw [hw]
      apply qst;exact rfl;exact rfl;exact q_callP rfl (hsg) rfl (by repeat' constructor) rfl rfl
      cases sg with
      | false =>
        rw [if_neg (by simp)] at hs
        repeat (refine stp rfl ?_ ?_;·repeat' constructor)
        exact ⟨n + 1, hnk, by omega, rfl, rfl, rfl, rfl, hwn, rfl, rfl, rfl, by rw [hs]; rfl, trivial⟩
      | true =>
        rw [if_pos rfl] at hs
        repeat (refine stp rfl ?_ ?_;·repeat' constructor)
        rw [hw]
        refine ps_run0 (o_mset 0 rfl rfl rfl rfl rfl rfl rfl rfl rfl (keyed_kv M) rfl rfl ?_)
        rw [show nrm 0 (PV.int .i64 ((k : Int) + 1)) = I ((k : Int) + 1) from rfl, mput_kv]
        repeat (refine stp rfl ?_ ?_;·repeat' constructor)
        exact ⟨n + 1, hnk, by omega, rfl, rfl, rfl, rfl, hwn, rfl, rfl, rfl, by rw [hs]; rfl, trivial⟩
    · have hz : n = k := by have := of_decide_eq_false h; omega
      subst hz
      repeat (refine stp rfl ?_ ?_;·repeat' constructor)
      exact ⟨n + 1, hlt, by omega, rfl, rfl, rfl, rfl, rfl, i64_next (by omega) (by omega), by rw [hso]; rfl, trivial⟩
  · have hz : k = l.length := by have := of_decide_eq_false h; omega
    subst hz
    repeat (refine stp rfl ?_ ?_;·repeat' constructor)
    exact end1f rfl rfl rfl rfl rfl
end Go.Pv

