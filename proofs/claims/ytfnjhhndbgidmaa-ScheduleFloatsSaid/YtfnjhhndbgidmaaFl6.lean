/- Texts of one hand, gathered: SfF, SfG, SfI, SfJ, SeE, SfK, SeT, SeU, SeK. -/
import Derived.Test.YtfnjhhndbgidmaaFl5
/- The order's law: each item stands behind those that it waits for; the latest days by the reference are those of the program. -/
set_option maxHeartbeats 2000000
namespace Go.Pv
attribute [local irreducible] PWP POps PQuiet PSem XThen XBlock RetPost InlPost
open Go.Proofs

structure Topo (w : SWork) (L : List Int) : Prop where
  nodup : L.Nodup
  pre : ∀ (p : Nat) (e : Int), L[p]? = some e → ∀ m ∈ (bef w).getD e.toNat [], m ∈ L.take p
theorem Topo.snoc {w : SWork} {L : List Int} (h : Topo w L) {e : Int} (hn : e ∉ L) (hp : ∀ m ∈ (bef w).getD e.toNat [], m ∈ L) : Topo w (L ++ [e]) := by
  refine ⟨?_, fun p d hd m hm => ?_⟩
  · rw [List.nodup_append]
    exact ⟨h.nodup, by simp, fun a ha b hb => by simp at hb; subst hb; exact fun he => hn (he ▸ ha)⟩
  · rcases Nat.lt_or_ge p L.length with hlt | hge
    · rw [List.getElem?_append_left hlt] at hd
      rw [List.take_append_of_le_length (by omega)]
      exact h.pre p d hd m hm
    · rw [List.getElem?_append_right hge] at hd
      have hpl : p - L.length = 0 := by
        rcases Nat.eq_zero_or_pos (p - L.length) with h0 | h0
        · exact h0
        · rw [List.getElem?_eq_none (by simp; omega)] at hd; cases hd
      rw [hpl] at hd
      simp at hd
      subst hd
      rw [show p = L.length by omega, List.take_left']
      · exact hp m hm
      · rfl
theorem topo_orderF {w : SWork} : ∀ (f : Nat) (out : List Int), Topo w out → Topo w (orderF f (bef w) out)
  | 0, _, h => h
  | f + 1, out, h => by
    unfold orderF
    split
    · exact h
    · rename_i hge
      refine topo_orderF f _ ?_
      rcases idx_cases (List.range (bef w).length) (fitB (bef w) out) with ⟨h1, _⟩ | ⟨i, a, h1, h2, h3, _⟩
      · exact absurd (show nextO (bef w) out = -1 from h1) (by omega)
      · have hil : i < (bef w).length := by have := (List.getElem?_eq_some_iff.1 h2).1; simpa using this
        rw [List.getElem?_range hil] at h2
        have h2 := Option.some.inj h2
        subst h2
        have hno : nextO (bef w) out = i := h1
        rw [hno]
        simp only [fitB, Bool.and_eq_true, Bool.not_eq_true'] at h3
        refine h.snoc (fun hin => ?_) fun m hm => ?_
        · have := h3.2
          rw [List.any_eq_false] at this
          exact this _ hin (by simp)
        · rw [Int.toNat_natCast] at hm
          have := h3.1
          rw [readyB, Bool.not_eq_true', List.any_eq_false] at this
          have := this m hm
          simp only [Bool.not_eq_true', Bool.not_eq_false] at this
          obtain ⟨y, hy, he⟩ := List.any_eq_true.1 this
          have : y = m := by simpa using he
          exact this ▸ hy
theorem topo_ord (w : SWork) : Topo w (ordS w) := topo_orderF _ _ ⟨by simp, fun p e h => by simp at h⟩
theorem ord_all {w : SWork} (hv : Well w) {i : Nat} (hi : i < w.items.length) : (i : Int) ∈ ordS w := by
  have hin := (refOrd_eq hv.good).2
  refine nodup_cover (ordS w) ((List.range w.items.length).map fun k => ((k : Nat) : Int)) (topo_ord w).nodup (fun x hx => ?_) (by rw [List.length_map, List.length_range]; have := hv.full; omega) _ (List.mem_map.2 ⟨i, List.mem_range.2 hi, rfl⟩)
  obtain ⟨k, y, rfl, hy⟩ := hin x hx
  exact List.mem_map.2 ⟨k, List.mem_range.2 (List.getElem?_eq_some_iff.1 hy).1, rfl⟩
theorem ord_full {w : SWork} (hv : Well w) : (ordS w).length = w.items.length := by have := hv.full; have := ordS_len w; omega
theorem nodup_pos {α : Type} {L : List α} (h : L.Nodup) {p q : Nat} {e : α} (hp : L[p]? = some e) (hq : L[q]? = some e) : p = q := by
  obtain ⟨h1, h2⟩ := List.getElem?_eq_some_iff.1 hp
  obtain ⟨h3, h4⟩ := List.getElem?_eq_some_iff.1 hq
  have hpw := List.pairwise_iff_getElem.1 h
  rcases Nat.lt_trichotomy p q with hlt | he | hlt
  · exact absurd (h2.trans h4.symm) (hpw p q h1 h3 hlt)
  · exact he
  · exact absurd (h4.trans h2.symm) (hpw q p h3 h1 hlt)
/-- What waits for an item stands before it in the turned order. -/
theorem rev_before {w : SWork} (hv : Well w) {k i j : Nat} (hk : (ordS w).reverse[k]? = some (i : Int)) (hj : j < w.items.length) (hij : (i : Int) ∈ (bef w).getD j []) : (j : Int) ∈ (ordS w).reverse.take k := by
  have ht := topo_ord w
  obtain ⟨p, hp, hpj⟩ := List.getElem_of_mem (ord_all hv hj)
  have hpj' : (ordS w)[p]? = some (j : Int) := by rw [List.getElem?_eq_getElem hp, hpj]
  have hin := ht.pre p _ hpj' i (by rw [Int.toNat_natCast]; exact hij)
  rw [List.mem_take_iff_getElem] at hin
  obtain ⟨q, hq, hqi⟩ := hin
  have hql : q < p := by omega
  have hkl : k < (ordS w).length := by have := (List.getElem?_eq_some_iff.1 hk).1; simpa using this
  rw [List.getElem?_reverse hkl] at hk
  have := nodup_pos ht.nodup (show (ordS w)[q]? = some (i : Int) by rw [List.getElem?_eq_getElem (by omega), hqi]) hk
  rw [List.mem_take_iff_getElem]
  refine ⟨(ordS w).length - 1 - p, by rw [List.length_reverse]; omega, ?_⟩
  rw [List.getElem_reverse]
  have : (ordS w).length - 1 - ((ordS w).length - 1 - p) = p := by omega
  simp only [this, hpj]

/-! ### The latest days by the reference -/
def refMin (w : SWork) (out : List Int) (i : Int) (days : Int) (n : Nat) : Int := (List.range n).foldl (fun e j => if ((bef w).getD j []).any (· == i) = true then imin e (out.getD j 0) else e) days
theorem refMin_succ (w : SWork) (out : List Int) (i days : Int) (n : Nat) : refMin w out i days (n + 1) = if ((bef w).getD n []).any (· == i) = true then imin (refMin w out i days n) (out.getD n 0) else refMin w out i days n := by
  rw [refMin, List.range_succ, List.foldl_append]; rfl
theorem le_imin {a b B : Int} : B ≤ imin a b ↔ B ≤ a ∧ B ≤ b := by unfold imin; split <;> omega
theorem le_refMin (w : SWork) (out : List Int) (i days B : Int) : ∀ n : Nat, B ≤ refMin w out i days n ↔ B ≤ days ∧ ∀ j, j < n → i ∈ (bef w).getD j [] → B ≤ out.getD j 0
  | 0 => by simp [refMin]
  | n + 1 => by
    have ih := le_refMin w out i days B n
    rw [refMin_succ]
    have hmem : ((bef w).getD n []).any (· == i) = true ↔ i ∈ (bef w).getD n [] := by simp
    by_cases hi : i ∈ (bef w).getD n []
    · rw [if_pos (hmem.2 hi), le_imin, ih]
      constructor
      · rintro ⟨⟨h1, h2⟩, h3⟩
        refine ⟨h1, fun j hj hjm => ?_⟩
        rcases Nat.lt_or_ge j n with hlt | hge
        · exact h2 j hlt hjm
        · rw [show j = n by omega]; exact h3
      · rintro ⟨h1, h2⟩
        exact ⟨⟨h1, fun j hj => h2 j (by omega)⟩, h2 n (by omega) hi⟩
    · rw [if_neg (fun h => hi (hmem.1 h)), ih]
      constructor
      · rintro ⟨h1, h2⟩
        refine ⟨h1, fun j hj hjm => ?_⟩
        rcases Nat.lt_or_ge j n with hlt | hge
        · exact h2 j hlt hjm
        · rw [show j = n by omega] at hjm; exact absurd hjm hi
      · rintro ⟨h1, h2⟩
        exact ⟨h1, fun j hj => h2 j (by omega)⟩
theorem le_rowL {w : SWork} {o B : Int} {m : Nat} (hm : m < w.items.length) : ∀ (row : List Int) (en : List Int), KnownRow w row → en.length = w.items.length → (B ≤ (rowL o row en).getD m 0 ↔ B ≤ en.getD m 0 ∧ ((m : Int) ∈ row → B ≤ o))
  | [], en, _, _ => by simp [rowL]
  | k :: row, en, hr, hl => by
    obtain ⟨j, y, rfl, hy⟩ := hr k (by simp)
    have hjl := (List.getElem?_eq_some_iff.1 hy).1
    have hs : rowL o ((j : Int) :: row) en = rowL o row (cutL o en j) := rfl
    rw [hs, le_rowL hm row _ (fun k hk => hr k (by simp [hk])) (by rw [cutL, List.length_set, hl]), cutL, Int.toNat_natCast, List.getD_eq_getElem?_getD]
    by_cases hjm : j = m
    · subst hjm
      rw [List.getElem?_set_self (by omega)]
      show B ≤ imin _ _ ∧ _ ↔ _
      rw [le_imin]
      constructor
      · rintro ⟨⟨h1, h2⟩, h3⟩; exact ⟨h1, fun _ => h2⟩
      · rintro ⟨h1, h2⟩; exact ⟨⟨h1, h2 (by simp)⟩, fun _ => h2 (by simp)⟩
    · rw [List.getElem?_set_ne hjm, ← List.getD_eq_getElem?_getD]
      constructor
      · rintro ⟨h1, h2⟩
        refine ⟨h1, fun h => h2 ?_⟩
        rcases List.mem_cons.1 h with h | h
        · omega
        · exact h
      · rintro ⟨h1, h2⟩; exact ⟨h1, fun h => h2 (by simp [h])⟩
theorem le_latK {w : SWork} (hv : Well w) {days : Int} (hd : 0 ≤ days) {m : Nat} (hm : m < w.items.length) (B : Int) : ∀ k : Nat, k ≤ (ordS w).length →
    (B ≤ (latK w days k).1.getD m 0 ↔ B ≤ days ∧ ∀ j : Nat, (j : Int) ∈ (ordS w).reverse.take k → (m : Int) ∈ (bef w).getD j [] → B ≤ (latK w days k).2.getD j 0)
  | 0, _ => by
    have : (latK w days 0).1.getD m 0 = days := by
      show (List.replicate w.items.length days).getD m 0 = days
      rw [List.getD_eq_getElem?_getD, List.getElem?_replicate, if_pos hm]; rfl
    rw [this]
    simp
  | k + 1, hk => by
    have ih := le_latK hv hd hm B k (by omega)
    obtain ⟨h1, _, h3, _⟩ := latK_ok hv hd k (by omega)
    obtain ⟨y, hy⟩ := get_lt (show k < (ordS w).reverse.length by simp; omega)
    obtain ⟨i, x, rfl, hx⟩ := rev_known hv hy
    have hil := (List.getElem?_eq_some_iff.1 hx).1
    have hnd : (ordS w).reverse.Nodup := List.pairwise_reverse.2 ((topo_ord w).nodup.imp fun h => Ne.symm h)
    have hbx : (bef w).getD i [] = aft w x := by rw [List.getD_eq_getElem?_getD, bef, List.getElem?_map, hx]; rfl
    rw [latK_succ hy hx]
    show B ≤ (rowL _ _ _).getD m 0 ↔ _
    rw [le_rowL hm _ _ (known_row hv (List.mem_of_getElem? hx)) h1, ih, take_snoc hy, and_assoc]
    refine and_congr Iff.rfl ?_
    have hne : ∀ j : Nat, (j : Int) ∈ (ordS w).reverse.take k → j ≠ i := by
      rintro j hj rfl
      rw [List.mem_take_iff_getElem] at hj
      obtain ⟨q, hq, hqi⟩ := hj
      have := nodup_pos hnd (show (ordS w).reverse[q]? = some (j : Int) by rw [List.getElem?_eq_getElem (by omega), hqi]) hy
      omega
    constructor
    · rintro ⟨g1, g2⟩ j hj hjm
      show B ≤ ((latK w days k).2.set i _).getD j 0
      rw [List.getD_eq_getElem?_getD]
      rw [List.mem_append] at hj
      rcases hj with hj | hj
      · rw [List.getElem?_set_ne (hne j hj).symm, ← List.getD_eq_getElem?_getD]
        exact g1 j hj hjm
      · have hji : j = i := by simp at hj; omega
        subst hji
        rw [List.getElem?_set_self (by omega)]
        exact g2 (by rw [← hbx]; exact hjm)
    · intro g
      refine ⟨fun j hj hjm => ?_, fun hmx => ?_⟩
      · have := g j (by rw [List.mem_append]; exact .inl hj) hjm
        rw [List.getD_eq_getElem?_getD] at this
        rw [List.getD_eq_getElem?_getD]
        rw [show ((latK w days k).2.set i ((latK w days k).1.getD i 0 - leastP x))[j]? = (latK w days k).2[j]? from List.getElem?_set_ne (hne j hj).symm] at this
        exact this
      · have := g i (by simp) (by rw [hbx]; exact hmx)
        rw [List.getD_eq_getElem?_getD] at this
        rw [show ((latK w days k).2.set i ((latK w days k).1.getD i 0 - leastP x))[i]? = some ((latK w days k).1.getD i 0 - leastP x) from List.getElem?_set_self (by omega)] at this
        exact this
theorem refMin_eq {w : SWork} (hv : Well w) {days : Int} (hd : 0 ≤ days) {k i : Nat} (hk : (ordS w).reverse[k]? = some (i : Int)) (hi : i < w.items.length) : refMin w (latK w days k).2 i days w.items.length = (latK w days k).1.getD i 0 := by
  have hkl : k < (ordS w).length := by have := (List.getElem?_eq_some_iff.1 hk).1; simpa using this
  have key : ∀ B, B ≤ refMin w (latK w days k).2 i days w.items.length ↔ B ≤ (latK w days k).1.getD i 0 := by
    intro B
    rw [le_refMin, le_latK hv hd hi B k (by omega)]
    refine and_congr Iff.rfl ?_
    constructor
    · intro h j hj hij
      obtain ⟨q, y, he, hy⟩ := (refOrd_eq hv.good).2 (j : Int) (by have := List.mem_of_mem_take hj; simpa using this)
      have : j = q := by omega
      subst this
      exact h j (List.getElem?_eq_some_iff.1 hy).1 hij
    · intro h j hj hij
      exact h j (rev_before hv hk hj hij) hij
  exact Int.le_antisymm ((key _).1 (Int.le_refl _)) ((key _).2 (Int.le_refl _))
theorem after_any {w : SWork} (hv : Well w) {i : Nat} {x z : SItem} (hx : w.items[i]? = some x) (hz : z ∈ w.items) : z.after.any (· == x.name) = (aft w z).any (· == (i : Int)) := by
  rw [aft, List.any_map, Bool.eq_iff_iff, List.any_eq_true, List.any_eq_true]
  have hu := hv.good.uniq i x hx
  constructor
  · rintro ⟨s, hs, he⟩
    have he : s = x.name := by simpa using he
    subst he
    refine ⟨_, hs, ?_⟩
    show (idx (w.items.map (·.name)) (· == x.name) == (i : Int)) = true
    rw [idx_map, hu]; simp
  · rintro ⟨s, hs, he⟩
    obtain ⟨j, y, hy, hn, hidx⟩ := known_at hv.good hz hs
    have he : idx (w.items.map (·.name)) (· == s) = (i : Int) := by simpa using he
    rw [hidx] at he
    have : j = i := by omega
    subst this
    rw [hx] at hy
    cases hy
    exact ⟨s, hs, by simp [hn]⟩
end Go.Pv

/- The latest days and the critical items: the program's answers and the reference's. -/
set_option maxHeartbeats 2000000
namespace Go.Pv
attribute [local irreducible] PWP POps PQuiet PSem XThen XBlock RetPost InlPost
open Go.Proofs

theorem earlyS_ok {w : SWork} (hw : Sane w) (hv : Well w) : (earlyS w).1.length = w.items.length ∧ 0 ≤ (earlyS w).2 ∧ (earlyS w).2 ≤ 1000000000 := by
  have hfin : earlyK2 w (ordS w).length = earlyS w := by rw [earlyK2, List.take_length, earlyS]
  obtain ⟨h1, _, h3, h4⟩ := earlyK2_ok hw hv (ordS w).length (Nat.le_refl _)
  rw [hfin] at h1 h3 h4
  have := ordS_len w
  have := hv.n40
  exact ⟨h1, h3, by omega⟩
theorem latS_len {w : SWork} (hv : Well w) {days : Int} (hd : 0 ≤ days) : (latS w days).length = w.items.length := by
  have hfin : (latK w days (ordS w).reverse.length).2 = latS w days := by rw [latK, List.take_length, latS]
  have := (latK_ok hv hd (ordS w).reverse.length (by simp)).2.2.1
  rwa [hfin] at this

set_option maxRecDepth 20000 in
theorem latest_ref (w : SWork) (hw : Sane w) (hv : Well w) (days : Int) (hd : 0 ≤ days ∧ days ≤ 1000000000) : Ret Try.prog .shared 39 [.agg (eWork w), I days] (.sl ((latS w days).map eI)) := by
  have h1 := hw.items
  have hn40 := hv.n40
  have hol := ord_full hv
  have hwl : ((w.items.map eItem).length : Int) = w.items.length := by simp
  have hLl : ((((ordS w).map (nameAt w)).map eS).length : Int) = (ordS w).length := by simp
  have hrl : (ordS w).reverse.length = (ordS w).length := by simp
  refine Ret.of_pwp layOk mixed Go.Proofs.Try.func39 rfl (by decide) rfl rfl ?_
  repeat (first|refine pq_end rfl ?_|(refine zs rfl ?_ ?_;·repeat' constructor)|(refine zq rfl ?_ ?_;·repeat' constructor)|refine zw rfl ?_|refine zx rfl ?_|refine zb rfl ?_)
  refine ps_run (o_make rfl rfl rfl rfl rfl rfl rfl rfl (by omega) (by rw [hwl]; show ((8 : Nat) : Int) * _ ≤ _; omega) (by rw [hwl]; omega) ?_)
  repeat (first|refine pq_end rfl ?_|(refine zs rfl ?_ ?_;·repeat' constructor)|(refine zq rfl ?_ ?_;·repeat' constructor)|refine zw rfl ?_|refine zx rfl ?_|refine zb rfl ?_)
  (first|refine zsq rfl (q_call rfl (order_ref' w hw hv) rfl (by repeat' constructor) rfl) ?_|refine zqq rfl (q_call rfl (order_ref' w hw hv) rfl (by repeat' constructor) rfl) ?_)
  repeat (first|refine pq_end rfl ?_|(refine zs rfl ?_ ?_;·repeat' constructor)|(refine zq rfl ?_ ?_;·repeat' constructor)|refine zw rfl ?_|refine zx rfl ?_|refine zb rfl ?_)
  refine pw_loop (fun k => k ≤ (ordS w).length) (fun k => [(1, I days), (2, .ptr 2 1 0 0), (5, .als 14 1 0 w.items.length), (6, .sl (((ordS w).map (nameAt w)).map eS)), (7, I (((ordS w).length : Int) - 1 - k))])
    (fun k => [(2, 1, ⟨28, 9, [eWork w], 2⟩), (14, 1, ⟨3, 1, (latK w days k).2.map eI, 0⟩)]) (fun k => (ordS w).length - k) 0 (Nat.zero_le _) ⟨rfl, rfl, ?_, rfl, ?_, rfl, ?_, trivial⟩ ?_
  · show PV.als 14 1 0 (List.length (List.replicate (Int.toNat (w.items.map eItem).length) _)) = _
    simp
  · show PV.int .i64 (IntKind.i64.wrap ((((ordS w).map (nameAt w)).map eS).length - 1)) = _
    rw [hLl, wrap_i64 (by omega) (by omega)]
    congr 1
    omega
  · show (1, some (Cont.mk 3 1 (List.replicate (Int.toNat (w.items.map eItem).length) _) 0)) = _
    simp [latK, eI]
  intro k s hk
  obtain ⟨hc1, hc2, hc3, hc4⟩ := latK_ok hv hd.1 k hk
  repeat (first|refine pq_end rfl ?_|(refine zs rfl ?_ ?_;·repeat' constructor)|(refine zq rfl ?_ ?_;·repeat' constructor)|refine zw rfl ?_|refine zx rfl ?_|refine zb rfl ?_)
  refine pw_cond rfl (fun h => ?_) (fun h => ?_)
  · have hlt : k < (ordS w).length := by have := of_decide_eq_true h; omega
    clear h
    obtain ⟨y0, hy0⟩ := get_lt (show k < (ordS w).reverse.length by omega)
    obtain ⟨i, x, rfl, hx⟩ := rev_known hv hy0
    have hil := (List.getElem?_eq_some_iff.1 hx).1
    have hxm := List.mem_of_getElem? hx
    have hio := hv.item x hxm
    have hlb := leastP_bound hio
    have hy1 : (ordS w)[(((ordS w).length : Int) - 1 - k).toNat]? = some (i : Int) := by
      have := hy0
      rw [List.getElem?_reverse hlt] at this
      rw [show (((ordS w).length : Int) - 1 - k).toNat = (ordS w).length - 1 - k by omega]; exact this
    have hnm := ord_name hv hy1 hx
    have hiu := hv.good.uniq i x hx
    have h24 := itemOf_ret w x.name (by omega)
    rw [hiu] at h24
    have hmin := refMin_eq hv hd.1 hy0 hil
    have hsucc := latK_succ (days := days) hy0 hx
    rw [← hmin] at hsucc
    have be := hc2.get (d := i) (by omega)
    rw [← hmin] at be
    generalize (latK w days k).2 = out at *
    repeat (first|refine pq_end rfl ?_|(refine zs rfl ?_ ?_;·repeat' constructor)|(refine zq rfl ?_ ?_;·repeat' constructor)|refine zw rfl ?_|refine zx rfl ?_|refine zb rfl ?_)
    refine pw_draw 7 [24, 25, 26, 27, 28, 29, 8] (by decide +kernel) ?_
    repeat (first|refine pq_end rfl ?_|(refine zs rfl ?_ ?_;·repeat' constructor)|(refine zq rfl ?_ ?_;·repeat' constructor)|refine zw rfl ?_|refine zx rfl ?_|refine zb rfl ?_)
    (first|refine zsq rfl (q_idxm rfl rfl rfl rfl rfl (by omega) hnm rfl) ?_|refine zqq rfl (q_idxm rfl rfl rfl rfl rfl (by omega) hnm rfl) ?_)
    repeat (first|refine pq_end rfl ?_|(refine zs rfl ?_ ?_;·repeat' constructor)|(refine zq rfl ?_ ?_;·repeat' constructor)|refine zw rfl ?_|refine zx rfl ?_|refine zb rfl ?_)
    (first|refine zsq rfl (q_callP rfl (h24) rfl (by repeat' constructor) rfl rfl) ?_|refine zqq rfl (q_callP rfl (h24) rfl (by repeat' constructor) rfl rfl) ?_)
    repeat (first|refine pq_end rfl ?_|(refine zs rfl ?_ ?_;·repeat' constructor)|(refine zq rfl ?_ ?_;·repeat' constructor)|refine zw rfl ?_|refine zx rfl ?_|refine zb rfl ?_)
    refine pw_loop (fun j => j ≤ w.items.length) (fun j => [(1, I days), (2, .ptr 2 1 0 0), (5, .als 14 1 0 w.items.length), (6, .sl (((ordS w).map (nameAt w)).map eS)), (7, I (((ordS w).length : Int) - 1 - k)), (8, I i), (9, I (refMin w out i days j)), (10, I j)])
      (fun j => [(2, 1, ⟨28, 9, [eWork w], 2⟩), (14, 1, ⟨3, 1, out.map eI, 0⟩)]) (fun j => w.items.length - j) 0 (Nat.zero_le _) ⟨rfl, rfl, rfl, rfl, rfl, rfl, rfl, rfl, rfl, rfl, trivial⟩ ?_
    intro j s2 hj
    repeat (first|refine pq_end rfl ?_|(refine zs rfl ?_ ?_;·repeat' constructor)|(refine zq rfl ?_ ?_;·repeat' constructor)|refine zw rfl ?_|refine zx rfl ?_|refine zb rfl ?_)
    refine pw_cond rfl (fun h => ?_) (fun h => ?_)
    · have hlt' : j < w.items.length := by simpa using h
      clear h
      obtain ⟨z, hz⟩ := get_lt hlt'
      have hzm := List.mem_of_getElem? hz
      have hza := hw.after z hzm
      have hbz : (bef w).getD j [] = aft w z := by rw [List.getD_eq_getElem?_getD, bef, List.getElem?_map, hz]; rfl
      have hrm := refMin_succ w out i days j
      rw [hbz, ← after_any hv hx hzm] at hrm
      have r1 := eI_at (l := out) (i := j) (by omega)
      repeat (first|refine pq_end rfl ?_|(refine zs rfl ?_ ?_;·repeat' constructor)|(refine zq rfl ?_ ?_;·repeat' constructor)|refine zw rfl ?_|refine zx rfl ?_|refine zb rfl ?_)
      refine pw_draw 11 [38, 39, 40, 41, 42, 43, 44, 45, 46, 47, 48] (by decide +kernel) ?_
      repeat (first|refine pq_end rfl ?_|(refine zs rfl ?_ ?_;·repeat' constructor)|(refine zq rfl ?_ ?_;·repeat' constructor)|refine zw rfl ?_|refine zx rfl ?_|refine zb rfl ?_)
      (first|refine zsq rfl (q_idxm rfl rfl rfl rfl rfl (by omega) hz rfl) ?_|refine zqq rfl (q_idxm rfl rfl rfl rfl rfl (by omega) hz rfl) ?_)
      repeat (first|refine pq_end rfl ?_|(refine zs rfl ?_ ?_;·repeat' constructor)|(refine zq rfl ?_ ?_;·repeat' constructor)|refine zw rfl ?_|refine zx rfl ?_|refine zb rfl ?_)
      (first|refine zsq rfl (q_idxm rfl rfl rfl rfl rfl (by omega) hnm rfl) ?_|refine zqq rfl (q_idxm rfl rfl rfl rfl rfl (by omega) hnm rfl) ?_)
      repeat (first|refine pq_end rfl ?_|(refine zs rfl ?_ ?_;·repeat' constructor)|(refine zq rfl ?_ ?_;·repeat' constructor)|refine zw rfl ?_|refine zx rfl ?_|refine zb rfl ?_)
      (first|refine zsq rfl (q_callP rfl (among_ret z.after x.name (by omega)) rfl (by repeat' constructor) rfl rfl) ?_|refine zqq rfl (q_callP rfl (among_ret z.after x.name (by omega)) rfl (by repeat' constructor) rfl rfl) ?_)
      repeat (first|refine pq_end rfl ?_|(refine zs rfl ?_ ?_;·repeat' constructor)|(refine zq rfl ?_ ?_;·repeat' constructor)|refine zw rfl ?_|refine zx rfl ?_|refine zb rfl ?_)
      refine pw_cond rfl (fun h => ?_) (fun h => ?_)
      · rw [if_pos h] at hrm
        clear h
        repeat (first|refine pq_end rfl ?_|(refine zs rfl ?_ ?_;·repeat' constructor)|(refine zq rfl ?_ ?_;·repeat' constructor)|refine zw rfl ?_|refine zx rfl ?_|refine zb rfl ?_)
        refine ps_q (q_idxA rfl rfl rfl rfl rfl rfl rfl (by omega) (by omega)) ?_
        repeat (first|refine pq_end rfl ?_|(refine zs rfl ?_ ?_;·repeat' constructor)|(refine zq rfl ?_ ?_;·repeat' constructor)|refine zw rfl ?_|refine zx rfl ?_|refine zb rfl ?_)
        refine ps_q (q_ldp rfl rfl rfl r1 rfl) ?_
        repeat (first|refine pq_end rfl ?_|(refine zs rfl ?_ ?_;·repeat' constructor)|(refine zq rfl ?_ ?_;·repeat' constructor)|refine zw rfl ?_|refine zx rfl ?_|refine zb rfl ?_)
        refine ⟨j + 1, hlt', by omega, rfl, rfl, rfl, rfl, rfl, rfl, ?_, i64_next (by omega) (by omega), rfl, rfl, trivial⟩
        rw [hrm]; rfl
      · rw [if_neg (by rw [h]; simp)] at hrm
        clear h
        repeat (first|refine pq_end rfl ?_|(refine zs rfl ?_ ?_;·repeat' constructor)|(refine zq rfl ?_ ?_;·repeat' constructor)|refine zw rfl ?_|refine zx rfl ?_|refine zb rfl ?_)
        refine ⟨j + 1, hlt', by omega, rfl, rfl, rfl, rfl, rfl, rfl, ?_, i64_next (by omega) (by omega), rfl, rfl, trivial⟩
        rw [hrm]; rfl
    · have hge : j = w.items.length := by have : ¬ j < w.items.length := by simpa using h
                                          omega
      subst hge
      clear h
      generalize refMin w out i days w.items.length = v at *
      have hwr : IntKind.i64.wrap (v - leastP x) = v - leastP x := wrap_i64 (by omega) (by omega)
      have r1 := eI_at (l := out) (i := i) (by omega)
      repeat (first|refine pq_end rfl ?_|(refine zs rfl ?_ ?_;·repeat' constructor)|(refine zq rfl ?_ ?_;·repeat' constructor)|refine zw rfl ?_|refine zx rfl ?_|refine zb rfl ?_)
      (first|refine zsq rfl (q_idxm rfl rfl rfl rfl rfl (by omega) hx rfl) ?_|refine zqq rfl (q_idxm rfl rfl rfl rfl rfl (by omega) hx rfl) ?_)
      repeat (first|refine pq_end rfl ?_|(refine zs rfl ?_ ?_;·repeat' constructor)|(refine zq rfl ?_ ?_;·repeat' constructor)|refine zw rfl ?_|refine zx rfl ?_|refine zb rfl ?_)
      (first|refine zsq rfl (q_callP rfl (least_ref x hio.modes.1 (by have := hio.modes; omega)) rfl (by repeat' constructor) rfl rfl) ?_|refine zqq rfl (q_callP rfl (least_ref x hio.modes.1 (by have := hio.modes; omega)) rfl (by repeat' constructor) rfl rfl) ?_)
      repeat (first|refine pq_end rfl ?_|(refine zs rfl ?_ ?_;·repeat' constructor)|(refine zq rfl ?_ ?_;·repeat' constructor)|refine zw rfl ?_|refine zx rfl ?_|refine zb rfl ?_)
      refine ps_q (q_idxA rfl rfl rfl rfl rfl rfl rfl (by omega) (by omega)) ?_
      repeat (first|refine pq_end rfl ?_|(refine zs rfl ?_ ?_;·repeat' constructor)|(refine zq rfl ?_ ?_;·repeat' constructor)|refine zw rfl ?_|refine zx rfl ?_|refine zb rfl ?_)
      refine ps_run0 (o_store (kd' := 0) rfl rfl rfl r1 rfl rfl (by repeat' constructor) rfl rfl rfl rfl ?_)
      repeat (first|refine pq_end rfl ?_|(refine zs rfl ?_ ?_;·repeat' constructor)|(refine zq rfl ?_ ?_;·repeat' constructor)|refine zw rfl ?_|refine zx rfl ?_|refine zb rfl ?_)
      refine ⟨k + 1, hlt, by omega, rfl, rfl, rfl, rfl, ?_, rfl, ?_, trivial⟩
      · show PV.int .i64 (IntKind.i64.wrap (((ordS w).length : Int) - 1 - k - 1)) = _
        rw [wrap_i64 (by omega) (by omega)]
        congr 1
        omega
      · rw [hsucc]
        show (1, some (Cont.mk 3 1 ((out.map eI).set (0 + (i : Int).toNat) [I (IntKind.i64.wrap (v - leastP x))]) 0)) = (1, some (Cont.mk 3 1 ((out.set i (v - leastP x)).map eI) 0))
        rw [Nat.zero_add, Int.toNat_natCast, List.map_set, hwr]
        rfl
  · have hge : k = (ordS w).length := by have := of_decide_eq_false h; omega
    subst hge
    have hfin : (latK w days (ordS w).length).2 = latS w days := by rw [latK, ← hrl, List.take_length, latS]
    rw [hfin] at hc3 ⊢
    repeat (first|refine pq_end rfl ?_|(refine zs rfl ?_ ?_;·repeat' constructor)|(refine zq rfl ?_ ?_;·repeat' constructor)|refine zw rfl ?_|refine zx rfl ?_|refine zb rfl ?_)
    exact end1 rfl rfl rfl ⟨rfl, rfl, by rw [List.length_map, hc3]⟩ rfl

def latestR (w : SWork) (days : Int) : PV := if workE w = 0 then (if days < (earlyS w).2 ∨ 400 < days then .tup [.nil, I 16] else .tup [.sl ((latS w days).map eI), I 0]) else .tup [.nil, I (workE w)]
theorem latest_ret (w : SWork) (hw : Sane w) (days : Int) : Ret Try.prog .shared 34 [.agg (eWork w), I days] (latestR w days) := by
  have h33 := earliest_ret w hw
  by_cases hz : workE w = 0
  · have hv := well_of hz
    rw [earliestR, if_pos hz] at h33
    rw [latestR, if_pos hz]
    obtain ⟨_, he1, he2⟩ := earlyS_ok hw hv
    by_cases hc : days < (earlyS w).2 ∨ 400 < days
    · rw [if_pos hc]
      refine Ret.of_pwp layOk mixed Go.Proofs.Try.func34 rfl (by decide) rfl rfl ?_
      repeat (first|refine pq_end rfl ?_|(refine zs rfl ?_ ?_;·repeat' constructor)|(refine zq rfl ?_ ?_;·repeat' constructor)|refine zw rfl ?_|refine zx rfl ?_|refine zb rfl ?_)
      (first|refine zsq rfl (q_call rfl (h33) rfl (by repeat' constructor) rfl) ?_|refine zqq rfl (q_call rfl (h33) rfl (by repeat' constructor) rfl) ?_)
      repeat (first|refine pq_end rfl ?_|(refine zs rfl ?_ ?_;·repeat' constructor)|(refine zq rfl ?_ ?_;·repeat' constructor)|refine zw rfl ?_|refine zx rfl ?_|refine zb rfl ?_)
      (first | refine ps_split rfl rfl (fun h => ?_) (fun h => ?_) | refine pq_split rfl rfl (fun h => ?_) (fun h => ?_))
      · repeat (first|refine pq_end rfl ?_|(refine zs rfl ?_ ?_;·repeat' constructor)|(refine zq rfl ?_ ?_;·repeat' constructor)|refine zw rfl ?_|refine zx rfl ?_|refine zb rfl ?_)
        exact end2 rfl rfl rfl rfl rfl trivial trivial rfl
      · have h1 := of_decide_eq_false h
        clear h
        repeat (first|refine pq_end rfl ?_|(refine zs rfl ?_ ?_;·repeat' constructor)|(refine zq rfl ?_ ?_;·repeat' constructor)|refine zw rfl ?_|refine zx rfl ?_|refine zb rfl ?_)
        refine pw_cond rfl (fun h => ?_) (fun h => ?_)
        · repeat (first|refine pq_end rfl ?_|(refine zs rfl ?_ ?_;·repeat' constructor)|(refine zq rfl ?_ ?_;·repeat' constructor)|refine zw rfl ?_|refine zx rfl ?_|refine zb rfl ?_)
          exact end2 rfl rfl rfl rfl rfl trivial trivial rfl
        · have h2 := of_decide_eq_false h
          exact absurd hc (by omega)
    · rw [if_neg hc]
      have h86 := latest0_ret w hw hv days (by omega)
      refine Ret.of_pwp layOk mixed Go.Proofs.Try.func34 rfl (by decide) rfl rfl ?_
      repeat (first|refine pq_end rfl ?_|(refine zs rfl ?_ ?_;·repeat' constructor)|(refine zq rfl ?_ ?_;·repeat' constructor)|refine zw rfl ?_|refine zx rfl ?_|refine zb rfl ?_)
      (first|refine zsq rfl (q_call rfl (h33) rfl (by repeat' constructor) rfl) ?_|refine zqq rfl (q_call rfl (h33) rfl (by repeat' constructor) rfl) ?_)
      repeat (first|refine pq_end rfl ?_|(refine zs rfl ?_ ?_;·repeat' constructor)|(refine zq rfl ?_ ?_;·repeat' constructor)|refine zw rfl ?_|refine zx rfl ?_|refine zb rfl ?_)
      (first | refine ps_split rfl rfl (fun h => ?_) (fun h => ?_) | refine pq_split rfl rfl (fun h => ?_) (fun h => ?_))
      · have h1 := of_decide_eq_true h
        exact absurd (.inl h1) hc
      · clear h
        repeat (first|refine pq_end rfl ?_|(refine zs rfl ?_ ?_;·repeat' constructor)|(refine zq rfl ?_ ?_;·repeat' constructor)|refine zw rfl ?_|refine zx rfl ?_|refine zb rfl ?_)
        refine pw_cond rfl (fun h => ?_) (fun h => ?_)
        · have h2 := of_decide_eq_true h
          exact absurd (.inr h2) hc
        · clear h
          repeat (first|refine pq_end rfl ?_|(refine zs rfl ?_ ?_;·repeat' constructor)|(refine zq rfl ?_ ?_;·repeat' constructor)|refine zw rfl ?_|refine zx rfl ?_|refine zb rfl ?_)
          (first|refine zsq rfl (q_call rfl (h86) rfl (by repeat' constructor) rfl) ?_|refine zqq rfl (q_call rfl (h86) rfl (by repeat' constructor) rfl) ?_)
          repeat (first|refine pq_end rfl ?_|(refine zs rfl ?_ ?_;·repeat' constructor)|(refine zq rfl ?_ ?_;·repeat' constructor)|refine zw rfl ?_|refine zx rfl ?_|refine zb rfl ?_)
          exact end2 rfl rfl rfl rfl rfl trivial trivial rfl
  · rw [earliestR, if_neg hz] at h33
    rw [latestR, if_neg hz]
    generalize workE w = e at *
    refine Ret.of_pwp layOk mixed Go.Proofs.Try.func34 rfl (by decide) rfl rfl ?_
    repeat (first|refine pq_end rfl ?_|(refine zs rfl ?_ ?_;·repeat' constructor)|(refine zq rfl ?_ ?_;·repeat' constructor)|refine zw rfl ?_|refine zx rfl ?_|refine zb rfl ?_)
    (first|refine zsq rfl (q_call rfl (h33) rfl (by repeat' constructor) rfl) ?_|refine zqq rfl (q_call rfl (h33) rfl (by repeat' constructor) rfl) ?_)
    repeat (first|refine pq_end rfl ?_|(refine zs rfl ?_ ?_;·repeat' constructor)|(refine zq rfl ?_ ?_;·repeat' constructor)|refine zw rfl ?_|refine zx rfl ?_|refine zb rfl ?_)
    refine pw_cond rfl (fun h => ?_) (fun h => ?_)
    · repeat (first|refine pq_end rfl ?_|(refine zs rfl ?_ ?_;·repeat' constructor)|(refine zq rfl ?_ ?_;·repeat' constructor)|refine zw rfl ?_|refine zx rfl ?_|refine zb rfl ?_)
      exact end2 rfl rfl rfl rfl rfl trivial trivial rfl
    · exact absurd (by simpa using h) hz

def critAt (w : SWork) (a b : List Int) (i : Nat) : List Str := if b.getD i 0 = a.getD i 0 then [(itP w i).name] else []
def critN (w : SWork) (a b : List Int) (n : Nat) : List Str := (List.range n).flatMap (critAt w a b)
def critS (w : SWork) : List Str := critN w (earlyS w).1 (latS w (earlyS w).2) w.items.length
theorem critN_len (w : SWork) (a b : List Int) (n : Nat) : (critN w a b n).length ≤ n := by
  have := flatMap_len (f := critAt w a b) (c := 1) (fun i => by unfold critAt; split <;> simp) (List.range n)
  simpa [critN] using this
theorem eI_get {l : List Int} {i : Nat} (h : i < l.length) : l[i]? = some (l.getD i 0) := by rw [List.getD_eq_getElem?_getD, List.getElem?_eq_getElem h]; rfl
def criticalR (w : SWork) : PV := if workE w = 0 then .tup [.sl ((critS w).map eS), I 0] else .tup [.nil, I (workE w)]
theorem critical_ret (w : SWork) (hw : Sane w) : Ret Try.prog .shared 35 [.agg (eWork w)] (criticalR w) := by
  have h33 := earliest_ret w hw
  by_cases hz : workE w = 0
  · have hv := well_of hz
    have hn := hv.n40
    rw [earliestR, if_pos hz] at h33
    rw [criticalR, if_pos hz]
    obtain ⟨hel, he1, he2⟩ := earlyS_ok hw hv
    have h86 := latest0_ret w hw hv (earlyS w).2 ⟨he1, he2⟩
    have hll := latS_len hv he1
    have hcs : critS w = critN w (earlyS w).1 (latS w (earlyS w).2) w.items.length := rfl
    have hcl := critN_len w (earlyS w).1 (latS w (earlyS w).2)
    rw [hcs]
    generalize latS w (earlyS w).2 = b at *
    generalize (earlyS w).2 = all at *
    generalize (earlyS w).1 = a at *
    refine Ret.of_pwp layOk mixed Go.Proofs.Try.func35 rfl (by decide) rfl rfl ?_
    repeat (first|refine pq_end rfl ?_|(refine zs rfl ?_ ?_;·repeat' constructor)|(refine zq rfl ?_ ?_;·repeat' constructor)|refine zw rfl ?_|refine zx rfl ?_|refine zb rfl ?_)
    (first|refine zsq rfl (q_call rfl (h33) rfl (by repeat' constructor) rfl) ?_|refine zqq rfl (q_call rfl (h33) rfl (by repeat' constructor) rfl) ?_)
    repeat (first|refine pq_end rfl ?_|(refine zs rfl ?_ ?_;·repeat' constructor)|(refine zq rfl ?_ ?_;·repeat' constructor)|refine zw rfl ?_|refine zx rfl ?_|refine zb rfl ?_)
    (first|refine zsq rfl (q_call rfl (h86) rfl (by repeat' constructor) rfl) ?_|refine zqq rfl (q_call rfl (h86) rfl (by repeat' constructor) rfl) ?_)
    repeat (first|refine pq_end rfl ?_|(refine zs rfl ?_ ?_;·repeat' constructor)|(refine zq rfl ?_ ?_;·repeat' constructor)|refine zw rfl ?_|refine zx rfl ?_|refine zb rfl ?_)
    refine pw_ghost (Ghost.nilreg (k := 7) (t := 7) 9 1 0 rfl rfl) ?_
    refine pw_loop (fun k => k ≤ w.items.length) (fun k => [(1, .ptr 1 1 0 0), (4, .sl (a.map eI)), (7, .als 7 (1 + (critN w a b k).length) 0 ((critN w a b k).map eS).length), (21, .sl (b.map eI)), (22, I w.items.length), (23, I k)])
      (fun k => [(1, 1, ⟨28, 9, [eWork w], 2⟩), (7, 1 + (critN w a b k).length, ⟨9, 1, (critN w a b k).map eS, 0⟩)]) (fun k => w.items.length - k) 0 (Nat.zero_le _) ⟨rfl, rfl, rfl, rfl, ?_, rfl, rfl, rfl, trivial⟩ ?_
    · show I ((b.map eI).length) = _
      rw [List.length_map, hll]
    intro k s hk
    have hck := hcl k
    repeat (first|refine pq_end rfl ?_|(refine zs rfl ?_ ?_;·repeat' constructor)|(refine zq rfl ?_ ?_;·repeat' constructor)|refine zw rfl ?_|refine zx rfl ?_|refine zb rfl ?_)
    refine pw_cond rfl (fun h => ?_) (fun h => ?_)
    · have hlt : k < w.items.length := by have := of_decide_eq_true h; omega
      clear h
      obtain ⟨x, hx⟩ := get_lt hlt
      have ha := eI_get (l := a) (i := k) (by omega)
      have hb := eI_get (l := b) (i := k) (by omega)
      have hs : critN w a b (k + 1) = critN w a b k ++ critAt w a b k := range_flatMap _ _
      rw [critAt, itP_at hx] at hs
      generalize critN w a b k = ACC at *
      repeat (first|refine pq_end rfl ?_|(refine zs rfl ?_ ?_;·repeat' constructor)|(refine zq rfl ?_ ?_;·repeat' constructor)|refine zw rfl ?_|refine zx rfl ?_|refine zb rfl ?_)
      (first|refine zsq rfl (q_idxm rfl rfl rfl rfl rfl (by omega) hb rfl) ?_|refine zqq rfl (q_idxm rfl rfl rfl rfl rfl (by omega) hb rfl) ?_)
      repeat (first|refine pq_end rfl ?_|(refine zs rfl ?_ ?_;·repeat' constructor)|(refine zq rfl ?_ ?_;·repeat' constructor)|refine zw rfl ?_|refine zx rfl ?_|refine zb rfl ?_)
      (first|refine zsq rfl (q_idxm rfl rfl rfl rfl rfl (by omega) ha rfl) ?_|refine zqq rfl (q_idxm rfl rfl rfl rfl rfl (by omega) ha rfl) ?_)
      repeat (first|refine pq_end rfl ?_|(refine zs rfl ?_ ?_;·repeat' constructor)|(refine zq rfl ?_ ?_;·repeat' constructor)|refine zw rfl ?_|refine zx rfl ?_|refine zb rfl ?_)
      refine pw_cond rfl (fun h => ?_) (fun h => ?_)
      · have he := of_decide_eq_true h
        clear h
        rw [if_pos he] at hs
        repeat (first|refine pq_end rfl ?_|(refine zs rfl ?_ ?_;·repeat' constructor)|(refine zq rfl ?_ ?_;·repeat' constructor)|refine zw rfl ?_|refine zx rfl ?_|refine zb rfl ?_)
        (first|refine zsq rfl (q_idxm rfl rfl rfl rfl rfl (by omega) hx rfl) ?_|refine zqq rfl (q_idxm rfl rfl rfl rfl rfl (by omega) hx rfl) ?_)
        repeat (first|refine pq_end rfl ?_|(refine zs rfl ?_ ?_;·repeat' constructor)|(refine zq rfl ?_ ?_;·repeat' constructor)|refine zw rfl ?_|refine zx rfl ?_|refine zb rfl ?_)
        (first|refine zsq rfl (q_slit rfl rfl rfl rfl rfl rfl rfl rfl rfl rfl (by repeat' constructor) rfl) ?_|refine zqq rfl (q_slit rfl rfl rfl rfl rfl rfl rfl rfl rfl rfl (by repeat' constructor) rfl) ?_)
        repeat (first|refine pq_end rfl ?_|(refine zs rfl ?_ ?_;·repeat' constructor)|(refine zq rfl ?_ ?_;·repeat' constructor)|refine zw rfl ?_|refine zx rfl ?_|refine zb rfl ?_)
        refine ps_run (o_app 0 rfl rfl rfl rfl rfl rfl rfl rfl rfl rfl rfl (by repeat' constructor) (by intro row hr; first | (simp at hr; subst hr; rfl) | simp at hr) rfl rfl (by simp; omega) (by simp; omega) ?_)
        repeat (first|refine pq_end rfl ?_|(refine zs rfl ?_ ?_;·repeat' constructor)|(refine zq rfl ?_ ?_;·repeat' constructor)|refine zw rfl ?_|refine zx rfl ?_|refine zb rfl ?_)
        refine ⟨k + 1, hlt, by omega, rfl, rfl, ?_, rfl, rfl, i64_next (by omega) (by omega), rfl, ?_, trivial⟩
        · rw [hs]; exact als_snoc eS 7 1 ACC x.name
        · rw [hs]; exact cont_snoc eS 1 9 1 0 ACC x.name
      · have he := of_decide_eq_false h
        clear h
        rw [if_neg he, List.append_nil] at hs
        repeat (first|refine pq_end rfl ?_|(refine zs rfl ?_ ?_;·repeat' constructor)|(refine zq rfl ?_ ?_;·repeat' constructor)|refine zw rfl ?_|refine zx rfl ?_|refine zb rfl ?_)
        refine ⟨k + 1, hlt, by omega, rfl, rfl, ?_, rfl, rfl, i64_next (by omega) (by omega), rfl, ?_, trivial⟩
        · rw [hs]; rfl
        · rw [hs]; rfl
    · have hge : k = w.items.length := by have := of_decide_eq_false h; omega
      subst hge
      repeat (first|refine pq_end rfl ?_|(refine zs rfl ?_ ?_;·repeat' constructor)|(refine zq rfl ?_ ?_;·repeat' constructor)|refine zw rfl ?_|refine zx rfl ?_|refine zb rfl ?_)
      exact end2 rfl rfl rfl rfl rfl ⟨rfl, rfl, rfl⟩ trivial rfl
  · rw [earliestR, if_neg hz] at h33
    rw [criticalR, if_neg hz]
    generalize workE w = e at *
    refine Ret.of_pwp layOk mixed Go.Proofs.Try.func35 rfl (by decide) rfl rfl ?_
    repeat (first|refine pq_end rfl ?_|(refine zs rfl ?_ ?_;·repeat' constructor)|(refine zq rfl ?_ ?_;·repeat' constructor)|refine zw rfl ?_|refine zx rfl ?_|refine zb rfl ?_)
    (first|refine zsq rfl (q_call rfl (h33) rfl (by repeat' constructor) rfl) ?_|refine zqq rfl (q_call rfl (h33) rfl (by repeat' constructor) rfl) ?_)
    repeat (first|refine pq_end rfl ?_|(refine zs rfl ?_ ?_;·repeat' constructor)|(refine zq rfl ?_ ?_;·repeat' constructor)|refine zw rfl ?_|refine zx rfl ?_|refine zb rfl ?_)
    refine pw_cond rfl (fun h => ?_) (fun h => ?_)
    · repeat (first|refine pq_end rfl ?_|(refine zs rfl ?_ ?_;·repeat' constructor)|(refine zq rfl ?_ ?_;·repeat' constructor)|refine zw rfl ?_|refine zx rfl ?_|refine zb rfl ?_)
      exact end2 rfl rfl rfl rfl rfl trivial trivial rfl
    · exact absurd (by simpa using h) hz
theorem critical_ref (w : SWork) (hw : Sane w) (hv : Well w) : Ret Try.prog .shared 38 [.agg (eWork w)] (.sl ((critS w).map eS)) := by
  have h36 := earliest_ref w hw hv
  have hn := hv.n40
  obtain ⟨hel, he1, he2⟩ := earlyS_ok hw hv
  have h39 := latest_ref w hw hv (earlyS w).2 ⟨he1, he2⟩
  have hll := latS_len hv he1
  have hcs : critS w = critN w (earlyS w).1 (latS w (earlyS w).2) w.items.length := rfl
  have hcl := critN_len w (earlyS w).1 (latS w (earlyS w).2)
  rw [hcs]
  generalize latS w (earlyS w).2 = b at *
  generalize (earlyS w).2 = all at *
  generalize (earlyS w).1 = a at *
  have hal : ((a.map eI).length : Int) = w.items.length := by simp [hel]
  refine Ret.of_pwp layOk mixed Go.Proofs.Try.func38 rfl (by decide) rfl rfl ?_
  repeat (first|refine pq_end rfl ?_|(refine zs rfl ?_ ?_;·repeat' constructor)|(refine zq rfl ?_ ?_;·repeat' constructor)|refine zw rfl ?_|refine zx rfl ?_|refine zb rfl ?_)
  (first|refine zsq rfl (q_call rfl (h36) rfl (by repeat' constructor) rfl) ?_|refine zqq rfl (q_call rfl (h36) rfl (by repeat' constructor) rfl) ?_)
  repeat (first|refine pq_end rfl ?_|(refine zs rfl ?_ ?_;·repeat' constructor)|(refine zq rfl ?_ ?_;·repeat' constructor)|refine zw rfl ?_|refine zx rfl ?_|refine zb rfl ?_)
  (first|refine zsq rfl (q_call rfl (h39) rfl (by repeat' constructor) rfl) ?_|refine zqq rfl (q_call rfl (h39) rfl (by repeat' constructor) rfl) ?_)
  repeat (first|refine pq_end rfl ?_|(refine zs rfl ?_ ?_;·repeat' constructor)|(refine zq rfl ?_ ?_;·repeat' constructor)|refine zw rfl ?_|refine zx rfl ?_|refine zb rfl ?_)
  refine pw_ghost (Ghost.nilreg (k := 6) (t := 6) 9 1 0 rfl rfl) ?_
  refine pw_loop (fun k => k ≤ w.items.length) (fun k => [(1, .ptr 1 1 0 0), (3, .sl (a.map eI)), (5, .sl (b.map eI)), (6, .als 6 (1 + (critN w a b k).length) 0 ((critN w a b k).map eS).length), (7, I k)])
    (fun k => [(1, 1, ⟨28, 9, [eWork w], 2⟩), (6, 1 + (critN w a b k).length, ⟨9, 1, (critN w a b k).map eS, 0⟩)]) (fun k => w.items.length - k) 0 (Nat.zero_le _) ⟨rfl, rfl, rfl, rfl, rfl, rfl, rfl, trivial⟩ ?_
  intro k s hk
  have hck := hcl k
  repeat (first|refine pq_end rfl ?_|(refine zs rfl ?_ ?_;·repeat' constructor)|(refine zq rfl ?_ ?_;·repeat' constructor)|refine zw rfl ?_|refine zx rfl ?_|refine zb rfl ?_)
  refine pw_cond rfl (fun h => ?_) (fun h => ?_)
  · have hlt : k < w.items.length := by have := of_decide_eq_true h; omega
    clear h
    obtain ⟨x, hx⟩ := get_lt hlt
    have ha := eI_get (l := a) (i := k) (by omega)
    have hb := eI_get (l := b) (i := k) (by omega)
    have hs : critN w a b (k + 1) = critN w a b k ++ critAt w a b k := range_flatMap _ _
    rw [critAt, itP_at hx] at hs
    generalize critN w a b k = ACC at *
    repeat (first|refine pq_end rfl ?_|(refine zs rfl ?_ ?_;·repeat' constructor)|(refine zq rfl ?_ ?_;·repeat' constructor)|refine zw rfl ?_|refine zx rfl ?_|refine zb rfl ?_)
    refine pw_draw 9 [22, 23, 24, 25, 26, 27, 28, 29, 30] (by decide +kernel) ?_
    repeat (first|refine pq_end rfl ?_|(refine zs rfl ?_ ?_;·repeat' constructor)|(refine zq rfl ?_ ?_;·repeat' constructor)|refine zw rfl ?_|refine zx rfl ?_|refine zb rfl ?_)
    (first|refine zsq rfl (q_idxm rfl rfl rfl rfl rfl (by omega) ha rfl) ?_|refine zqq rfl (q_idxm rfl rfl rfl rfl rfl (by omega) ha rfl) ?_)
    repeat (first|refine pq_end rfl ?_|(refine zs rfl ?_ ?_;·repeat' constructor)|(refine zq rfl ?_ ?_;·repeat' constructor)|refine zw rfl ?_|refine zx rfl ?_|refine zb rfl ?_)
    (first|refine zsq rfl (q_idxm rfl rfl rfl rfl rfl (by omega) hb rfl) ?_|refine zqq rfl (q_idxm rfl rfl rfl rfl rfl (by omega) hb rfl) ?_)
    repeat (first|refine pq_end rfl ?_|(refine zs rfl ?_ ?_;·repeat' constructor)|(refine zq rfl ?_ ?_;·repeat' constructor)|refine zw rfl ?_|refine zx rfl ?_|refine zb rfl ?_)
    refine pw_cond rfl (fun h => ?_) (fun h => ?_)
    · have he := of_decide_eq_true h
      clear h
      rw [if_pos he.symm] at hs
      repeat (first|refine pq_end rfl ?_|(refine zs rfl ?_ ?_;·repeat' constructor)|(refine zq rfl ?_ ?_;·repeat' constructor)|refine zw rfl ?_|refine zx rfl ?_|refine zb rfl ?_)
      (first|refine zsq rfl (q_idxm rfl rfl rfl rfl rfl (by omega) hx rfl) ?_|refine zqq rfl (q_idxm rfl rfl rfl rfl rfl (by omega) hx rfl) ?_)
      repeat (first|refine pq_end rfl ?_|(refine zs rfl ?_ ?_;·repeat' constructor)|(refine zq rfl ?_ ?_;·repeat' constructor)|refine zw rfl ?_|refine zx rfl ?_|refine zb rfl ?_)
      (first|refine zsq rfl (q_slit rfl rfl rfl rfl rfl rfl rfl rfl rfl rfl (by repeat' constructor) rfl) ?_|refine zqq rfl (q_slit rfl rfl rfl rfl rfl rfl rfl rfl rfl rfl (by repeat' constructor) rfl) ?_)
      repeat (first|refine pq_end rfl ?_|(refine zs rfl ?_ ?_;·repeat' constructor)|(refine zq rfl ?_ ?_;·repeat' constructor)|refine zw rfl ?_|refine zx rfl ?_|refine zb rfl ?_)
      refine ps_run (o_app 0 rfl rfl rfl rfl rfl rfl rfl rfl rfl rfl rfl (by repeat' constructor) (by intro row hr; first | (simp at hr; subst hr; rfl) | simp at hr) rfl rfl (by simp; omega) (by simp; omega) ?_)
      repeat (first|refine pq_end rfl ?_|(refine zs rfl ?_ ?_;·repeat' constructor)|(refine zq rfl ?_ ?_;·repeat' constructor)|refine zw rfl ?_|refine zx rfl ?_|refine zb rfl ?_)
      refine ⟨k + 1, hlt, by omega, rfl, rfl, rfl, ?_, i64_next (by omega) (by omega), rfl, ?_, trivial⟩
      · rw [hs]; exact als_snoc eS 6 1 ACC x.name
      · rw [hs]; exact cont_snoc eS 1 9 1 0 ACC x.name
    · have he := of_decide_eq_false h
      clear h
      rw [if_neg (Ne.symm he), List.append_nil] at hs
      repeat (first|refine pq_end rfl ?_|(refine zs rfl ?_ ?_;·repeat' constructor)|(refine zq rfl ?_ ?_;·repeat' constructor)|refine zw rfl ?_|refine zx rfl ?_|refine zb rfl ?_)
      refine ⟨k + 1, hlt, by omega, rfl, rfl, rfl, ?_, i64_next (by omega) (by omega), rfl, ?_, trivial⟩
      · rw [hs]; rfl
      · rw [hs]; rfl
  · have hge : k = w.items.length := by have := of_decide_eq_false h; omega
    subst hge
    repeat (first|refine pq_end rfl ?_|(refine zs rfl ?_ ?_;·repeat' constructor)|(refine zq rfl ?_ ?_;·repeat' constructor)|refine zw rfl ?_|refine zx rfl ?_|refine zb rfl ?_)
    exact end1 rfl rfl rfl ⟨rfl, rfl, rfl⟩ rfl
end Go.Pv

/- What earliest and latest days are to a plan, and to each other. -/
set_option maxHeartbeats 2000000
namespace Go.Pv
attribute [local irreducible] PWP POps PQuiet PSem XThen XBlock RetPost InlPost
open Go.Proofs

def rowN (w : SWork) (i : Nat) : List Int := (bef w).getD i []
def lst (w : SWork) (i : Nat) : Int := leastP (itP w (i : Int))
theorem rowN_at {w : SWork} {i : Nat} {x : SItem} (hx : w.items[i]? = some x) : rowN w i = aft w x := by rw [rowN, List.getD_eq_getElem?_getD, bef, List.getElem?_map, hx]; rfl
theorem lst_at {w : SWork} {i : Nat} {x : SItem} (hx : w.items[i]? = some x) : lst w i = leastP x := by rw [lst, itP_at hx]
theorem rowN_known {w : SWork} (hv : Well w) {i : Nat} (hi : i < w.items.length) : KnownRow w (rowN w i) := by
  obtain ⟨x, hx⟩ := get_lt hi
  rw [rowN_at hx]; exact known_row hv (List.mem_of_getElem? hx)
theorem lst_pos {w : SWork} (hv : Well w) {i : Nat} (hi : i < w.items.length) : 1 ≤ lst w i := by
  obtain ⟨x, hx⟩ := get_lt hi
  rw [lst_at hx]; exact (leastP_bound (hv.item x (List.mem_of_getElem? hx))).1
theorem set_get {l : List Int} {i m : Nat} {v : Int} (hi : i < l.length) : (l.set i v).getD m 0 = if i = m then v else l.getD m 0 := by
  rw [List.getD_eq_getElem?_getD]
  by_cases h : i = m
  · subst h
    rw [List.getElem?_set_self hi, if_pos rfl]; rfl
  · rw [List.getElem?_set_ne h, if_neg h, List.getD_eq_getElem?_getD]
theorem imax_cases (a b : Int) : (imax a b = a ∧ b ≤ a) ∨ (imax a b = b ∧ a < b) := by unfold imax; split <;> omega

structure RowSpec (w : SWork) (i : Nat) (row : List Int) (out new : List Int) : Prop where
  len : new.length = out.length
  other : ∀ m, m ≠ i → new.getD m 0 = out.getD m 0
  ge : out.getD i 0 ≤ new.getD i 0
  all : ∀ m : Nat, (m : Int) ∈ row → out.getD m 0 + lst w m ≤ new.getD i 0
  att : new.getD i 0 = out.getD i 0 ∨ ∃ m : Nat, (m : Int) ∈ row ∧ new.getD i 0 = out.getD m 0 + lst w m
theorem rowE_spec {w : SWork} {i : Nat} {out : List Int} (hi : i < out.length) : ∀ (row : List Int), KnownRow w row → (i : Int) ∉ row → RowSpec w i row out (rowE w i row out) := by
  intro row hr hn
  have : ∀ j, j ≤ row.length → RowSpec w i (row.take j) out (rowE w i (row.take j) out) := by
    intro j
    induction j with
    | zero => intro _; exact ⟨rfl, fun _ _ => rfl, Int.le_refl _, fun m hm => by simp at hm, .inl rfl⟩
    | succ j ih =>
      intro hj
      have ih := ih (by omega)
      obtain ⟨k, hk⟩ := get_lt (show j < row.length by omega)
      obtain ⟨m, y, rfl, hy⟩ := hr k (List.mem_of_getElem? hk)
      have hmi : m ≠ i := fun h => hn (h ▸ List.mem_of_getElem? hk)
      have hs : rowE w i (row.take (j + 1)) out = stepE w i (rowE w i (row.take j) out) m := by rw [rowE, take_snoc hk, List.foldl_append]; rfl
      rw [hs]
      generalize rowE w i (row.take j) out = new at *
      have hil : i < new.length := by rw [ih.len]; exact hi
      have hst : stepE w i new m = new.set i (imax (new.getD i 0) (new.getD m 0 + lst w m)) := by rw [stepE, Int.toNat_natCast, Int.toNat_natCast]; rfl
      have hgi : (stepE w i new m).getD i 0 = imax (new.getD i 0) (out.getD m 0 + lst w m) := by rw [hst, set_get hil, if_pos rfl, ih.other m hmi]
      refine ⟨by rw [hst, List.length_set, ih.len], fun q hq => ?_, ?_, fun q hq => ?_, ?_⟩
      · rw [hst, set_get hil, if_neg (Ne.symm hq)]; exact ih.other q hq
      · rw [hgi]
        have := ih.ge
        rcases imax_cases (new.getD i 0) (out.getD m 0 + lst w m) with ⟨h, _⟩ | ⟨h, _⟩ <;> omega
      · rw [hgi]
        rw [take_snoc hk, List.mem_append] at hq
        rcases hq with hq | hq
        · have := ih.all q hq
          rcases imax_cases (new.getD i 0) (out.getD m 0 + lst w m) with ⟨h, _⟩ | ⟨h, _⟩ <;> omega
        · have : q = m := by simp at hq; omega
          subst this
          rcases imax_cases (new.getD i 0) (out.getD q 0 + lst w q) with ⟨h, _⟩ | ⟨h, _⟩ <;> omega
      · rw [hgi]
        rcases imax_cases (new.getD i 0) (out.getD m 0 + lst w m) with ⟨h, _⟩ | ⟨h, _⟩
        · rw [h]
          rcases ih.att with h1 | ⟨q, hq, h1⟩
          · exact .inl h1
          · exact .inr ⟨q, by rw [take_snoc hk, List.mem_append]; exact .inl hq, h1⟩
        · exact .inr ⟨m, by rw [take_snoc hk, List.mem_append]; exact .inr (by simp), h⟩
  have := this row.length (Nat.le_refl _)
  rwa [List.take_length] at this

/-- What stands in the order, and what it waits for. -/
theorem ord_step {w : SWork} (hv : Well w) {k : Nat} (hk : k < (ordS w).length) : ∃ (i : Nat) (x : SItem), (ordS w)[k]? = some (i : Int) ∧ w.items[i]? = some x ∧ (i : Int) ∉ (ordS w).take k ∧ (∀ m ∈ rowN w i, m ∈ (ordS w).take k) ∧ (i : Int) ∉ rowN w i := by
  obtain ⟨y, hy⟩ := get_lt hk
  obtain ⟨i, x, rfl, hx⟩ := (refOrd_eq hv.good).2 y (List.mem_of_getElem? hy)
  have ht := topo_ord w
  have hni : (i : Int) ∉ (ordS w).take k := by
    intro h
    rw [List.mem_take_iff_getElem] at h
    obtain ⟨q, hq, hqi⟩ := h
    have := nodup_pos ht.nodup (show (ordS w)[q]? = some (i : Int) by rw [List.getElem?_eq_getElem (by omega), hqi]) hy
    omega
  have hrow : ∀ m ∈ rowN w i, m ∈ (ordS w).take k := fun m hm => ht.pre k _ hy m (by rw [Int.toNat_natCast]; exact hm)
  exact ⟨i, x, hy, hx, hni, hrow, fun h => hni (hrow _ h)⟩
structure ESpec (w : SWork) (K : Nat) (out : List Int) (last : Int) : Prop where
  len : out.length = w.items.length
  none : ∀ i : Nat, (i : Int) ∉ (ordS w).take K → out.getD i 0 = 0
  all : ∀ i : Nat, (i : Int) ∈ (ordS w).take K → ∀ m : Nat, (m : Int) ∈ rowN w i → out.getD m 0 + lst w m ≤ out.getD i 0
  nonneg : ∀ i : Nat, 0 ≤ out.getD i 0
  att : ∀ i : Nat, out.getD i 0 = 0 ∨ ∃ m : Nat, (m : Int) ∈ rowN w i ∧ out.getD i 0 = out.getD m 0 + lst w m
  le : ∀ i : Nat, (i : Int) ∈ (ordS w).take K → out.getD i 0 + lst w i ≤ last
  last0 : (last = 0 ∧ K = 0) ∨ ∃ i : Nat, (i : Int) ∈ (ordS w).take K ∧ last = out.getD i 0 + lst w i
theorem early_spec {w : SWork} (hv : Well w) : ∀ K, K ≤ (ordS w).length → ESpec w K (earlyK2 w K).1 (earlyK2 w K).2
  | 0, _ => by
    have hz : ∀ i : Nat, (earlyK2 w 0).1.getD i 0 = 0 := fun i => by
      show (List.replicate w.items.length (0 : Int)).getD i 0 = 0
      rw [List.getD_eq_getElem?_getD, List.getElem?_replicate]; split <;> rfl
    exact ⟨by simp [earlyK2], fun i _ => hz i, fun i h => by simp at h, fun i => by rw [hz i]; exact Int.le_refl _, fun i => .inl (hz i), fun i h => by simp at h, .inl ⟨rfl, rfl⟩⟩
  | K + 1, hK => by
    have ih := early_spec hv K (by omega)
    obtain ⟨i, x, hy, hx, hni, hrow, hself⟩ := ord_step hv (show K < (ordS w).length by omega)
    have hil := (List.getElem?_eq_some_iff.1 hx).1
    rw [earlyK2_succ hy hx, ← rowN_at hx, ← lst_at hx]
    have hrs := rowE_spec (w := w) (i := i) (out := (earlyK2 w K).1) (by rw [ih.len]; exact hil) (rowN w i) (rowN_known hv hil) hself
    generalize (earlyK2 w K).1 = out at *
    generalize (earlyK2 w K).2 = last at *
    generalize rowE w i (rowN w i) out = new at *
    have hi0 : out.getD i 0 = 0 := ih.none i hni
    have hne : ∀ j : Nat, (j : Int) ∈ (ordS w).take K → j ≠ i := fun j hj h => hni (h ▸ hj)
    have hmem : ∀ j : Nat, (j : Int) ∈ (ordS w).take (K + 1) ↔ (j : Int) ∈ (ordS w).take K ∨ j = i := fun j => by
      rw [take_snoc hy, List.mem_append, List.mem_singleton]
      constructor
      · rintro (h | h)
        · exact .inl h
        · exact .inr (by omega)
      · rintro (h | h)
        · exact .inl h
        · exact .inr (by rw [h])
    have hrne : ∀ m : Nat, (m : Int) ∈ rowN w i → m ≠ i := fun m hm => hne m (hrow _ hm)
    show ESpec w (K + 1) new (imax last (new.getD i 0 + lst w i))
    refine ⟨by rw [hrs.len, ih.len], fun j hj => ?_, fun j hj m hm => ?_, fun j => ?_, fun j => ?_, fun j hj => ?_, .inr ?_⟩
    · rw [hmem] at hj
      rw [hrs.other j (fun h => hj (.inr h))]
      exact ih.none j fun h => hj (.inl h)
    · rw [hmem] at hj
      rcases hj with hj | rfl
      · have hmt : (m : Int) ∈ (ordS w).take K := by
          rw [List.mem_take_iff_getElem] at hj
          obtain ⟨q, hq, hqj⟩ := hj
          have := (topo_ord w).pre q _ (show (ordS w)[q]? = some (j : Int) by rw [List.getElem?_eq_getElem (by omega), hqj]) m (by rw [Int.toNat_natCast]; exact hm)
          exact List.mem_of_mem_take (by rw [List.take_take, Nat.min_eq_left (by omega : q ≤ K)]; exact this : (m : Int) ∈ ((ordS w).take K).take q)
        rw [hrs.other j (hne j hj), hrs.other m (hne m hmt)]
        exact ih.all j hj m hm
      · rw [hrs.other m (hrne m hm)]
        exact hrs.all m hm
    · by_cases hji : j = i
      · subst hji
        have := hrs.ge
        omega
      · rw [hrs.other j hji]; exact ih.nonneg j
    · by_cases hji : j = i
      · subst hji
        rcases hrs.att with h | ⟨m, hm, h⟩
        · exact .inl (by omega)
        · exact .inr ⟨m, hm, by rw [h, hrs.other m (hrne m hm)]⟩
      · rw [hrs.other j hji]
        rcases ih.att j with h | ⟨m, hm, h⟩
        · exact .inl h
        · by_cases hjt : (j : Int) ∈ (ordS w).take K
          · have hmt : m ≠ i := by
              rw [List.mem_take_iff_getElem] at hjt
              obtain ⟨q, hq, hqj⟩ := hjt
              have := (topo_ord w).pre q _ (show (ordS w)[q]? = some (j : Int) by rw [List.getElem?_eq_getElem (by omega), hqj]) m (by rw [Int.toNat_natCast]; exact hm)
              exact hne m (List.mem_of_mem_take (by rw [List.take_take, Nat.min_eq_left (by omega : q ≤ K)]; exact this : (m : Int) ∈ ((ordS w).take K).take q))
            exact .inr ⟨m, hm, by rw [hrs.other m hmt]; exact h⟩
          · exact .inl (ih.none j hjt)
    · rw [hmem] at hj
      rcases hj with hj | rfl
      · rw [hrs.other j (hne j hj)]
        have := ih.le j hj
        rcases imax_cases last (new.getD i 0 + lst w i) with ⟨h, _⟩ | ⟨h, _⟩ <;> omega
      · rcases imax_cases last (new.getD j 0 + lst w j) with ⟨h, _⟩ | ⟨h, _⟩ <;> omega
    · rcases imax_cases last (new.getD i 0 + lst w i) with ⟨h, hle⟩ | ⟨h, _⟩
      · rw [h]
        rcases ih.last0 with ⟨h0, _⟩ | ⟨j, hj, h1⟩
        · have := lst_pos hv hil
          have := hrs.ge
          omega
        · exact ⟨j, (hmem j).2 (.inl hj), by rw [hrs.other j (hne j hj)]; exact h1⟩
      · exact ⟨i, (hmem i).2 (.inr rfl), h⟩
/-- The earliest days of all items. -/
theorem early_all {w : SWork} (hv : Well w) : ESpec w w.items.length (earlyS w).1 (earlyS w).2 := by
  have := early_spec hv (ordS w).length (Nat.le_refl _)
  have hfin : earlyK2 w (ordS w).length = earlyS w := by rw [earlyK2, List.take_length, earlyS]
  rw [hfin, ord_full hv] at this
  exact this
theorem take_all {w : SWork} (hv : Well w) {i : Nat} (hi : i < w.items.length) : (i : Int) ∈ (ordS w).take w.items.length := by
  rw [← ord_full hv, List.take_length]; exact ord_all hv hi

/-- Days that fit the order are not before the earliest ones. -/
theorem early_le {w : SWork} (hv : Well w) {D : Nat → Int} (h0 : ∀ i, i < w.items.length → 0 ≤ D i) (h1 : ∀ i m : Nat, i < w.items.length → m < w.items.length → (m : Int) ∈ rowN w i → D m + lst w m ≤ D i) : ∀ i, i < w.items.length → (earlyS w).1.getD i 0 ≤ D i := by
  have hs := early_all hv
  have key : ∀ (f i : Nat), i < w.items.length → ((earlyS w).1.getD i 0).toNat ≤ f → (earlyS w).1.getD i 0 ≤ D i := by
    intro f
    induction f with
    | zero =>
      intro i hi hf
      have := hs.nonneg i
      have := h0 i hi
      omega
    | succ f ih =>
      intro i hi hf
      rcases hs.att i with h | ⟨m, hm, h⟩
      · rw [h]; exact h0 i hi
      · obtain ⟨q, y, hq, hy⟩ := rowN_known hv hi _ hm
        have hml : m < w.items.length := by have := (List.getElem?_eq_some_iff.1 hy).1; omega
        have hl := lst_pos hv hml
        have hnn := hs.nonneg m
        have := ih m hml (by omega)
        have := h1 i m hi hml hm
        omega
  exact fun i hi => key _ i hi (Nat.le_refl _)

/-! ### The latest days -/
theorem rev_pos {w : SWork} (hv : Well w) {i : Nat} (hi : i < w.items.length) : ∃ k, k < (ordS w).reverse.length ∧ (ordS w).reverse[k]? = some (i : Int) := by
  have : (i : Int) ∈ (ordS w).reverse := by rw [List.mem_reverse]; exact ord_all hv hi
  obtain ⟨k, hk, h⟩ := List.getElem_of_mem this
  exact ⟨k, hk, by rw [List.getElem?_eq_getElem hk, h]⟩
theorem rev_not {w : SWork} {k i : Nat} (hk : (ordS w).reverse[k]? = some (i : Int)) : (i : Int) ∉ (ordS w).reverse.take k := by
  have hnd : (ordS w).reverse.Nodup := List.pairwise_reverse.2 ((topo_ord w).nodup.imp fun h => Ne.symm h)
  intro h
  rw [List.mem_take_iff_getElem] at h
  obtain ⟨q, hq, hqi⟩ := h
  have := nodup_pos hnd (show (ordS w).reverse[q]? = some (i : Int) by rw [List.getElem?_eq_getElem (by omega), hqi]) hk
  omega
theorem latK_out {w : SWork} (hv : Well w) {days : Int} (hd : 0 ≤ days) {k i : Nat} {x : SItem} (hk : (ordS w).reverse[k]? = some (i : Int)) (hx : w.items[i]? = some x) (j : Nat) :
    (latK w days (k + 1)).2.getD j 0 = if i = j then (latK w days k).1.getD i 0 - lst w i else (latK w days k).2.getD j 0 := by
  have hkl : k < (ordS w).length := by have := (List.getElem?_eq_some_iff.1 hk).1; simpa using this
  obtain ⟨_, _, h3, _⟩ := latK_ok hv hd k (by omega)
  rw [latK_succ hk hx]
  show ((latK w days k).2.set i _).getD j 0 = _
  rw [set_get (by have := (List.getElem?_eq_some_iff.1 hx).1; omega), lst_at hx]
/-- What is set stays. -/
theorem latK_keep {w : SWork} (hv : Well w) {days : Int} (hd : 0 ≤ days) {k j : Nat} (hj : (j : Int) ∈ (ordS w).reverse.take k) : ∀ q, k + q ≤ (ordS w).length → (latK w days (k + q)).2.getD j 0 = (latK w days k).2.getD j 0
  | 0, _ => rfl
  | q + 1, hq => by
    obtain ⟨y, hy⟩ := get_lt (show k + q < (ordS w).reverse.length by simp; omega)
    obtain ⟨i, x, rfl, hx⟩ := rev_known hv hy
    rw [← Nat.add_assoc, latK_out hv hd hy hx, if_neg, latK_keep hv hd hj q (by omega)]
    rintro rfl
    refine rev_not hy ?_
    have : (i : Int) ∈ ((ordS w).reverse.take (k + q)).take k := by rw [List.take_take, Nat.min_eq_left (by omega)]; exact hj
    exact List.mem_of_mem_take this
theorem latS_eq (w : SWork) (days : Int) : (latK w days (ordS w).length).2 = latS w days := by
  have hrl : (ordS w).reverse.length = (ordS w).length := by simp
  rw [latK, ← hrl, List.take_length, latS]
/-- The latest day of an item, when it is reckoned. -/
theorem lat_at {w : SWork} (hv : Well w) {days : Int} (hd : 0 ≤ days) {k i : Nat} (hk : (ordS w).reverse[k]? = some (i : Int)) : (latS w days).getD i 0 = (latK w days k).1.getD i 0 - lst w i := by
  obtain ⟨q, x, he, hx⟩ := rev_known hv hk
  have : i = q := by omega
  subst this
  have hkl : k < (ordS w).length := by have := (List.getElem?_eq_some_iff.1 hk).1; simpa using this
  have := latK_keep hv hd (k := k + 1) (j := i) (by rw [take_snoc hk]; simp) ((ordS w).length - (k + 1)) (by omega)
  rw [show k + 1 + ((ordS w).length - (k + 1)) = (ordS w).length by omega, latS_eq, latK_out hv hd hk hx, if_pos rfl] at this
  exact this
theorem lat_le {w : SWork} (hv : Well w) {days : Int} (hd : 0 ≤ days) {i : Nat} (hi : i < w.items.length) : (latS w days).getD i 0 + lst w i ≤ days ∧ ∀ j, j < w.items.length → (i : Int) ∈ rowN w j → (latS w days).getD i 0 + lst w i ≤ (latS w days).getD j 0 := by
  obtain ⟨k, hk, hki⟩ := rev_pos hv hi
  have hkl : k < (ordS w).length := by simpa using hk
  have hl := lat_at hv hd hki
  obtain ⟨h1, h2⟩ := (le_latK hv hd hi ((latK w days k).1.getD i 0) k (by omega)).1 (Int.le_refl _)
  refine ⟨by omega, fun j hj hij => ?_⟩
  have hjt := rev_before hv hki hj hij
  have := h2 j hjt hij
  have hkeep := latK_keep hv hd hjt ((ordS w).length - k) (by omega)
  rw [show k + ((ordS w).length - k) = (ordS w).length by omega, latS_eq] at hkeep
  omega
/-- Days that fit the order and end in time are not behind the latest ones. -/
theorem lat_ge {w : SWork} (hv : Well w) {days : Int} (hd : 0 ≤ days) {D E : Nat → Int} (hE : ∀ m, m < w.items.length → E m ≤ days) (hDE : ∀ m, m < w.items.length → D m + lst w m ≤ E m)
    (h1 : ∀ i m : Nat, i < w.items.length → m < w.items.length → (m : Int) ∈ rowN w i → E m ≤ D i) : ∀ i, i < w.items.length → D i ≤ (latS w days).getD i 0 := by
  have key : ∀ k, k ≤ (ordS w).length → ∀ j : Nat, (j : Int) ∈ (ordS w).reverse.take k → D j ≤ (latK w days k).2.getD j 0 := by
    intro k
    induction k with
    | zero => intro _ j hj; simp at hj
    | succ k ih =>
      intro hk j hj
      have ih := ih (by omega)
      obtain ⟨y, hy⟩ := get_lt (show k < (ordS w).reverse.length by simp; omega)
      obtain ⟨i, x, rfl, hx⟩ := rev_known hv hy
      have hil := (List.getElem?_eq_some_iff.1 hx).1
      rw [latK_out hv hd hy hx]
      by_cases hij : i = j
      · subst hij
        rw [if_pos rfl]
        have : E i ≤ (latK w days k).1.getD i 0 := by
          rw [le_latK hv hd hil _ k (by omega)]
          refine ⟨hE i hil, fun q hq hiq => ?_⟩
          obtain ⟨q', y, he, hyq⟩ := (refOrd_eq hv.good).2 (q : Int) (by have := List.mem_of_mem_take hq; simpa using this)
          have hql : q < w.items.length := by have := (List.getElem?_eq_some_iff.1 hyq).1; omega
          exact Int.le_trans (h1 q i hql hil hiq) (ih q hq)
        have := hDE i hil
        omega
      · rw [if_neg hij]
        rw [take_snoc hy, List.mem_append] at hj
        rcases hj with hj | hj
        · exact ih j hj
        · simp at hj; omega
  intro i hi
  have := key (ordS w).length (Nat.le_refl _) i (by
    have : (ordS w).length = (ordS w).reverse.length := by simp
    rw [this, List.take_length, List.mem_reverse]; exact ord_all hv hi)
  rwa [latS_eq] at this

/-! ### Critical items -/
theorem crit_le {w : SWork} (hw : Sane w) (hv : Well w) {i : Nat} (hi : i < w.items.length) : (earlyS w).1.getD i 0 ≤ (latS w (earlyS w).2).getD i 0 := by
  have hs := early_all hv
  have hn := (earlyS_ok hw hv).2.1
  refine lat_ge hv hn (D := fun i => (earlyS w).1.getD i 0) (E := fun i => (earlyS w).1.getD i 0 + lst w i) (fun m hm => hs.le m (take_all hv hm)) (fun m _ => Int.le_refl _) (fun i m hi _ hmi => hs.all i (take_all hv hi) m hmi) i hi
theorem crit_end {w : SWork} (hw : Sane w) (hv : Well w) (h0 : 0 < w.items.length) : ∃ i, i < w.items.length ∧ (latS w (earlyS w).2).getD i 0 = (earlyS w).1.getD i 0 ∧ (earlyS w).1.getD i 0 + lst w i = (earlyS w).2 := by
  have hs := early_all hv
  have hn := (earlyS_ok hw hv).2.1
  rcases hs.last0 with ⟨_, h⟩ | ⟨i, hi, h⟩
  · omega
  · obtain ⟨q, y, he, hyq⟩ := (refOrd_eq hv.good).2 (i : Int) (List.mem_of_mem_take hi)
    have hil : i < w.items.length := by have := (List.getElem?_eq_some_iff.1 hyq).1; omega
    have h1 := crit_le hw hv hil
    have h2 := (lat_le hv hn hil).1
    exact ⟨i, hil, by omega, by omega⟩
theorem crit_begin {w : SWork} (hw : Sane w) (hv : Well w) (h0 : 0 < w.items.length) : ∃ i, i < w.items.length ∧ (latS w (earlyS w).2).getD i 0 = (earlyS w).1.getD i 0 ∧ (earlyS w).1.getD i 0 = 0 := by
  have hs := early_all hv
  have hn := (earlyS_ok hw hv).2.1
  have key : ∀ (f i : Nat), i < w.items.length → (latS w (earlyS w).2).getD i 0 = (earlyS w).1.getD i 0 → ((earlyS w).1.getD i 0).toNat ≤ f → ∃ i, i < w.items.length ∧ (latS w (earlyS w).2).getD i 0 = (earlyS w).1.getD i 0 ∧ (earlyS w).1.getD i 0 = 0 := by
    intro f
    induction f with
    | zero =>
      intro i hi hc hf
      have := hs.nonneg i
      exact ⟨i, hi, hc, by omega⟩
    | succ f ih =>
      intro i hi hc hf
      rcases hs.att i with h | ⟨m, hm, h⟩
      · exact ⟨i, hi, hc, h⟩
      · obtain ⟨q, y, hq, hy⟩ := rowN_known hv hi _ hm
        have hml : m < w.items.length := by have := (List.getElem?_eq_some_iff.1 hy).1; omega
        have hl := lst_pos hv hml
        have hnn := hs.nonneg m
        have h1 := crit_le hw hv hml
        have h2 := (lat_le hv hn hml).2 i hi hm
        exact ih m hml (by omega) (by omega)
  obtain ⟨i, hi, hc, _⟩ := crit_end hw hv h0
  exact key _ i hi hc (Nat.le_refl _)
end Go.Pv

/- What a plan is to the order, and to the days. -/
set_option maxHeartbeats 2000000
namespace Go.Pv
attribute [local irreducible] PWP POps PQuiet PSem XThen XBlock RetPost InlPost
open Go.Proofs

theorem leastF_le : ∀ (l : List SMode) (a : Int), l.foldl leastF a ≤ a ∧ ∀ m ∈ l, l.foldl leastF a ≤ m.days
  | [], a => ⟨Int.le_refl _, fun m hm => by simp at hm⟩
  | m :: l, a => by
    obtain ⟨h1, h2⟩ := leastF_le l (leastF a m)
    have h3 : leastF a m ≤ a ∧ leastF a m ≤ m.days := by unfold leastF imin; split <;> omega
    rw [List.foldl_cons]
    refine ⟨by omega, fun q hq => ?_⟩
    rcases List.mem_cons.1 hq with rfl | hq
    · omega
    · exact h2 q hq
theorem leastP_le {x : SItem} {m : SMode} (h : m ∈ x.modes) : leastP x ≤ m.days := (leastF_le _ _).2 m h
theorem durF_le (B : Int) : ∀ (l : List (SItem × SPl)) (n : Int), n ≤ B → (∀ q ∈ l, q.2.on = true → endP q.1 q.2 ≤ B) → l.foldl durF n ≤ B
  | [], n, h, _ => h
  | a :: l, n, h, hl => by
    rw [List.foldl_cons]
    refine durF_le B l _ ?_ fun q hq => hl q (by simp [hq])
    unfold durF
    split
    · rw [imax_le]; exact ⟨h, hl a (by simp) ‹_›⟩
    · exact h

theorem prs_get2 {w : SWork} {l : List SPl} {k : Nat} {a : SItem × SPl} (h : (prs w l)[k]? = some a) : w.items[k]? = some a.1 ∧ l[k]? = some a.2 := by
  obtain ⟨x, p⟩ := a
  rw [prs, List.getElem?_zip_eq_some] at h
  exact h

/-- A plan: no breaches. -/
structure PlanOk (w : SWork) (l : List SPl) : Prop where
  full : Full w l
  early : ∀ i m : Nat, i < w.items.length → m < w.items.length → (m : Int) ∈ rowN w i → endP (itP w m) (slP l m) ≤ (slP l i).day
  crowd : ∀ t ∈ w.trades, (loadA w l t.name).foldl imax 0 ≤ t.crew
  last : ∀ i : Nat, i < w.items.length → endP (itP w i) (slP l i) ≤ w.last
theorem planOk_of {w : SWork} {s : List SSlot} (h : planE w s = 0) : Well w ∧ PlanOk w (placed w s) := by
  obtain ⟨h1, h2⟩ := planE_zero h
  obtain ⟨hv, hf⟩ := full_of h1
  refine ⟨hv, ?_⟩
  generalize placed w s = l at *
  have hall : ∀ p ∈ partsP w l, p = [] := List.flatten_eq_nil_iff.1 h2
  have e1 := hall (earlyP w l) (by simp [partsP])
  have e2 := hall (crowdP w l) (by simp [partsP])
  have e5 := hall (lateP w l) (by simp [partsP])
  refine ⟨hf, fun i m hi hm him => ?_, fun t ht => ?_, fun i hi => ?_⟩
  · rw [earlyP, earlyN, List.flatMap_eq_nil_iff] at e1
    have := e1 i (List.mem_range.2 hi)
    rw [List.flatMap_eq_nil_iff] at this
    have := this _ him
    unfold earlyAt at this
    split at this
    · cases this
    · omega
  · obtain ⟨i, hi, rfl⟩ := List.getElem_of_mem ht
    rw [crowdP, atN, List.flatMap_eq_nil_iff] at e2
    have := e2 i (List.mem_range.2 hi)
    rw [crowdAt, List.getElem?_eq_getElem hi] at this
    dsimp only at this
    split at this
    · cases this
    · rw [most_eq (same_A hf _)] at *
      omega
  · rw [lateP, atN, List.flatMap_eq_nil_iff] at e5
    have := e5 i (List.mem_range.2 hi)
    unfold lateAt at this
    split at this
    · cases this
    · omega
section
variable {w : SWork} {l : List SPl}
theorem PlanOk.day (h : PlanOk w l) (_hv : Well w) {i : Nat} (hi : i < w.items.length) : 0 ≤ (slP l i).day ∧ (slP l i).day + lst w i ≤ endP (itP w i) (slP l i) ∧ endP (itP w i) (slP l i) ≤ durP w l := by
  obtain ⟨x, hx⟩ := get_lt hi
  obtain ⟨p, hp⟩ := get_lt (show i < l.length by rw [h.full.len]; exact hi)
  have hok := h.full.at_ hx hp
  rw [slP_at hp, itP_at hx, lst_at hx]
  refine ⟨hok.day.1, ?_, end_le h.full hx hp⟩
  have := leastP_le (List.mem_of_getElem? hok.mode)
  unfold endP
  omega
theorem PlanOk.dur (h : PlanOk w l) (hv : Well w) : 0 ≤ durP w l ∧ durP w l ≤ 400 := by
  refine ⟨(durP_bound h.full.toPlan).1, durF_le 400 (prs w l) 0 (by omega) fun q hq _ => ?_⟩
  obtain ⟨k, hk, rfl⟩ := List.getElem_of_mem hq
  obtain ⟨h1, h2⟩ := prs_get2 (List.getElem?_eq_getElem hk)
  have hi := (List.getElem?_eq_some_iff.1 h1).1
  have := h.last k hi
  rw [itP_at h1, slP_at h2] at this
  have := hv.last
  omega
theorem PlanOk.early_le (h : PlanOk w l) (hv : Well w) {i : Nat} (hi : i < w.items.length) : (earlyS w).1.getD i 0 ≤ (slP l i).day :=
  Pv.early_le hv (D := fun i => (slP l i).day) (fun i hi => (h.day hv hi).1) (fun i m hi hm him => Int.le_trans (h.day hv hm).2.1 (h.early i m hi hm him)) i hi
theorem PlanOk.early_dur (h : PlanOk w l) (hv : Well w) : (earlyS w).2 ≤ durP w l := by
  have hs := early_all hv
  rcases hs.last0 with ⟨h0, _⟩ | ⟨i, hi, h1⟩
  · rw [h0]; exact (h.dur hv).1
  · obtain ⟨q, y, he, hyq⟩ := (refOrd_eq hv.good).2 (i : Int) (List.mem_of_mem_take hi)
    have hil : i < w.items.length := by have := (List.getElem?_eq_some_iff.1 hyq).1; omega
    have := h.early_le hv hil
    have := h.day hv hil
    omega
theorem PlanOk.late_ge (h : PlanOk w l) (hv : Well w) {i : Nat} (hi : i < w.items.length) : (slP l i).day ≤ (latS w (durP w l)).getD i 0 :=
  Pv.lat_ge hv (h.dur hv).1 (D := fun i => (slP l i).day) (E := fun i => endP (itP w i) (slP l i)) (fun m hm => (h.day hv hm).2.2) (fun m hm => (h.day hv hm).2.1) (fun i m hi hm him => h.early i m hi hm him) i hi
end

theorem slot_pl {w : SWork} {s : List SSlot} (h : slotsE w s = 0) {k : Nat} {sl : SSlot} (hk : s[k]? = some sl) : pl s sl.item = ⟨sl.mode, sl.day, true⟩ := by
  have hn := slots_nodup h
  have hm := List.mem_of_getElem? hk
  cases hf : s.find? (·.item == sl.item) with
  | none =>
    rw [List.find?_eq_none] at hf
    exact absurd (by simp) (hf sl hm)
  | some a =>
    have hfl := filter_nodup s _ a hn hf
    have : sl ∈ s.filter (·.item == sl.item) := by simp [hm]
    rw [hfl, List.mem_singleton] at this
    rw [pl, hf, ← this]
/-- A slot, its item's place, and how it is laid. -/
theorem slot_at {w : SWork} {s : List SSlot} (h : slE w s = 0) {k : Nat} {sl : SSlot} (hk : s[k]? = some sl) : ∃ (i : Nat) (x : SItem), idx w.items (·.name == sl.item) = i ∧ w.items[i]? = some x ∧ slP (placed w s) i = ⟨sl.mode, sl.day, true⟩ := by
  obtain ⟨_, h2⟩ := slE_parts h
  obtain ⟨g1, _⟩ := slot_of h2 hk
  obtain ⟨x, hx, hn⟩ := idx_lt g1
  have hn : x.name = sl.item := by simpa using hn
  refine ⟨(idx w.items (·.name == sl.item)).toNat, x, (Int.toNat_of_nonneg g1).symm, hx, ?_⟩
  rw [slP_at (p := pl s x.name) (by rw [placed, List.getElem?_map, hx]; rfl), hn]
  exact slot_pl h2 hk
theorem critS_mem {w : SWork} {nm : Str} (h : nm ∈ critS w) : ∃ (i : Nat) (x : SItem), w.items[i]? = some x ∧ x.name = nm ∧ (latS w (earlyS w).2).getD i 0 = (earlyS w).1.getD i 0 := by
  obtain ⟨i, hi, hm⟩ := List.mem_flatMap.1 h
  obtain ⟨x, hx⟩ := get_lt (List.mem_range.1 hi)
  unfold critAt at hm
  rw [itP_at hx] at hm
  split at hm
  · simp at hm; exact ⟨i, x, hx, hm.symm, ‹_›⟩
  · simp at hm
theorem mem_critS {w : SWork} {i : Nat} {x : SItem} (hx : w.items[i]? = some x) (h : (latS w (earlyS w).2).getD i 0 = (earlyS w).1.getD i 0) : x.name ∈ critS w := by
  refine List.mem_flatMap.2 ⟨i, List.mem_range.2 (List.getElem?_eq_some_iff.1 hx).1, ?_⟩
  rw [critAt, if_pos h, itP_at hx]; simp
end Go.Pv

/- Plain work. -/
set_option maxHeartbeats 2000000
namespace Go.Pv
attribute [local irreducible] PWP POps PQuiet PSem XThen XBlock RetPost InlPost
open Go.Proofs

def longS (s : Str) : Bool := decide (40 < s.length)
def badT (t : STrade) : Bool := longS t.name
def badS (x : SSpace) : Bool := longS x.name || decide (20 < x.next.length) || x.next.any longS
def badI (x : SItem) : Bool := longS x.name || longS x.trade || longS x.space || decide (6 < x.modes.length) || decide (12 < x.after.length) || x.after.any longS
def badW (w : SWork) (most : Int) : Bool := decide (8 < w.trades.length) || decide (14 < w.spaces.length) || decide (32 < w.excls.length) || decide (22 < w.outs.length) || (decide (most < w.items.length) && decide (w.items.length ≤ 40)) || decide (45 < w.items.length)
def plainB (w : SWork) (most : Int) : Bool := !(badW w most || w.trades.any badT || w.spaces.any badS || w.items.any badI)

theorem int_lt {a b : Nat} : decide ((a : Int) < (b : Int)) = decide (a < b) := by
  by_cases h : a < b
  · rw [decide_eq_true h, decide_eq_true (by omega)]
  · rw [decide_eq_false h, decide_eq_false (by omega)]

theorem plain_ret (w : SWork) (most : Int) : Ret Try.prog .shared 11 [.agg (eWork w), I most] (.bool (plainB w most)) := by
  have e1 : (w.trades.map eTrade).length = w.trades.length := by simp
  have e2 : (w.spaces.map eSpace).length = w.spaces.length := by simp
  have e3 : (w.excls.map eExcl).length = w.excls.length := by simp
  have e4 : (w.outs.map eOut).length = w.outs.length := by simp
  have e5 : (w.items.map eItem).length = w.items.length := by simp
  refine Ret.of_pwp layOk mixed Go.Proofs.Try.func11 rfl (by decide) rfl rfl ?_
  repeat (first|refine pq_end rfl ?_|(refine zs rfl ?_ ?_;·repeat' constructor)|(refine zq rfl ?_ ?_;·repeat' constructor)|refine zw rfl ?_|refine zx rfl ?_|refine zb rfl ?_)
  refine ps_cut 100 [(2, .ptr 2 1 0 0), (49, .bool (badW w most))] [(2, 1, ⟨28, 9, [eWork w], 2⟩)] ?_ ?_
  · repeat' (first|refine pq_end rfl ?_|(refine zs rfl ?_ ?_;·repeat' constructor)|(refine zq rfl ?_ ?_;·repeat' constructor)|refine zw rfl ?_|refine zx rfl ?_|refine zb rfl ?_|refine ps_split rfl rfl (fun h => ?_) (fun h => ?_)|refine pq_split rfl rfl (fun h => ?_) (fun h => ?_))
    all_goals
      refine ⟨rfl, congrArg PV.bool ?_, rfl, trivial⟩
      simp only [e1, e2, e3, e4, e5] at *
      rw [Bool.eq_iff_iff]
      simp only [badW, Bool.or_eq_true, Bool.and_eq_true, decide_eq_true_eq, decide_eq_false_iff_not, true_iff, iff_true, Bool.false_eq_true, false_iff] at *
      omega
  intro s
  repeat (first|refine pq_end rfl ?_|(refine zs rfl ?_ ?_;·repeat' constructor)|(refine zq rfl ?_ ?_;·repeat' constructor)|refine zw rfl ?_|refine zx rfl ?_|refine zb rfl ?_)
  refine pw_cond rfl (fun h => ?_) (fun h => ?_)
  · have hb : badW w most = true := h
    repeat (first|refine pq_end rfl ?_|(refine zs rfl ?_ ?_;·repeat' constructor)|(refine zq rfl ?_ ?_;·repeat' constructor)|refine zw rfl ?_|refine zx rfl ?_|refine zb rfl ?_)
    exact end1b rfl rfl (by rw [plainB, hb]; rfl)
  have hb : badW w most = false := h
  have hsm : w.trades.length ≤ 8 ∧ w.spaces.length ≤ 14 ∧ w.items.length ≤ 45 := by
    simp only [badW, Bool.or_eq_false_iff, decide_eq_false_iff_not] at hb
    omega
  clear h
  repeat (first|refine pq_end rfl ?_|(refine zs rfl ?_ ?_;·repeat' constructor)|(refine zq rfl ?_ ?_;·repeat' constructor)|refine zw rfl ?_|refine zx rfl ?_|refine zb rfl ?_)
  refine pw_loop (Clear w.trades badT) (fun k => [(2, .ptr 2 1 0 0), (5, I k)]) (fun _ => [(2, 1, ⟨28, 9, [eWork w], 2⟩)]) (fun k => w.trades.length - k) 0 .zero ⟨rfl, rfl, rfl, trivial⟩ ?_
  intro k s hk
  repeat (first|refine pq_end rfl ?_|(refine zs rfl ?_ ?_;·repeat' constructor)|(refine zq rfl ?_ ?_;·repeat' constructor)|refine zw rfl ?_|refine zx rfl ?_|refine zb rfl ?_)
  refine pw_cond rfl (fun h => ?_) (fun h => ?_)
  · have hlt : k < w.trades.length := by simpa using h
    obtain ⟨t, ht⟩ := get_lt hlt
    clear h
    repeat (first|refine pq_end rfl ?_|(refine zs rfl ?_ ?_;·repeat' constructor)|(refine zq rfl ?_ ?_;·repeat' constructor)|refine zw rfl ?_|refine zx rfl ?_|refine zb rfl ?_)
    (first|refine zsq rfl (q_idxm rfl rfl rfl rfl rfl (by omega) ht rfl) ?_|refine zqq rfl (q_idxm rfl rfl rfl rfl rfl (by omega) ht rfl) ?_)
    repeat (first|refine pq_end rfl ?_|(refine zs rfl ?_ ?_;·repeat' constructor)|(refine zq rfl ?_ ?_;·repeat' constructor)|refine zw rfl ?_|refine zx rfl ?_|refine zb rfl ?_)
    refine pw_cond rfl (fun h => ?_) (fun h => ?_)
    · have hbad : badT t = true := by have := of_decide_eq_true h; simp [badT, longS]; omega
      repeat (first|refine pq_end rfl ?_|(refine zs rfl ?_ ?_;·repeat' constructor)|(refine zq rfl ?_ ?_;·repeat' constructor)|refine zw rfl ?_|refine zx rfl ?_|refine zb rfl ?_)
      exact end1b rfl rfl (by rw [plainB, any_of ht hbad]; simp)
    · have hok : badT t = false := by have := of_decide_eq_false h; simp [badT, longS]; omega
      repeat (first|refine pq_end rfl ?_|(refine zs rfl ?_ ?_;·repeat' constructor)|(refine zq rfl ?_ ?_;·repeat' constructor)|refine zw rfl ?_|refine zx rfl ?_|refine zb rfl ?_)
      refine ⟨k + 1, hk.succ ht hok, by omega, rfl, ?_, rfl, trivial⟩
      exact i64_next (by omega) (by omega)
  have ht := hk.any (by simpa using h)
  clear h hk
  repeat (first|refine pq_end rfl ?_|(refine zs rfl ?_ ?_;·repeat' constructor)|(refine zq rfl ?_ ?_;·repeat' constructor)|refine zw rfl ?_|refine zx rfl ?_|refine zb rfl ?_)
  refine pw_loop (Clear w.spaces badS) (fun k => [(2, .ptr 2 1 0 0), (6, I k)]) (fun _ => [(2, 1, ⟨28, 9, [eWork w], 2⟩)]) (fun k => w.spaces.length - k) 0 .zero ⟨rfl, rfl, rfl, trivial⟩ ?_
  intro k s hk
  repeat (first|refine pq_end rfl ?_|(refine zs rfl ?_ ?_;·repeat' constructor)|(refine zq rfl ?_ ?_;·repeat' constructor)|refine zw rfl ?_|refine zx rfl ?_|refine zb rfl ?_)
  refine pw_cond rfl (fun h => ?_) (fun h => ?_)
  · have hlt : k < w.spaces.length := by simpa using h
    obtain ⟨x, hx⟩ := get_lt hlt
    clear h
    have yes : badS x = true → PV.bool false = .bool (plainB w most) := fun h => by rw [plainB, any_of hx h]; simp
    repeat (first|refine pq_end rfl ?_|(refine zs rfl ?_ ?_;·repeat' constructor)|(refine zq rfl ?_ ?_;·repeat' constructor)|refine zw rfl ?_|refine zx rfl ?_|refine zb rfl ?_)
    (first|refine zsq rfl (q_idxm rfl rfl rfl rfl rfl (by omega) hx rfl) ?_|refine zqq rfl (q_idxm rfl rfl rfl rfl rfl (by omega) hx rfl) ?_)
    repeat (first|refine pq_end rfl ?_|(refine zs rfl ?_ ?_;·repeat' constructor)|(refine zq rfl ?_ ?_;·repeat' constructor)|refine zw rfl ?_|refine zx rfl ?_|refine zb rfl ?_)
    (first | refine ps_split rfl rfl (fun h => ?_) (fun h => ?_) | refine pq_split rfl rfl (fun h => ?_) (fun h => ?_))
    · have h1 : longS x.name = true := by have := of_decide_eq_true h; simp [longS]; omega
      repeat (first|refine pq_end rfl ?_|(refine zs rfl ?_ ?_;·repeat' constructor)|(refine zq rfl ?_ ?_;·repeat' constructor)|refine zw rfl ?_|refine zx rfl ?_|refine zb rfl ?_)
      exact end1b rfl rfl (yes (by rw [badS, h1]; rfl))
    have h1 : longS x.name = false := by have := of_decide_eq_false h; simp [longS]; omega
    clear h
    repeat (first|refine pq_end rfl ?_|(refine zs rfl ?_ ?_;·repeat' constructor)|(refine zq rfl ?_ ?_;·repeat' constructor)|refine zw rfl ?_|refine zx rfl ?_|refine zb rfl ?_)
    (first|refine zsq rfl (q_idxm rfl rfl rfl rfl rfl (by omega) hx rfl) ?_|refine zqq rfl (q_idxm rfl rfl rfl rfl rfl (by omega) hx rfl) ?_)
    repeat (first|refine pq_end rfl ?_|(refine zs rfl ?_ ?_;·repeat' constructor)|(refine zq rfl ?_ ?_;·repeat' constructor)|refine zw rfl ?_|refine zx rfl ?_|refine zb rfl ?_)
    (first | refine ps_split rfl rfl (fun h => ?_) (fun h => ?_) | refine pq_split rfl rfl (fun h => ?_) (fun h => ?_))
    · have h2 : decide (20 < x.next.length) = true := by have := of_decide_eq_true h; rw [List.length_map] at this; simp; omega
      repeat (first|refine pq_end rfl ?_|(refine zs rfl ?_ ?_;·repeat' constructor)|(refine zq rfl ?_ ?_;·repeat' constructor)|refine zw rfl ?_|refine zx rfl ?_|refine zb rfl ?_)
      exact end1b rfl rfl (yes (by rw [badS, h1, h2]; rfl))
    have h2 : decide (20 < x.next.length) = false := by have := of_decide_eq_false h; rw [List.length_map] at this; simp; omega
    have hl2 := of_decide_eq_false h2
    clear h
    repeat (first|refine pq_end rfl ?_|(refine zs rfl ?_ ?_;·repeat' constructor)|(refine zq rfl ?_ ?_;·repeat' constructor)|refine zw rfl ?_|refine zx rfl ?_|refine zb rfl ?_)
    (first|refine zsq rfl (q_idxm rfl rfl rfl rfl rfl (by omega) hx rfl) ?_|refine zqq rfl (q_idxm rfl rfl rfl rfl rfl (by omega) hx rfl) ?_)
    repeat (first|refine pq_end rfl ?_|(refine zs rfl ?_ ?_;·repeat' constructor)|(refine zq rfl ?_ ?_;·repeat' constructor)|refine zw rfl ?_|refine zx rfl ?_|refine zb rfl ?_)
    (first|refine zsq rfl (q_callP rfl (texts_ret x.next (by omega)) rfl (by repeat' constructor) rfl rfl) ?_|refine zqq rfl (q_callP rfl (texts_ret x.next (by omega)) rfl (by repeat' constructor) rfl rfl) ?_)
    repeat (first|refine pq_end rfl ?_|(refine zs rfl ?_ ?_;·repeat' constructor)|(refine zq rfl ?_ ?_;·repeat' constructor)|refine zw rfl ?_|refine zx rfl ?_|refine zb rfl ?_)
    refine pw_cond rfl (fun h => ?_) (fun h => ?_)
    · have h3 : x.next.any longS = true := by simpa [longS] using h
      repeat (first|refine pq_end rfl ?_|(refine zs rfl ?_ ?_;·repeat' constructor)|(refine zq rfl ?_ ?_;·repeat' constructor)|refine zw rfl ?_|refine zx rfl ?_|refine zb rfl ?_)
      exact end1b rfl rfl (yes (by rw [badS, h1, h2, h3]; rfl))
    · have h3 : x.next.any longS = false := by
        have : (!(!x.next.any fun s => decide (40 < s.length))) = false := h
        simpa [longS] using this
      repeat (first|refine pq_end rfl ?_|(refine zs rfl ?_ ?_;·repeat' constructor)|(refine zq rfl ?_ ?_;·repeat' constructor)|refine zw rfl ?_|refine zx rfl ?_|refine zb rfl ?_)
      refine ⟨k + 1, hk.succ hx (by rw [badS, h1, h2, h3]; rfl), by omega, rfl, ?_, rfl, trivial⟩
      exact i64_next (by omega) (by omega)
  have hs := hk.any (by simpa using h)
  clear h hk
  repeat (first|refine pq_end rfl ?_|(refine zs rfl ?_ ?_;·repeat' constructor)|(refine zq rfl ?_ ?_;·repeat' constructor)|refine zw rfl ?_|refine zx rfl ?_|refine zb rfl ?_)
  refine pw_loop (Clear w.items badI) (fun k => [(2, .ptr 2 1 0 0), (7, I k)]) (fun _ => [(2, 1, ⟨28, 9, [eWork w], 2⟩)]) (fun k => w.items.length - k) 0 .zero ⟨rfl, rfl, rfl, trivial⟩ ?_
  intro k s hk
  repeat (first|refine pq_end rfl ?_|(refine zs rfl ?_ ?_;·repeat' constructor)|(refine zq rfl ?_ ?_;·repeat' constructor)|refine zw rfl ?_|refine zx rfl ?_|refine zb rfl ?_)
  refine pw_cond rfl (fun h => ?_) (fun h => ?_)
  · have hlt : k < w.items.length := by simpa using h
    obtain ⟨x, hx⟩ := get_lt hlt
    clear h
    have yes : badI x = true → PV.bool false = .bool (plainB w most) := fun h => by rw [plainB, any_of hx h]; simp
    repeat (first|refine pq_end rfl ?_|(refine zs rfl ?_ ?_;·repeat' constructor)|(refine zq rfl ?_ ?_;·repeat' constructor)|refine zw rfl ?_|refine zx rfl ?_|refine zb rfl ?_)
    (first|refine zsq rfl (q_idxm rfl rfl rfl rfl rfl (by omega) hx rfl) ?_|refine zqq rfl (q_idxm rfl rfl rfl rfl rfl (by omega) hx rfl) ?_)
    repeat (first|refine pq_end rfl ?_|(refine zs rfl ?_ ?_;·repeat' constructor)|(refine zq rfl ?_ ?_;·repeat' constructor)|refine zw rfl ?_|refine zx rfl ?_|refine zb rfl ?_)
    (first | refine ps_split rfl rfl (fun h => ?_) (fun h => ?_) | refine pq_split rfl rfl (fun h => ?_) (fun h => ?_))
    · have h1 : longS x.name = true := by have := of_decide_eq_true h; simp [longS]; omega
      repeat (first|refine pq_end rfl ?_|(refine zs rfl ?_ ?_;·repeat' constructor)|(refine zq rfl ?_ ?_;·repeat' constructor)|refine zw rfl ?_|refine zx rfl ?_|refine zb rfl ?_)
      exact end1b rfl rfl (yes (by rw [badI, h1]; rfl))
    have h1 : longS x.name = false := by have := of_decide_eq_false h; simp [longS]; omega
    clear h
    repeat (first|refine pq_end rfl ?_|(refine zs rfl ?_ ?_;·repeat' constructor)|(refine zq rfl ?_ ?_;·repeat' constructor)|refine zw rfl ?_|refine zx rfl ?_|refine zb rfl ?_)
    (first | refine ps_split rfl rfl (fun h => ?_) (fun h => ?_) | refine pq_split rfl rfl (fun h => ?_) (fun h => ?_))
    · have h2 : longS x.trade = true := by have := of_decide_eq_true h; simp [longS]; omega
      repeat (first|refine pq_end rfl ?_|(refine zs rfl ?_ ?_;·repeat' constructor)|(refine zq rfl ?_ ?_;·repeat' constructor)|refine zw rfl ?_|refine zx rfl ?_|refine zb rfl ?_)
      exact end1b rfl rfl (yes (by rw [badI, h1, h2]; rfl))
    have h2 : longS x.trade = false := by have := of_decide_eq_false h; simp [longS]; omega
    clear h
    repeat (first|refine pq_end rfl ?_|(refine zs rfl ?_ ?_;·repeat' constructor)|(refine zq rfl ?_ ?_;·repeat' constructor)|refine zw rfl ?_|refine zx rfl ?_|refine zb rfl ?_)
    (first | refine ps_split rfl rfl (fun h => ?_) (fun h => ?_) | refine pq_split rfl rfl (fun h => ?_) (fun h => ?_))
    · have h3 : longS x.space = true := by have := of_decide_eq_true h; simp [longS]; omega
      repeat (first|refine pq_end rfl ?_|(refine zs rfl ?_ ?_;·repeat' constructor)|(refine zq rfl ?_ ?_;·repeat' constructor)|refine zw rfl ?_|refine zx rfl ?_|refine zb rfl ?_)
      exact end1b rfl rfl (yes (by rw [badI, h1, h2, h3]; rfl))
    have h3 : longS x.space = false := by have := of_decide_eq_false h; simp [longS]; omega
    clear h
    repeat (first|refine pq_end rfl ?_|(refine zs rfl ?_ ?_;·repeat' constructor)|(refine zq rfl ?_ ?_;·repeat' constructor)|refine zw rfl ?_|refine zx rfl ?_|refine zb rfl ?_)
    (first | refine ps_split rfl rfl (fun h => ?_) (fun h => ?_) | refine pq_split rfl rfl (fun h => ?_) (fun h => ?_))
    · have h4 : decide (6 < x.modes.length) = true := by have := of_decide_eq_true h; rw [List.length_map] at this; simp; omega
      repeat (first|refine pq_end rfl ?_|(refine zs rfl ?_ ?_;·repeat' constructor)|(refine zq rfl ?_ ?_;·repeat' constructor)|refine zw rfl ?_|refine zx rfl ?_|refine zb rfl ?_)
      exact end1b rfl rfl (yes (by rw [badI, h1, h2, h3, h4]; rfl))
    have h4 : decide (6 < x.modes.length) = false := by have := of_decide_eq_false h; rw [List.length_map] at this; simp; omega
    clear h
    repeat (first|refine pq_end rfl ?_|(refine zs rfl ?_ ?_;·repeat' constructor)|(refine zq rfl ?_ ?_;·repeat' constructor)|refine zw rfl ?_|refine zx rfl ?_|refine zb rfl ?_)
    (first | refine ps_split rfl rfl (fun h => ?_) (fun h => ?_) | refine pq_split rfl rfl (fun h => ?_) (fun h => ?_))
    · have h5 : decide (12 < x.after.length) = true := by have := of_decide_eq_true h; rw [List.length_map] at this; simp; omega
      repeat (first|refine pq_end rfl ?_|(refine zs rfl ?_ ?_;·repeat' constructor)|(refine zq rfl ?_ ?_;·repeat' constructor)|refine zw rfl ?_|refine zx rfl ?_|refine zb rfl ?_)
      exact end1b rfl rfl (yes (by rw [badI, h1, h2, h3, h4, h5]; rfl))
    have h5 : decide (12 < x.after.length) = false := by have := of_decide_eq_false h; rw [List.length_map] at this; simp; omega
    have hl5 := of_decide_eq_false h5
    clear h
    repeat (first|refine pq_end rfl ?_|(refine zs rfl ?_ ?_;·repeat' constructor)|(refine zq rfl ?_ ?_;·repeat' constructor)|refine zw rfl ?_|refine zx rfl ?_|refine zb rfl ?_)
    (first|refine zsq rfl (q_callP rfl (texts_ret x.after (by omega)) rfl (by repeat' constructor) rfl rfl) ?_|refine zqq rfl (q_callP rfl (texts_ret x.after (by omega)) rfl (by repeat' constructor) rfl rfl) ?_)
    repeat (first|refine pq_end rfl ?_|(refine zs rfl ?_ ?_;·repeat' constructor)|(refine zq rfl ?_ ?_;·repeat' constructor)|refine zw rfl ?_|refine zx rfl ?_|refine zb rfl ?_)
    refine pw_cond rfl (fun h => ?_) (fun h => ?_)
    · have h6 : x.after.any longS = true := by simpa [longS] using h
      repeat (first|refine pq_end rfl ?_|(refine zs rfl ?_ ?_;·repeat' constructor)|(refine zq rfl ?_ ?_;·repeat' constructor)|refine zw rfl ?_|refine zx rfl ?_|refine zb rfl ?_)
      exact end1b rfl rfl (yes (by rw [badI, h1, h2, h3, h4, h5, h6]; rfl))
    · have h6 : x.after.any longS = false := by
        have : (!(!x.after.any fun s => decide (40 < s.length))) = false := h
        simpa [longS] using this
      repeat (first|refine pq_end rfl ?_|(refine zs rfl ?_ ?_;·repeat' constructor)|(refine zq rfl ?_ ?_;·repeat' constructor)|refine zw rfl ?_|refine zx rfl ?_|refine zb rfl ?_)
      refine ⟨k + 1, hk.succ hx (by rw [badI, h1, h2, h3, h4, h5, h6]; rfl), by omega, rfl, ?_, rfl, trivial⟩
      exact i64_next (by omega) (by omega)
  have hi := hk.any (by simpa using h)
  repeat (first|refine pq_end rfl ?_|(refine zs rfl ?_ ?_;·repeat' constructor)|(refine zq rfl ?_ ?_;·repeat' constructor)|refine zw rfl ?_|refine zx rfl ?_|refine zb rfl ?_)
  exact end1b rfl rfl (by rw [plainB, hb, ht, hs, hi]; rfl)
theorem sane_of {w : SWork} {most : Int} (h : plainB w most = true) : Sane w := by
  simp only [plainB, Bool.not_eq_true', Bool.or_eq_false_iff] at h
  obtain ⟨⟨⟨hb, ht⟩, hs⟩, hi⟩ := h
  simp only [badW, Bool.or_eq_false_iff, decide_eq_false_iff_not] at hb
  rw [List.any_eq_false] at hs hi
  refine ⟨by omega, by omega, by omega, by omega, by omega, fun x hx => ?_, fun x hx => ?_⟩
  · have := hs x hx
    simp only [badS, Bool.or_eq_true, decide_eq_true_eq, not_or] at this
    omega
  · have := hi x hx
    simp only [badI, Bool.or_eq_true, decide_eq_true_eq, not_or] at this
    omega
end Go.Pv

/- The law of floats. -/
set_option maxHeartbeats 2000000
namespace Go.Pv
attribute [local irreducible] PWP POps PQuiet PSem XThen XBlock RetPost InlPost
open Go.Proofs

def critB (w : SWork) (nm : Str) : Bool := decide ((earlyS w).1.getD (idx w.items (·.name == nm)).toNat 0 = 0)
def critE (w : SWork) (nm : Str) : Bool := decide ((earlyS w).1.getD (idx w.items (·.name == nm)).toNat 0 + lst w (idx w.items (·.name == nm)).toNat = (earlyS w).2)
theorem any_succ {α : Type} {l : List α} {k : Nat} {x : α} (hx : l[k]? = some x) (f : α → Bool) (z : Bool) : (z || (l.take (k + 1)).any f) = ((z || (l.take k).any f) || f x) := by
  rw [take_snoc hx, List.any_append]; simp [Bool.or_assoc]
set_option maxRecDepth 20000 in
theorem floats_law (aw : Ret Try.prog .shared 10 [] (.bool true)) (w : SWork) (s : List SSlot) : Ret Try.prog .shared 9 [.agg (eWork w), .sl (s.map eSlot)] (.bool true) := by
  have h11 := plain_ret w 12
  have h12 := few_ret s
  cases hp : plainB w 12 with
  | false =>
    rw [hp] at h11
    refine Ret.of_pwp layOk mixed Go.Proofs.Try.func9 rfl (by decide) rfl rfl ?_
    repeat (first|refine pq_end rfl ?_|(refine zs rfl ?_ ?_;·repeat' constructor)|(refine zq rfl ?_ ?_;·repeat' constructor)|refine zw rfl ?_|refine zx rfl ?_|refine zb rfl ?_)
    (first|refine zsq rfl (q_callP rfl (aw) rfl (by repeat' constructor) rfl rfl) ?_|refine zqq rfl (q_callP rfl (aw) rfl (by repeat' constructor) rfl rfl) ?_)
    repeat (first|refine pq_end rfl ?_|(refine zs rfl ?_ ?_;·repeat' constructor)|(refine zq rfl ?_ ?_;·repeat' constructor)|refine zw rfl ?_|refine zx rfl ?_|refine zb rfl ?_)
    (first|refine zsq rfl (q_callP rfl (h11) rfl (by repeat' constructor) rfl rfl) ?_|refine zqq rfl (q_callP rfl (h11) rfl (by repeat' constructor) rfl rfl) ?_)
    repeat (first|refine pq_end rfl ?_|(refine zs rfl ?_ ?_;·repeat' constructor)|(refine zq rfl ?_ ?_;·repeat' constructor)|refine zw rfl ?_|refine zx rfl ?_|refine zb rfl ?_)
    exact end1b rfl rfl rfl
  | true =>
    rw [hp] at h11
    have hw := sane_of hp
    cases hfew : (decide (s.length ≤ 50) && !s.any fun s => decide (40 < s.item.length)) with
    | false =>
      rw [hfew] at h12
      refine Ret.of_pwp layOk mixed Go.Proofs.Try.func9 rfl (by decide) rfl rfl ?_
      repeat (first|refine pq_end rfl ?_|(refine zs rfl ?_ ?_;·repeat' constructor)|(refine zq rfl ?_ ?_;·repeat' constructor)|refine zw rfl ?_|refine zx rfl ?_|refine zb rfl ?_)
      (first|refine zsq rfl (q_callP rfl (aw) rfl (by repeat' constructor) rfl rfl) ?_|refine zqq rfl (q_callP rfl (aw) rfl (by repeat' constructor) rfl rfl) ?_)
      repeat (first|refine pq_end rfl ?_|(refine zs rfl ?_ ?_;·repeat' constructor)|(refine zq rfl ?_ ?_;·repeat' constructor)|refine zw rfl ?_|refine zx rfl ?_|refine zb rfl ?_)
      (first|refine zsq rfl (q_callP rfl (h11) rfl (by repeat' constructor) rfl rfl) ?_|refine zqq rfl (q_callP rfl (h11) rfl (by repeat' constructor) rfl rfl) ?_)
      repeat (first|refine pq_end rfl ?_|(refine zs rfl ?_ ?_;·repeat' constructor)|(refine zq rfl ?_ ?_;·repeat' constructor)|refine zw rfl ?_|refine zx rfl ?_|refine zb rfl ?_)
      (first|refine zsq rfl (q_callP rfl (h12) rfl (by repeat' constructor) rfl rfl) ?_|refine zqq rfl (q_callP rfl (h12) rfl (by repeat' constructor) rfl rfl) ?_)
      repeat (first|refine pq_end rfl ?_|(refine zs rfl ?_ ?_;·repeat' constructor)|(refine zq rfl ?_ ?_;·repeat' constructor)|refine zw rfl ?_|refine zx rfl ?_|refine zb rfl ?_)
      exact end1b rfl rfl rfl
    | true =>
      rw [hfew] at h12
      have hs : s.length ≤ 1000 := by
        simp only [Bool.and_eq_true, decide_eq_true_eq] at hfew
        omega
      have h14 := checkPlan_ret w hw s
      by_cases h0 : planE w s = 0
      · have hsl := (planE_zero h0).1
        obtain ⟨hv, hpo⟩ := planOk_of h0
        have hz := (slE_parts hsl).1
        have hi := hw.items
        have hn := hv.n40
        have hdb := hpo.dur hv
        have hed := hpo.early_dur hv
        have h33 := earliest_ret w hw
        have h32 := days_ret w hw s
        have h35 := critical_ret w hw
        have h34 := latest_ret w hw (durP w (placed w s))
        rw [earliestR, if_pos hz] at h33
        rw [latestR, if_pos hz, if_neg (by omega)] at h34
        rw [criticalR, if_pos hz] at h35
        rw [if_pos h0, h0] at h32
        rw [h0] at h14
        obtain ⟨hel, he1, he2⟩ := earlyS_ok hw hv
        have hll := latS_len hv hdb.1
        have hat := fun k sl hk => slot_at hsl (k := k) (sl := sl) hk
        have hge := fun i hi => hpo.early_le hv (i := i) hi
        have hle := fun i hi => hpo.late_ge hv (i := i) hi
        have hcm := fun nm h => critS_mem (w := w) (nm := nm) h
        have hcl : (critS w).length ≤ 40 := by have := critN_len w (earlyS w).1 (latS w (earlyS w).2) w.items.length; rw [critS]; omega
        have hcu := fun i x hx => hv.good.uniq i x hx
        have hB : (decide (w.items.length = 0) || (critS w).any (critB w)) = true := by
          by_cases hn0 : w.items.length = 0
          · simp [hn0]
          · obtain ⟨i, hi, h1, h2⟩ := crit_begin hw hv (by omega)
            obtain ⟨x, hx⟩ := get_lt hi
            rw [Bool.or_eq_true]
            refine .inr (List.any_eq_true.2 ⟨x.name, mem_critS hx h1, ?_⟩)
            rw [critB, hcu i x hx, Int.toNat_natCast]
            exact decide_eq_true h2
        have hE : (decide (w.items.length = 0) || (critS w).any (critE w)) = true := by
          by_cases hn0 : w.items.length = 0
          · simp [hn0]
          · obtain ⟨i, hi, h1, h2⟩ := crit_end hw hv (by omega)
            obtain ⟨x, hx⟩ := get_lt hi
            rw [Bool.or_eq_true]
            refine .inr (List.any_eq_true.2 ⟨x.name, mem_critS hx h1, ?_⟩)
            rw [critE, hcu i x hx, Int.toNat_natCast]
            exact decide_eq_true h2
        have hbw : ∀ i x, w.items[i]? = some x → critB w x.name = decide ((earlyS w).1.getD i 0 = 0) := fun i x hx => by rw [critB, hcu i x hx, Int.toNat_natCast]
        have hew : ∀ i x, w.items[i]? = some x → critE w x.name = decide ((earlyS w).1.getD i 0 + leastP x = (earlyS w).2) := fun i x hx => by rw [critE, hcu i x hx, Int.toNat_natCast, lst_at hx]
        have hebd : ∀ i : Nat, i < w.items.length → 0 ≤ (earlyS w).1.getD i 0 ∧ (earlyS w).1.getD i 0 ≤ 1000000000 := fun i hi => by
          have := (early_all hv).nonneg i
          have := (early_all hv).le i (take_all hv hi)
          have := lst_pos hv hi
          omega
        generalize durP w (placed w s) = d at *
        generalize latS w d = b at *
        generalize critB w = fB at *
        generalize critE w = fE at *
        generalize critS w = c at *
        generalize placed w s = l at *
        generalize hEa : (earlyS w).1 = a at *
        generalize hEn : (earlyS w).2 = n at *
        have hal : ((a.map eI).length : Int) = w.items.length := by simp [hel]
        have hbl : ((b.map eI).length : Int) = w.items.length := by simp [hll]
        have hwl : ((w.items.map eItem).length : Int) = w.items.length := by simp
        refine Ret.of_pwp layOk mixed Go.Proofs.Try.func9 rfl (by decide) rfl rfl ?_
        repeat (first|refine pq_end rfl ?_|(refine zs rfl ?_ ?_;·repeat' constructor)|(refine zq rfl ?_ ?_;·repeat' constructor)|refine zw rfl ?_|refine zx rfl ?_|refine zb rfl ?_)
        (first|refine zsq rfl (q_callP rfl (aw) rfl (by repeat' constructor) rfl rfl) ?_|refine zqq rfl (q_callP rfl (aw) rfl (by repeat' constructor) rfl rfl) ?_)
        repeat (first|refine pq_end rfl ?_|(refine zs rfl ?_ ?_;·repeat' constructor)|(refine zq rfl ?_ ?_;·repeat' constructor)|refine zw rfl ?_|refine zx rfl ?_|refine zb rfl ?_)
        (first|refine zsq rfl (q_callP rfl (h11) rfl (by repeat' constructor) rfl rfl) ?_|refine zqq rfl (q_callP rfl (h11) rfl (by repeat' constructor) rfl rfl) ?_)
        repeat (first|refine pq_end rfl ?_|(refine zs rfl ?_ ?_;·repeat' constructor)|(refine zq rfl ?_ ?_;·repeat' constructor)|refine zw rfl ?_|refine zx rfl ?_|refine zb rfl ?_)
        (first|refine zsq rfl (q_callP rfl (h12) rfl (by repeat' constructor) rfl rfl) ?_|refine zqq rfl (q_callP rfl (h12) rfl (by repeat' constructor) rfl rfl) ?_)
        repeat (first|refine pq_end rfl ?_|(refine zs rfl ?_ ?_;·repeat' constructor)|(refine zq rfl ?_ ?_;·repeat' constructor)|refine zw rfl ?_|refine zx rfl ?_|refine zb rfl ?_)
        (first|refine zsq rfl (q_callP rfl (h14) rfl (by repeat' constructor) rfl rfl) ?_|refine zqq rfl (q_callP rfl (h14) rfl (by repeat' constructor) rfl rfl) ?_)
        repeat (first|refine pq_end rfl ?_|(refine zs rfl ?_ ?_;·repeat' constructor)|(refine zq rfl ?_ ?_;·repeat' constructor)|refine zw rfl ?_|refine zx rfl ?_|refine zb rfl ?_)
        (first|refine zsq rfl (q_call rfl (h33) rfl (by repeat' constructor) rfl) ?_|refine zqq rfl (q_call rfl (h33) rfl (by repeat' constructor) rfl) ?_)
        repeat (first|refine pq_end rfl ?_|(refine zs rfl ?_ ?_;·repeat' constructor)|(refine zq rfl ?_ ?_;·repeat' constructor)|refine zw rfl ?_|refine zx rfl ?_|refine zb rfl ?_)
        (first|refine zsq rfl (q_call rfl (h32) rfl (by repeat' constructor) rfl) ?_|refine zqq rfl (q_call rfl (h32) rfl (by repeat' constructor) rfl) ?_)
        repeat (first|refine pq_end rfl ?_|(refine zs rfl ?_ ?_;·repeat' constructor)|(refine zq rfl ?_ ?_;·repeat' constructor)|refine zw rfl ?_|refine zx rfl ?_|refine zb rfl ?_)
        (first | refine ps_split rfl rfl (fun h => ?_) (fun h => ?_) | refine pq_split rfl rfl (fun h => ?_) (fun h => ?_))
        · have := of_decide_eq_true h; omega
        clear h
        repeat (first|refine pq_end rfl ?_|(refine zs rfl ?_ ?_;·repeat' constructor)|(refine zq rfl ?_ ?_;·repeat' constructor)|refine zw rfl ?_|refine zx rfl ?_|refine zb rfl ?_)
        refine pw_cond rfl (fun h => ?_) (fun h => ?_)
        · have : ¬ (((a.map eI).length : Int) = (w.items.map eItem).length) := by simpa using h
          omega
        clear h
        repeat (first|refine pq_end rfl ?_|(refine zs rfl ?_ ?_;·repeat' constructor)|(refine zq rfl ?_ ?_;·repeat' constructor)|refine zw rfl ?_|refine zx rfl ?_|refine zb rfl ?_)
        (first|refine zsq rfl (q_call rfl (h34) rfl (by repeat' constructor) rfl) ?_|refine zqq rfl (q_call rfl (h34) rfl (by repeat' constructor) rfl) ?_)
        repeat (first|refine pq_end rfl ?_|(refine zs rfl ?_ ?_;·repeat' constructor)|(refine zq rfl ?_ ?_;·repeat' constructor)|refine zw rfl ?_|refine zx rfl ?_|refine zb rfl ?_)
        (first|refine zsq rfl (q_call rfl (h35) rfl (by repeat' constructor) rfl) ?_|refine zqq rfl (q_call rfl (h35) rfl (by repeat' constructor) rfl) ?_)
        repeat (first|refine pq_end rfl ?_|(refine zs rfl ?_ ?_;·repeat' constructor)|(refine zq rfl ?_ ?_;·repeat' constructor)|refine zw rfl ?_|refine zx rfl ?_|refine zb rfl ?_)
        refine pw_cond rfl (fun h => ?_) (fun h => ?_)
        · have : ¬ (((b.map eI).length : Int) = (a.map eI).length) := by simpa using h
          omega
        clear h
        repeat (first|refine pq_end rfl ?_|(refine zs rfl ?_ ?_;·repeat' constructor)|(refine zq rfl ?_ ?_;·repeat' constructor)|refine zw rfl ?_|refine zx rfl ?_|refine zb rfl ?_)
        have hz0 : decide (((a.map eI).length : Int) = 0) = decide (w.items.length = 0) := by rw [hal]; by_cases h : w.items.length = 0 <;> simp [h]
        rw [hz0]
        generalize decide (w.items.length = 0) = z at *
        refine pw_loop (fun k => k ≤ s.length) (fun k => [(1, .sl (s.map eSlot)), (2, .ptr 2 1 0 0), (5, .sl (a.map eI)), (6, I n), (10, .sl (b.map eI)), (11, .sl (c.map eS)), (12, .bool z), (13, .bool z), (14, I k)]) (fun _ => [(2, 1, ⟨28, 9, [eWork w], 2⟩)]) (fun k => s.length - k) 0 (Nat.zero_le _) ⟨rfl, rfl, rfl, rfl, rfl, rfl, rfl, rfl, rfl, rfl, trivial⟩ ?_
        intro k s1 hk
        repeat (first|refine pq_end rfl ?_|(refine zs rfl ?_ ?_;·repeat' constructor)|(refine zq rfl ?_ ?_;·repeat' constructor)|refine zw rfl ?_|refine zx rfl ?_|refine zb rfl ?_)
        refine pw_cond rfl (fun h => ?_) (fun h => ?_)
        · have hlt : k < s.length := by simpa using h
          clear h
          obtain ⟨sl, hsl'⟩ := get_lt hlt
          obtain ⟨i, x, hix, hx, hpi⟩ := hat k sl hsl'
          have hil := (List.getElem?_eq_some_iff.1 hx).1
          have h24 := itemOf_ret w sl.item (by omega)
          rw [hix] at h24
          have g1 := hge i hil
          have g2 := hle i hil
          rw [hpi] at g1 g2
          have ha := eI_get (l := a) (i := i) (by omega)
          have hb := eI_get (l := b) (i := i) (by omega)
          repeat (first|refine pq_end rfl ?_|(refine zs rfl ?_ ?_;·repeat' constructor)|(refine zq rfl ?_ ?_;·repeat' constructor)|refine zw rfl ?_|refine zx rfl ?_|refine zb rfl ?_)
          refine pw_draw 8 [101, 102, 103, 104, 105, 106, 107, 15] (by decide +kernel) ?_
          repeat (first|refine pq_end rfl ?_|(refine zs rfl ?_ ?_;·repeat' constructor)|(refine zq rfl ?_ ?_;·repeat' constructor)|refine zw rfl ?_|refine zx rfl ?_|refine zb rfl ?_)
          (first|refine zsq rfl (q_idxm rfl rfl rfl rfl rfl (by omega) hsl' rfl) ?_|refine zqq rfl (q_idxm rfl rfl rfl rfl rfl (by omega) hsl' rfl) ?_)
          repeat (first|refine pq_end rfl ?_|(refine zs rfl ?_ ?_;·repeat' constructor)|(refine zq rfl ?_ ?_;·repeat' constructor)|refine zw rfl ?_|refine zx rfl ?_|refine zb rfl ?_)
          (first|refine zsq rfl (q_callP rfl (h24) rfl (by repeat' constructor) rfl rfl) ?_|refine zqq rfl (q_callP rfl (h24) rfl (by repeat' constructor) rfl rfl) ?_)
          repeat (first|refine pq_end rfl ?_|(refine zs rfl ?_ ?_;·repeat' constructor)|(refine zq rfl ?_ ?_;·repeat' constructor)|refine zw rfl ?_|refine zx rfl ?_|refine zb rfl ?_)
          refine pw_draw 26 [108, 109, 110, 111, 112, 113, 114, 115, 116, 117, 118, 119, 120, 121, 122, 123, 124, 125, 126, 127, 128, 129, 130, 131, 132, 133] (by decide +kernel) ?_
          repeat (first|refine pq_end rfl ?_|(refine zs rfl ?_ ?_;·repeat' constructor)|(refine zq rfl ?_ ?_;·repeat' constructor)|refine zw rfl ?_|refine zx rfl ?_|refine zb rfl ?_)
          (first | refine ps_split rfl rfl (fun h => ?_) (fun h => ?_) | refine pq_split rfl rfl (fun h => ?_) (fun h => ?_))
          · have := of_decide_eq_true h; omega
          clear h
          repeat (first|refine pq_end rfl ?_|(refine zs rfl ?_ ?_;·repeat' constructor)|(refine zq rfl ?_ ?_;·repeat' constructor)|refine zw rfl ?_|refine zx rfl ?_|refine zb rfl ?_)
          (first|refine zsq rfl (q_idxm rfl rfl rfl rfl rfl (by omega) hsl' rfl) ?_|refine zqq rfl (q_idxm rfl rfl rfl rfl rfl (by omega) hsl' rfl) ?_)
          repeat (first|refine pq_end rfl ?_|(refine zs rfl ?_ ?_;·repeat' constructor)|(refine zq rfl ?_ ?_;·repeat' constructor)|refine zw rfl ?_|refine zx rfl ?_|refine zb rfl ?_)
          (first|refine zsq rfl (q_idxm rfl rfl rfl rfl rfl (by omega) ha rfl) ?_|refine zqq rfl (q_idxm rfl rfl rfl rfl rfl (by omega) ha rfl) ?_)
          repeat (first|refine pq_end rfl ?_|(refine zs rfl ?_ ?_;·repeat' constructor)|(refine zq rfl ?_ ?_;·repeat' constructor)|refine zw rfl ?_|refine zx rfl ?_|refine zb rfl ?_)
          (first | refine ps_split rfl rfl (fun h => ?_) (fun h => ?_) | refine pq_split rfl rfl (fun h => ?_) (fun h => ?_))
          · have : sl.day < a.getD i 0 := of_decide_eq_true h
            exact absurd g1 (by show ¬ _ ≤ sl.day; omega)
          clear h
          repeat (first|refine pq_end rfl ?_|(refine zs rfl ?_ ?_;·repeat' constructor)|(refine zq rfl ?_ ?_;·repeat' constructor)|refine zw rfl ?_|refine zx rfl ?_|refine zb rfl ?_)
          (first|refine zsq rfl (q_idxm rfl rfl rfl rfl rfl (by omega) hsl' rfl) ?_|refine zqq rfl (q_idxm rfl rfl rfl rfl rfl (by omega) hsl' rfl) ?_)
          repeat (first|refine pq_end rfl ?_|(refine zs rfl ?_ ?_;·repeat' constructor)|(refine zq rfl ?_ ?_;·repeat' constructor)|refine zw rfl ?_|refine zx rfl ?_|refine zb rfl ?_)
          (first|refine zsq rfl (q_idxm rfl rfl rfl rfl rfl (by omega) hb rfl) ?_|refine zqq rfl (q_idxm rfl rfl rfl rfl rfl (by omega) hb rfl) ?_)
          repeat (first|refine pq_end rfl ?_|(refine zs rfl ?_ ?_;·repeat' constructor)|(refine zq rfl ?_ ?_;·repeat' constructor)|refine zw rfl ?_|refine zx rfl ?_|refine zb rfl ?_)
          refine pw_cond rfl (fun h => ?_) (fun h => ?_)
          · have : b.getD i 0 < sl.day := of_decide_eq_true h
            exact absurd g2 (by show ¬ sl.day ≤ _; omega)
          clear h
          repeat (first|refine pq_end rfl ?_|(refine zs rfl ?_ ?_;·repeat' constructor)|(refine zq rfl ?_ ?_;·repeat' constructor)|refine zw rfl ?_|refine zx rfl ?_|refine zb rfl ?_)
          exact ⟨k + 1, hlt, by omega, rfl, rfl, rfl, rfl, rfl, rfl, rfl, rfl, i64_next (by omega) (by omega), rfl, trivial⟩
        clear h
        repeat (first|refine pq_end rfl ?_|(refine zs rfl ?_ ?_;·repeat' constructor)|(refine zq rfl ?_ ?_;·repeat' constructor)|refine zw rfl ?_|refine zx rfl ?_|refine zb rfl ?_)
        refine pw_loop (fun k => k ≤ c.length) (fun k => [(2, .ptr 2 1 0 0), (5, .sl (a.map eI)), (6, I n), (11, .sl (c.map eS)), (12, .bool (z || (c.take k).any fB)), (13, .bool (z || (c.take k).any fE)), (16, I k)]) (fun _ => [(2, 1, ⟨28, 9, [eWork w], 2⟩)]) (fun k => c.length - k) 0 (Nat.zero_le _) ⟨rfl, rfl, rfl, rfl, ?_, ?_, rfl, rfl, trivial⟩ ?_
        · show PV.bool z = _
          simp
        · show PV.bool z = _
          simp
        intro k s1 hk
        repeat (first|refine pq_end rfl ?_|(refine zs rfl ?_ ?_;·repeat' constructor)|(refine zq rfl ?_ ?_;·repeat' constructor)|refine zw rfl ?_|refine zx rfl ?_|refine zb rfl ?_)
        refine pw_cond rfl (fun h => ?_) (fun h => ?_)
        · have hlt : k < c.length := by simpa using h
          clear h
          obtain ⟨nm, hnm⟩ := get_lt hlt
          obtain ⟨i, x, hx, hxn, _⟩ := hcm nm (List.mem_of_getElem? hnm)
          subst hxn
          have hil := (List.getElem?_eq_some_iff.1 hx).1
          have hio := hv.item x (List.mem_of_getElem? hx)
          have hlb := leastP_bound hio
          have h24 := itemOf_ret w x.name (by omega)
          rw [hcu i x hx] at h24
          have ha := eI_get (l := a) (i := i) (by omega)
          have s12 := any_succ hnm fB z
          have s13 := any_succ hnm fE z
          rw [hbw i x hx] at s12
          rw [hew i x hx] at s13
          have hab := hebd i hil
          generalize (z || (c.take k).any fB) = B12 at *
          generalize (z || (c.take k).any fE) = B13 at *
          repeat (first|refine pq_end rfl ?_|(refine zs rfl ?_ ?_;·repeat' constructor)|(refine zq rfl ?_ ?_;·repeat' constructor)|refine zw rfl ?_|refine zx rfl ?_|refine zb rfl ?_)
          refine pw_draw 7 [140, 141, 142, 143, 144, 145, 17] (by decide +kernel) ?_
          repeat (first|refine pq_end rfl ?_|(refine zs rfl ?_ ?_;·repeat' constructor)|(refine zq rfl ?_ ?_;·repeat' constructor)|refine zw rfl ?_|refine zx rfl ?_|refine zb rfl ?_)
          (first|refine zsq rfl (q_idxm rfl rfl rfl rfl rfl (by omega) hnm rfl) ?_|refine zqq rfl (q_idxm rfl rfl rfl rfl rfl (by omega) hnm rfl) ?_)
          repeat (first|refine pq_end rfl ?_|(refine zs rfl ?_ ?_;·repeat' constructor)|(refine zq rfl ?_ ?_;·repeat' constructor)|refine zw rfl ?_|refine zx rfl ?_|refine zb rfl ?_)
          (first|refine zsq rfl (q_callP rfl (h24) rfl (by repeat' constructor) rfl rfl) ?_|refine zqq rfl (q_callP rfl (h24) rfl (by repeat' constructor) rfl rfl) ?_)
          repeat (first|refine pq_end rfl ?_|(refine zs rfl ?_ ?_;·repeat' constructor)|(refine zq rfl ?_ ?_;·repeat' constructor)|refine zw rfl ?_|refine zx rfl ?_|refine zb rfl ?_)
          refine ps_cut 100 [(2, .ptr 2 1 0 0), (5, .sl (a.map eI)), (6, I n), (11, .sl (c.map eS)), (12, .bool (B12 || decide (a.getD i 0 = 0))), (13, .bool B13), (16, I k), (17, I i)] [(2, 1, ⟨28, 9, [eWork w], 2⟩)] ?_ ?_
          · (first | refine ps_split rfl rfl (fun h => ?_) (fun h => ?_) | refine pq_split rfl rfl (fun h => ?_) (fun h => ?_))
            · subst h
              repeat (first|refine pq_end rfl ?_|(refine zs rfl ?_ ?_;·repeat' constructor)|(refine zq rfl ?_ ?_;·repeat' constructor)|refine zw rfl ?_|refine zx rfl ?_|refine zb rfl ?_)
              exact ⟨rfl, rfl, rfl, rfl, rfl, rfl, rfl, rfl, rfl, trivial⟩
            · subst h
              repeat (first|refine pq_end rfl ?_|(refine zs rfl ?_ ?_;·repeat' constructor)|(refine zq rfl ?_ ?_;·repeat' constructor)|refine zw rfl ?_|refine zx rfl ?_|refine zb rfl ?_)
              (first|refine zsq rfl (q_idxm rfl rfl rfl rfl rfl (by omega) ha rfl) ?_|refine zqq rfl (q_idxm rfl rfl rfl rfl rfl (by omega) ha rfl) ?_)
              repeat (first|refine pq_end rfl ?_|(refine zs rfl ?_ ?_;·repeat' constructor)|(refine zq rfl ?_ ?_;·repeat' constructor)|refine zw rfl ?_|refine zx rfl ?_|refine zb rfl ?_)
              exact ⟨rfl, rfl, rfl, rfl, rfl, rfl, rfl, rfl, rfl, trivial⟩
          intro s2
          repeat (first|refine pq_end rfl ?_|(refine zs rfl ?_ ?_;·repeat' constructor)|(refine zq rfl ?_ ?_;·repeat' constructor)|refine zw rfl ?_|refine zx rfl ?_|refine zb rfl ?_)
          refine pw_draw 16 [156, 157, 158, 159, 160, 161, 162, 163, 164, 165, 166, 167, 168, 169, 170, 171] (by decide +kernel) ?_
          repeat (first|refine pq_end rfl ?_|(refine zs rfl ?_ ?_;·repeat' constructor)|(refine zq rfl ?_ ?_;·repeat' constructor)|refine zw rfl ?_|refine zx rfl ?_|refine zb rfl ?_)
          (first | refine ps_split rfl rfl (fun h => ?_) (fun h => ?_) | refine pq_split rfl rfl (fun h => ?_) (fun h => ?_))
          · subst h
            repeat (first|refine pq_end rfl ?_|(refine zs rfl ?_ ?_;·repeat' constructor)|(refine zq rfl ?_ ?_;·repeat' constructor)|refine zw rfl ?_|refine zx rfl ?_|refine zb rfl ?_)
            refine ⟨k + 1, hlt, by omega, rfl, rfl, rfl, rfl, ?_, ?_, i64_next (by omega) (by omega), rfl, trivial⟩
            · rw [s12]; rfl
            · rw [s13]; rfl
          · subst h
            repeat (first|refine pq_end rfl ?_|(refine zs rfl ?_ ?_;·repeat' constructor)|(refine zq rfl ?_ ?_;·repeat' constructor)|refine zw rfl ?_|refine zx rfl ?_|refine zb rfl ?_)
            (first|refine zsq rfl (q_idxm rfl rfl rfl rfl rfl (by omega) ha rfl) ?_|refine zqq rfl (q_idxm rfl rfl rfl rfl rfl (by omega) ha rfl) ?_)
            repeat (first|refine pq_end rfl ?_|(refine zs rfl ?_ ?_;·repeat' constructor)|(refine zq rfl ?_ ?_;·repeat' constructor)|refine zw rfl ?_|refine zx rfl ?_|refine zb rfl ?_)
            (first|refine zsq rfl (q_idxm rfl rfl rfl rfl rfl (by omega) hx rfl) ?_|refine zqq rfl (q_idxm rfl rfl rfl rfl rfl (by omega) hx rfl) ?_)
            repeat (first|refine pq_end rfl ?_|(refine zs rfl ?_ ?_;·repeat' constructor)|(refine zq rfl ?_ ?_;·repeat' constructor)|refine zw rfl ?_|refine zx rfl ?_|refine zb rfl ?_)
            (first|refine zsq rfl (q_callP rfl (least_ref x hio.modes.1 (by have := hio.modes; omega)) rfl (by repeat' constructor) rfl rfl) ?_|refine zqq rfl (q_callP rfl (least_ref x hio.modes.1 (by have := hio.modes; omega)) rfl (by repeat' constructor) rfl rfl) ?_)
            repeat (first|refine pq_end rfl ?_|(refine zs rfl ?_ ?_;·repeat' constructor)|(refine zq rfl ?_ ?_;·repeat' constructor)|refine zw rfl ?_|refine zx rfl ?_|refine zb rfl ?_)
            refine ⟨k + 1, hlt, by omega, rfl, rfl, rfl, rfl, ?_, ?_, i64_next (by omega) (by omega), rfl, trivial⟩
            · rw [s12]; rfl
            · rw [s13]
              show PV.bool (decide (IntKind.i64.wrap (a.getD i 0 + leastP x) = n)) = _
              rw [wrap_i64 (by omega) (by omega)]; rfl
        · have hge : k = c.length := by have : ¬ k < c.length := by simpa using h
                                        omega
          subst hge
          clear h
          rw [List.take_length, hB, hE]
          repeat (first|refine pq_end rfl ?_|(refine zs rfl ?_ ?_;·repeat' constructor)|(refine zq rfl ?_ ?_;·repeat' constructor)|refine zw rfl ?_|refine zx rfl ?_|refine zb rfl ?_)
          exact end1b rfl rfl rfl
      · generalize planE w s = e at *
        refine Ret.of_pwp layOk mixed Go.Proofs.Try.func9 rfl (by decide) rfl rfl ?_
        repeat (first|refine pq_end rfl ?_|(refine zs rfl ?_ ?_;·repeat' constructor)|(refine zq rfl ?_ ?_;·repeat' constructor)|refine zw rfl ?_|refine zx rfl ?_|refine zb rfl ?_)
        (first|refine zsq rfl (q_callP rfl (aw) rfl (by repeat' constructor) rfl rfl) ?_|refine zqq rfl (q_callP rfl (aw) rfl (by repeat' constructor) rfl rfl) ?_)
        repeat (first|refine pq_end rfl ?_|(refine zs rfl ?_ ?_;·repeat' constructor)|(refine zq rfl ?_ ?_;·repeat' constructor)|refine zw rfl ?_|refine zx rfl ?_|refine zb rfl ?_)
        (first|refine zsq rfl (q_callP rfl (h11) rfl (by repeat' constructor) rfl rfl) ?_|refine zqq rfl (q_callP rfl (h11) rfl (by repeat' constructor) rfl rfl) ?_)
        repeat (first|refine pq_end rfl ?_|(refine zs rfl ?_ ?_;·repeat' constructor)|(refine zq rfl ?_ ?_;·repeat' constructor)|refine zw rfl ?_|refine zx rfl ?_|refine zb rfl ?_)
        (first|refine zsq rfl (q_callP rfl (h12) rfl (by repeat' constructor) rfl rfl) ?_|refine zqq rfl (q_callP rfl (h12) rfl (by repeat' constructor) rfl rfl) ?_)
        repeat (first|refine pq_end rfl ?_|(refine zs rfl ?_ ?_;·repeat' constructor)|(refine zq rfl ?_ ?_;·repeat' constructor)|refine zw rfl ?_|refine zx rfl ?_|refine zb rfl ?_)
        (first|refine zsq rfl (q_callP rfl (h14) rfl (by repeat' constructor) rfl rfl) ?_|refine zqq rfl (q_callP rfl (h14) rfl (by repeat' constructor) rfl rfl) ?_)
        repeat (first|refine pq_end rfl ?_|(refine zs rfl ?_ ?_;·repeat' constructor)|(refine zq rfl ?_ ?_;·repeat' constructor)|refine zw rfl ?_|refine zx rfl ?_|refine zb rfl ?_)
        refine pw_cond rfl (fun h => ?_) (fun h => ?_)
        · repeat (first|refine pq_end rfl ?_|(refine zs rfl ?_ ?_;·repeat' constructor)|(refine zq rfl ?_ ?_;·repeat' constructor)|refine zw rfl ?_|refine zx rfl ?_|refine zb rfl ?_)
          exact end1b rfl rfl rfl
        · exact absurd (by simpa using h) h0
end Go.Pv

/- The breaches of slots in any order: the reference's list. -/
set_option maxHeartbeats 2000000
namespace Go.Pv
attribute [local irreducible] PWP POps PQuiet PSem XThen XBlock RetPost InlPost
open Go.Proofs

theorem flatMap_len' {α β : Type} {f : α → List β} {c : Nat} : ∀ l : List α, (∀ x ∈ l, (f x).length ≤ c) → (l.flatMap f).length ≤ l.length * c
  | [], _ => by simp
  | a :: l, h => by
    have := flatMap_len' l fun x hx => h x (by simp [hx])
    have := h a (by simp)
    rw [List.flatMap_cons, List.length_append, List.length_cons, Nat.add_mul]
    omega
theorem flatMap_snoc {α β : Type} {l : List α} {k : Nat} {x : α} (hx : l[k]? = some x) (f : α → List β) : (l.take (k + 1)).flatMap f = (l.take k).flatMap f ++ f x := by
  rw [take_snoc hx, List.flatMap_append]; simp
theorem flatMap_take_len {α β : Type} {f : α → List β} {c n : Nat} {l : List α} (h : ∀ x ∈ l, (f x).length ≤ c) (hn : l.length ≤ n) (k : Nat) : ((l.take k).flatMap f).length ≤ n * c := by
  have h1 := flatMap_len' (l.take k) fun x hx => h x (List.mem_of_mem_take hx)
  have h2 : (l.take k).length ≤ n := by rw [List.length_take]; omega
  exact Nat.le_trans h1 (Nat.mul_le_mul_right c h2)

abbrev IP := SItem × SPl
def early1 (a : IP) (nm : Str) (b : IP) : List SBr := if b.1.name = nm then (if a.2.day < endP b.1 b.2 then [⟨b.1.name, a.1.name, 10⟩] else []) else []
def earlyB (q : List IP) (a : IP) (nm : Str) : List SBr := q.flatMap (early1 a nm)
def earlyA (q : List IP) (a : IP) : List SBr := a.1.after.flatMap (earlyB q a)
def earlyQ (q : List IP) : List SBr := q.flatMap (earlyA q)
def crowdT (q : List IP) (t : STrade) : List SBr := if t.crew < (loadQ q t.name).foldl imax 0 then [⟨t.name, [], 23⟩] else []
def crowdQ (w : SWork) (q : List IP) : List SBr := w.trades.flatMap (crowdT q)
def meetQ (a b : IP) : Bool := decide (a.2.day < endP b.1 b.2) && decide (b.2.day < endP a.1 a.2)
def clash1 (w : SWork) (a b : IP) : List SBr := if (meetQ a b && apartP w a.1 b.1) = true then [⟨a.1.name, b.1.name, 17⟩] else []
def clashI (w : SWork) (q : List IP) (i : Nat) : List SBr := match q[i]? with | some a => (q.drop (i + 1)).flatMap (clash1 w a) | none => []
def clashQ (w : SWork) (q : List IP) : List SBr := (List.range q.length).flatMap (clashI w q)
def haltA (w : SWork) (a : IP) : List SBr := if stopP w a.1 a.2 = true then [⟨a.1.name, [], 18⟩] else []
def haltQ (w : SWork) (q : List IP) : List SBr := q.flatMap (haltA w)
def lateA (w : SWork) (a : IP) : List SBr := if w.last < endP a.1 a.2 then [⟨a.1.name, [], 16⟩] else []
def lateQ (w : SWork) (q : List IP) : List SBr := q.flatMap (lateA w)
def breachQ (w : SWork) (q : List IP) : List SBr := earlyQ q ++ crowdQ w q ++ clashQ w q ++ haltQ w q ++ lateQ w q

theorem early1_len (a : IP) (nm : Str) (b : IP) : (early1 a nm b).length ≤ 1 := by unfold early1; (repeat' split) <;> simp
theorem crowdT_len (q : List IP) (t : STrade) : (crowdT q t).length ≤ 1 := by unfold crowdT; split <;> simp
theorem clash1_len (w : SWork) (a b : IP) : (clash1 w a b).length ≤ 1 := by unfold clash1; split <;> simp
theorem haltA_len (w : SWork) (a : IP) : (haltA w a).length ≤ 1 := by unfold haltA; split <;> simp
theorem lateA_len (w : SWork) (a : IP) : (lateA w a).length ≤ 1 := by unfold lateA; split <;> simp
theorem earlyB_len {w : SWork} {q : List IP} (hq : QOk w q) (a : IP) (nm : Str) : (earlyB q a nm).length ≤ 4000 := by
  have := flatMap_take_len (l := q) (f := early1 a nm) (c := 1) (fun b _ => early1_len a nm b) hq.len q.length
  rw [List.take_length] at this
  simpa [earlyB] using this
theorem earlyA_len {w : SWork} (hw : Sane w) {q : List IP} (hq : QOk w q) : ∀ a ∈ q, (earlyA q a).length ≤ 400000000 := by
  intro a ha
  obtain ⟨k, hk, rfl⟩ := List.getElem_of_mem ha
  obtain ⟨hx, _⟩ := hq.at_ k q[k].1 q[k].2 (List.getElem?_eq_getElem hk)
  have := flatMap_take_len (l := q[k].1.after) (f := earlyB q q[k]) (c := 4000) (fun nm _ => earlyB_len hq _ nm) (hw.after _ hx) q[k].1.after.length
  rw [List.take_length] at this
  simpa [earlyA] using this
theorem clashI_len (w : SWork) {q : List IP} (hl : q.length ≤ 4000) (i : Nat) : (clashI w q i).length ≤ 4000 := by
  unfold clashI
  split
  · rename_i a _
    have := flatMap_take_len (l := q.drop (i + 1)) (f := clash1 w a) (c := 1) (fun b _ => clash1_len w a b) (show (q.drop (i + 1)).length ≤ 4000 by rw [List.length_drop]; omega) (q.drop (i + 1)).length
    rw [List.take_length] at this
    simpa using this
  · simp

set_option maxRecDepth 40000 in
theorem breaches_refQ (w : SWork) (hw : Sane w) (hv : Well w) (hz : workE w = 0) (s : List SSlot) (q : List IP) (hq : QOk w q) (hsort : Ret Try.prog .shared 51 [.agg (eWork w), .sl (s.map eSlot)] (.sl ((qS q).map eSlot))) :
    Ret Try.prog .shared 17 [.agg (eWork w), .sl (s.map eSlot)] (.sl ((breachQ w q).map eBr)) := by
  have hn := hq.len
  have hsl := qS_len q
  have hml : (((qS q).map eSlot).length : Int) = q.length := by simp [hsl]
  have htl := hw.trades
  have hE := fun k => flatMap_take_len (earlyA_len hw hq) hn k
  refine Ret.of_pwp layOk mixed Go.Proofs.Try.func17 rfl (by decide) rfl rfl ?_
  repeat (first|refine pq_end rfl ?_|(refine zs rfl ?_ ?_;·repeat' constructor)|(refine zq rfl ?_ ?_;·repeat' constructor)|refine zw rfl ?_|refine zx rfl ?_|refine zb rfl ?_)
  (first|refine zsq rfl (q_call rfl (hsort) rfl (by repeat' constructor) rfl) ?_|refine zqq rfl (q_call rfl (hsort) rfl (by repeat' constructor) rfl) ?_)
  repeat (first|refine pq_end rfl ?_|(refine zs rfl ?_ ?_;·repeat' constructor)|(refine zq rfl ?_ ?_;·repeat' constructor)|refine zw rfl ?_|refine zx rfl ?_|refine zb rfl ?_)
  refine pw_ghost (Ghost.nilreg (k := 6) (t := 6) 42 3 0 rfl rfl) ?_
  refine pw_loop (fun k => k ≤ q.length) (fun k => [(2, .ptr 2 1 0 0), (5, .sl ((qS q).map eSlot)), (6, .als 6 (1 + ((q.take k).flatMap (earlyA q)).length) 0 (((q.take k).flatMap (earlyA q)).map eBr).length), (7, I k)])
    (fun k => [(2, 1, ⟨28, 9, [eWork w], 2⟩), (6, 1 + ((q.take k).flatMap (earlyA q)).length, ⟨42, 3, ((q.take k).flatMap (earlyA q)).map eBr, 0⟩)]) (fun k => q.length - k) 0 (Nat.zero_le _) ⟨rfl, rfl, rfl, rfl, rfl, rfl, trivial⟩ ?_
  intro k s1 hk
  have hEk := hE k
  repeat (first|refine pq_end rfl ?_|(refine zs rfl ?_ ?_;·repeat' constructor)|(refine zq rfl ?_ ?_;·repeat' constructor)|refine zw rfl ?_|refine zx rfl ?_|refine zb rfl ?_)
  refine pw_cond rfl (fun h => ?_) (fun h => ?_)
  · have hlt : k < q.length := by have := of_decide_eq_true h; omega
    clear h
    obtain ⟨⟨x, p⟩, hp⟩ := get_lt hlt
    have hsk := qS_at hp
    have hsa := hq.slotAt hv hp
    obtain ⟨hxm, hok, _⟩ := hq.at_ k x p hp
    have hax := hw.after x hxm
    have hsucc := flatMap_snoc hp (earlyA q)
    have e0 : (q.take k).flatMap (earlyA q) = (q.take k).flatMap (earlyA q) ++ (x.after.take 0).flatMap (earlyB q (x, p)) := by simp
    have e9 : earlyA q (x, p) = (x.after.take x.after.length).flatMap (earlyB q (x, p)) := by rw [List.take_length]; rfl
    have hB := fun j => flatMap_take_len (l := x.after) (f := earlyB q (x, p)) (c := 4000) (fun nm _ => earlyB_len hq _ nm) hax j
    rw [e9] at hsucc
    generalize (q.take k).flatMap (earlyA q) = PRE at *
    repeat (first|refine pq_end rfl ?_|(refine zs rfl ?_ ?_;·repeat' constructor)|(refine zq rfl ?_ ?_;·repeat' constructor)|refine zw rfl ?_|refine zx rfl ?_|refine zb rfl ?_)
    refine pw_draw 8 [28, 29, 30, 31, 32, 33, 34, 8] (by decide +kernel) ?_
    repeat (first|refine pq_end rfl ?_|(refine zs rfl ?_ ?_;·repeat' constructor)|(refine zq rfl ?_ ?_;·repeat' constructor)|refine zw rfl ?_|refine zx rfl ?_|refine zb rfl ?_)
    (first|refine zsq rfl (q_idxm rfl rfl rfl rfl rfl (by omega) hsk rfl) ?_|refine zqq rfl (q_idxm rfl rfl rfl rfl rfl (by omega) hsk rfl) ?_)
    repeat (first|refine pq_end rfl ?_|(refine zs rfl ?_ ?_;·repeat' constructor)|(refine zq rfl ?_ ?_;·repeat' constructor)|refine zw rfl ?_|refine zx rfl ?_|refine zb rfl ?_)
    (first|refine zsq rfl (q_call rfl (item_ref w hw _ hsa) rfl (by repeat' constructor) rfl) ?_|refine zqq rfl (q_call rfl (item_ref w hw _ hsa) rfl (by repeat' constructor) rfl) ?_)
    repeat (first|refine pq_end rfl ?_|(refine zs rfl ?_ ?_;·repeat' constructor)|(refine zq rfl ?_ ?_;·repeat' constructor)|refine zw rfl ?_|refine zx rfl ?_|refine zb rfl ?_)
    refine pw_loop (fun j => j ≤ x.after.length) (fun j => [(2, .ptr 2 1 0 0), (5, .sl ((qS q).map eSlot)), (6, .als 6 (1 + (PRE ++ (x.after.take j).flatMap (earlyB q (x, p))).length) 0 ((PRE ++ (x.after.take j).flatMap (earlyB q (x, p))).map eBr).length), (7, I k), (8, .sl (x.after.map eS)), (9, I j)])
      (fun j => [(2, 1, ⟨28, 9, [eWork w], 2⟩), (6, 1 + (PRE ++ (x.after.take j).flatMap (earlyB q (x, p))).length, ⟨42, 3, (PRE ++ (x.after.take j).flatMap (earlyB q (x, p))).map eBr, 0⟩)]) (fun j => x.after.length - j) 0 (Nat.zero_le _) ⟨rfl, rfl, ?_, rfl, rfl, rfl, rfl, ?_, trivial⟩ ?_
    · rw [← e0]; rfl
    · rw [← e0]; rfl
    intro j s2 hj
    have hBj := hB j
    repeat (first|refine pq_end rfl ?_|(refine zs rfl ?_ ?_;·repeat' constructor)|(refine zq rfl ?_ ?_;·repeat' constructor)|refine zw rfl ?_|refine zx rfl ?_|refine zb rfl ?_)
    refine pw_cond rfl (fun h => ?_) (fun h => ?_)
    · have hlt' : j < x.after.length := by simpa using h
      clear h
      obtain ⟨nm, hnm⟩ := get_lt hlt'
      have hstep := flatMap_snoc hnm (earlyB q (x, p))
      have hbl : (PRE ++ (x.after.take j).flatMap (earlyB q (x, p))).length ≤ 1600400000000 := by rw [List.length_append]; omega
      have f0 : PRE ++ (x.after.take j).flatMap (earlyB q (x, p)) = PRE ++ (x.after.take j).flatMap (earlyB q (x, p)) ++ (q.take 0).flatMap (early1 (x, p) nm) := by simp
      have f9 : earlyB q (x, p) nm = (q.take q.length).flatMap (early1 (x, p) nm) := by rw [List.take_length]; rfl
      have hC := fun m => flatMap_take_len (l := q) (f := early1 (x, p) nm) (c := 1) (fun b _ => early1_len _ nm b) hn m
      have hstep : PRE ++ (x.after.take (j + 1)).flatMap (earlyB q (x, p)) = PRE ++ (x.after.take j).flatMap (earlyB q (x, p)) ++ (q.take q.length).flatMap (early1 (x, p) nm) := by rw [hstep, f9, List.append_assoc]
      generalize PRE ++ (x.after.take j).flatMap (earlyB q (x, p)) = PR2 at *
      repeat (first|refine pq_end rfl ?_|(refine zs rfl ?_ ?_;·repeat' constructor)|(refine zq rfl ?_ ?_;·repeat' constructor)|refine zw rfl ?_|refine zx rfl ?_|refine zb rfl ?_)
      refine pw_loop (fun m => m ≤ q.length) (fun m => [(2, .ptr 2 1 0 0), (5, .sl ((qS q).map eSlot)), (6, .als 6 (1 + (PR2 ++ (q.take m).flatMap (early1 (x, p) nm)).length) 0 ((PR2 ++ (q.take m).flatMap (early1 (x, p) nm)).map eBr).length), (7, I k), (8, .sl (x.after.map eS)), (9, I j), (10, I m)])
        (fun m => [(2, 1, ⟨28, 9, [eWork w], 2⟩), (6, 1 + (PR2 ++ (q.take m).flatMap (early1 (x, p) nm)).length, ⟨42, 3, (PR2 ++ (q.take m).flatMap (early1 (x, p) nm)).map eBr, 0⟩)]) (fun m => q.length - m) 0 (Nat.zero_le _) ⟨rfl, rfl, ?_, rfl, rfl, rfl, rfl, rfl, ?_, trivial⟩ ?_
      · rw [← f0]; rfl
      · rw [← f0]; rfl
      intro m s3 hm
      have hCm := hC m
      repeat (first|refine pq_end rfl ?_|(refine zs rfl ?_ ?_;·repeat' constructor)|(refine zq rfl ?_ ?_;·repeat' constructor)|refine zw rfl ?_|refine zx rfl ?_|refine zb rfl ?_)
      refine pw_cond rfl (fun h => ?_) (fun h => ?_)
      · have hltm : m < q.length := by have := of_decide_eq_true h; omega
        clear h
        obtain ⟨⟨y2, q2⟩, hq2⟩ := get_lt hltm
        have hsm := qS_at hq2
        have hsam := hq.slotAt hv hq2
        have hat : early1 (x, p) nm (y2, q2) = if y2.name = nm then (if p.day < endP y2 q2 then [⟨y2.name, x.name, 10⟩] else []) else [] := rfl
        have hs3 : PR2 ++ (q.take (m + 1)).flatMap (early1 (x, p) nm) = PR2 ++ (q.take m).flatMap (early1 (x, p) nm) ++ early1 (x, p) nm (y2, q2) := by rw [flatMap_snoc hq2, List.append_assoc]
        have hb3 : (PR2 ++ (q.take m).flatMap (early1 (x, p) nm)).length ≤ 1700000000000 := by rw [List.length_append]; omega
        generalize PR2 ++ (q.take m).flatMap (early1 (x, p) nm) = ACC at *
        repeat (first|refine pq_end rfl ?_|(refine zs rfl ?_ ?_;·repeat' constructor)|(refine zq rfl ?_ ?_;·repeat' constructor)|refine zw rfl ?_|refine zx rfl ?_|refine zb rfl ?_)
        refine pw_draw 24 [47, 48, 49, 50, 51, 52, 53, 54, 55, 56, 57, 58, 59, 60, 61, 62, 63, 64, 65, 66, 67, 68, 69, 70] (by decide +kernel) ?_
        repeat (first|refine pq_end rfl ?_|(refine zs rfl ?_ ?_;·repeat' constructor)|(refine zq rfl ?_ ?_;·repeat' constructor)|refine zw rfl ?_|refine zx rfl ?_|refine zb rfl ?_)
        (first|refine zsq rfl (q_idxm rfl rfl rfl rfl rfl (by omega) hsm rfl) ?_|refine zqq rfl (q_idxm rfl rfl rfl rfl rfl (by omega) hsm rfl) ?_)
        repeat (first|refine pq_end rfl ?_|(refine zs rfl ?_ ?_;·repeat' constructor)|(refine zq rfl ?_ ?_;·repeat' constructor)|refine zw rfl ?_|refine zx rfl ?_|refine zb rfl ?_)
        (first|refine zsq rfl (q_idxm rfl rfl rfl rfl rfl (by omega) hnm rfl) ?_|refine zqq rfl (q_idxm rfl rfl rfl rfl rfl (by omega) hnm rfl) ?_)
        repeat (first|refine pq_end rfl ?_|(refine zs rfl ?_ ?_;·repeat' constructor)|(refine zq rfl ?_ ?_;·repeat' constructor)|refine zw rfl ?_|refine zx rfl ?_|refine zb rfl ?_)
        (first | refine ps_split rfl rfl (fun h => ?_) (fun h => ?_) | refine pq_split rfl rfl (fun h => ?_) (fun h => ?_))
        · have he : y2.name = nm := of_decide_eq_true h
          clear h
          rw [if_pos he] at hat
          repeat (first|refine pq_end rfl ?_|(refine zs rfl ?_ ?_;·repeat' constructor)|(refine zq rfl ?_ ?_;·repeat' constructor)|refine zw rfl ?_|refine zx rfl ?_|refine zb rfl ?_)
          (first|refine zsq rfl (q_idxm rfl rfl rfl rfl rfl (by omega) hsm rfl) ?_|refine zqq rfl (q_idxm rfl rfl rfl rfl rfl (by omega) hsm rfl) ?_)
          repeat (first|refine pq_end rfl ?_|(refine zs rfl ?_ ?_;·repeat' constructor)|(refine zq rfl ?_ ?_;·repeat' constructor)|refine zw rfl ?_|refine zx rfl ?_|refine zb rfl ?_)
          (first|refine zsq rfl (q_callP rfl (end_ref w hw _ hsam) rfl (by repeat' constructor) rfl rfl) ?_|refine zqq rfl (q_callP rfl (end_ref w hw _ hsam) rfl (by repeat' constructor) rfl rfl) ?_)
          repeat (first|refine pq_end rfl ?_|(refine zs rfl ?_ ?_;·repeat' constructor)|(refine zq rfl ?_ ?_;·repeat' constructor)|refine zw rfl ?_|refine zx rfl ?_|refine zb rfl ?_)
          (first|refine zsq rfl (q_idxm rfl rfl rfl rfl rfl (by omega) hsk rfl) ?_|refine zqq rfl (q_idxm rfl rfl rfl rfl rfl (by omega) hsk rfl) ?_)
          repeat (first|refine pq_end rfl ?_|(refine zs rfl ?_ ?_;·repeat' constructor)|(refine zq rfl ?_ ?_;·repeat' constructor)|refine zw rfl ?_|refine zx rfl ?_|refine zb rfl ?_)
          refine pw_cond rfl (fun h => ?_) (fun h => ?_)
          · have hc : p.day < endP y2 q2 := of_decide_eq_true h
            clear h
            rw [if_pos hc] at hat
            repeat (first|refine pq_end rfl ?_|(refine zs rfl ?_ ?_;·repeat' constructor)|(refine zq rfl ?_ ?_;·repeat' constructor)|refine zw rfl ?_|refine zx rfl ?_|refine zb rfl ?_)
            refine pw_draw 13 [71, 72, 73, 74, 75, 76, 77, 78, 79, 80, 81, 82, 83] (by decide +kernel) ?_
            repeat (first|refine pq_end rfl ?_|(refine zs rfl ?_ ?_;·repeat' constructor)|(refine zq rfl ?_ ?_;·repeat' constructor)|refine zw rfl ?_|refine zx rfl ?_|refine zb rfl ?_)
            (first|refine zsq rfl (q_idxm rfl rfl rfl rfl rfl (by omega) hsm rfl) ?_|refine zqq rfl (q_idxm rfl rfl rfl rfl rfl (by omega) hsm rfl) ?_)
            repeat (first|refine pq_end rfl ?_|(refine zs rfl ?_ ?_;·repeat' constructor)|(refine zq rfl ?_ ?_;·repeat' constructor)|refine zw rfl ?_|refine zx rfl ?_|refine zb rfl ?_)
            (first|refine zsq rfl (q_idxm rfl rfl rfl rfl rfl (by omega) hsk rfl) ?_|refine zqq rfl (q_idxm rfl rfl rfl rfl rfl (by omega) hsk rfl) ?_)
            repeat (first|refine pq_end rfl ?_|(refine zs rfl ?_ ?_;·repeat' constructor)|(refine zq rfl ?_ ?_;·repeat' constructor)|refine zw rfl ?_|refine zx rfl ?_|refine zb rfl ?_)
            (first|refine zsq rfl (q_slit rfl rfl rfl rfl rfl rfl rfl rfl rfl rfl (by repeat' constructor) rfl) ?_|refine zqq rfl (q_slit rfl rfl rfl rfl rfl rfl rfl rfl rfl rfl (by repeat' constructor) rfl) ?_)
            repeat (first|refine pq_end rfl ?_|(refine zs rfl ?_ ?_;·repeat' constructor)|(refine zq rfl ?_ ?_;·repeat' constructor)|refine zw rfl ?_|refine zx rfl ?_|refine zb rfl ?_)
            refine ps_run (o_app 0 rfl rfl rfl rfl rfl rfl rfl rfl rfl rfl rfl (by repeat' constructor) (by intro row hr; first | (simp at hr; subst hr; rfl) | simp at hr) rfl rfl (by simp; omega) (by simp; omega) ?_)
            repeat (first|refine pq_end rfl ?_|(refine zs rfl ?_ ?_;·repeat' constructor)|(refine zq rfl ?_ ?_;·repeat' constructor)|refine zw rfl ?_|refine zx rfl ?_|refine zb rfl ?_)
            refine ⟨m + 1, hltm, by omega, rfl, rfl, ?_, rfl, rfl, rfl, i64_next (by omega) (by omega), rfl, ?_, trivial⟩
            · rw [hs3, hat]; exact als_snoc eBr 6 1 ACC ⟨y2.name, x.name, 10⟩
            · rw [hs3, hat]; exact cont_snoc eBr 1 42 3 0 ACC ⟨y2.name, x.name, 10⟩
          · have hc : ¬ p.day < endP y2 q2 := of_decide_eq_false h
            clear h
            rw [if_neg hc] at hat
            repeat (first|refine pq_end rfl ?_|(refine zs rfl ?_ ?_;·repeat' constructor)|(refine zq rfl ?_ ?_;·repeat' constructor)|refine zw rfl ?_|refine zx rfl ?_|refine zb rfl ?_)
            refine ⟨m + 1, hltm, by omega, rfl, rfl, ?_, rfl, rfl, rfl, i64_next (by omega) (by omega), rfl, ?_, trivial⟩
            · rw [hs3, hat, List.append_nil]; rfl
            · rw [hs3, hat, List.append_nil]; rfl
        · have he : ¬ y2.name = nm := of_decide_eq_false h
          clear h
          rw [if_neg he] at hat
          repeat (first|refine pq_end rfl ?_|(refine zs rfl ?_ ?_;·repeat' constructor)|(refine zq rfl ?_ ?_;·repeat' constructor)|refine zw rfl ?_|refine zx rfl ?_|refine zb rfl ?_)
          refine ⟨m + 1, hltm, by omega, rfl, rfl, ?_, rfl, rfl, rfl, i64_next (by omega) (by omega), rfl, ?_, trivial⟩
          · rw [hs3, hat, List.append_nil]; rfl
          · rw [hs3, hat, List.append_nil]; rfl
      · have hge : m = q.length := by have := of_decide_eq_false h; omega
        subst hge
        clear h
        repeat (first|refine pq_end rfl ?_|(refine zs rfl ?_ ?_;·repeat' constructor)|(refine zq rfl ?_ ?_;·repeat' constructor)|refine zw rfl ?_|refine zx rfl ?_|refine zb rfl ?_)
        refine ⟨j + 1, hlt', by omega, rfl, rfl, ?_, rfl, rfl, i64_next (by omega) (by omega), rfl, ?_, trivial⟩
        · rw [hstep]; rfl
        · rw [hstep]; rfl
    · have hge : j = x.after.length := by have : ¬ j < x.after.length := by simpa using h
                                          omega
      subst hge
      clear h
      rw [← hsucc]
      repeat (first|refine pq_end rfl ?_|(refine zs rfl ?_ ?_;·repeat' constructor)|(refine zq rfl ?_ ?_;·repeat' constructor)|refine zw rfl ?_|refine zx rfl ?_|refine zb rfl ?_)
      exact ⟨k + 1, hlt, by omega, rfl, rfl, rfl, i64_next (by omega) (by omega), rfl, rfl, trivial⟩
  · have hge : k = q.length := by have := of_decide_eq_false h; omega
    subst hge
    clear h
    rw [List.take_length] at hEk ⊢
    have eE : q.flatMap (earlyA q) = earlyQ q := rfl
    rw [eE] at hEk ⊢
    clear hE
    have c0 : earlyQ q = earlyQ q ++ (w.trades.take 0).flatMap (crowdT q) := by simp
    have hC := fun k => flatMap_take_len (l := w.trades) (f := crowdT q) (c := 1) (fun t _ => crowdT_len q t) htl k
    have cfin : breachQ w q = earlyQ q ++ (w.trades.take w.trades.length).flatMap (crowdT q) ++ clashQ w q ++ haltQ w q ++ lateQ w q := by rw [List.take_length]; rfl
    rw [cfin]
    clear cfin
    generalize earlyQ q = E at *
    repeat (first|refine pq_end rfl ?_|(refine zs rfl ?_ ?_;·repeat' constructor)|(refine zq rfl ?_ ?_;·repeat' constructor)|refine zw rfl ?_|refine zx rfl ?_|refine zb rfl ?_)
    refine pw_loop (fun k => k ≤ w.trades.length) (fun k => [(2, .ptr 2 1 0 0), (5, .sl ((qS q).map eSlot)), (6, .als 6 (1 + (E ++ (w.trades.take k).flatMap (crowdT q)).length) 0 ((E ++ (w.trades.take k).flatMap (crowdT q)).map eBr).length), (11, I k)])
      (fun k => [(2, 1, ⟨28, 9, [eWork w], 2⟩), (6, 1 + (E ++ (w.trades.take k).flatMap (crowdT q)).length, ⟨42, 3, (E ++ (w.trades.take k).flatMap (crowdT q)).map eBr, 0⟩)]) (fun k => w.trades.length - k) 0 (Nat.zero_le _) ⟨rfl, rfl, ?_, rfl, rfl, ?_, trivial⟩ ?_
    · rw [← c0]; rfl
    · rw [← c0]; rfl
    intro k s2 hk
    have hCk := hC k
    repeat (first|refine pq_end rfl ?_|(refine zs rfl ?_ ?_;·repeat' constructor)|(refine zq rfl ?_ ?_;·repeat' constructor)|refine zw rfl ?_|refine zx rfl ?_|refine zb rfl ?_)
    refine pw_cond rfl (fun h => ?_) (fun h => ?_)
    · have hlt : k < w.trades.length := by simpa using h
      clear h
      obtain ⟨t, ht⟩ := get_lt hlt
      have hstep : E ++ (w.trades.take (k + 1)).flatMap (crowdT q) = E ++ (w.trades.take k).flatMap (crowdT q) ++ crowdT q t := by rw [flatMap_snoc ht, List.append_assoc]
      have hlen : (E ++ (w.trades.take k).flatMap (crowdT q)).length ≤ 1700000000000 := by rw [List.length_append]; omega
      have hat : crowdT q t = if t.crew < (loadQ q t.name).foldl imax 0 then [⟨t.name, [], 23⟩] else [] := rfl
      have hLl : ((loadQ q t.name).map eI).length = (loadQ q t.name).length := by simp
      have hL60 : (loadQ q t.name).length ≤ 460 := by rw [loadQ_len]; have := durQ_bd hq; omega
      generalize E ++ (w.trades.take k).flatMap (crowdT q) = ACC at *
      have hload := load_ref w hw hv q hq t.name
      generalize loadQ q t.name = LD at *
      repeat (first|refine pq_end rfl ?_|(refine zs rfl ?_ ?_;·repeat' constructor)|(refine zq rfl ?_ ?_;·repeat' constructor)|refine zw rfl ?_|refine zx rfl ?_|refine zb rfl ?_)
      refine pw_draw 10 [92, 93, 94, 95, 96, 97, 98, 99, 100, 12] (by decide +kernel) ?_
      repeat (first|refine pq_end rfl ?_|(refine zs rfl ?_ ?_;·repeat' constructor)|(refine zq rfl ?_ ?_;·repeat' constructor)|refine zw rfl ?_|refine zx rfl ?_|refine zb rfl ?_)
      (first|refine zsq rfl (q_idxm rfl rfl rfl rfl rfl (by omega) ht rfl) ?_|refine zqq rfl (q_idxm rfl rfl rfl rfl rfl (by omega) ht rfl) ?_)
      repeat (first|refine pq_end rfl ?_|(refine zs rfl ?_ ?_;·repeat' constructor)|(refine zq rfl ?_ ?_;·repeat' constructor)|refine zw rfl ?_|refine zx rfl ?_|refine zb rfl ?_)
      (first|refine zsq rfl (q_call rfl (hload) rfl (by repeat' constructor) rfl) ?_|refine zqq rfl (q_call rfl (hload) rfl (by repeat' constructor) rfl) ?_)
      repeat (first|refine pq_end rfl ?_|(refine zs rfl ?_ ?_;·repeat' constructor)|(refine zq rfl ?_ ?_;·repeat' constructor)|refine zw rfl ?_|refine zx rfl ?_|refine zb rfl ?_)
      refine pw_loop (fun j => j ≤ LD.length) (fun j => [(2, .ptr 2 1 0 0), (5, .sl ((qS q).map eSlot)), (6, .als 6 (1 + ACC.length) 0 (ACC.map eBr).length), (11, I k), (12, .sl (LD.map eI)), (13, I ((LD.take j).foldl imax 0)), (14, I j)])
        (fun j => [(2, 1, ⟨28, 9, [eWork w], 2⟩), (6, 1 + ACC.length, ⟨42, 3, ACC.map eBr, 0⟩)]) (fun j => LD.length - j) 0 (Nat.zero_le _) ⟨rfl, rfl, rfl, rfl, rfl, rfl, rfl, rfl, rfl, trivial⟩ ?_
      intro j s3 hj
      repeat (first|refine pq_end rfl ?_|(refine zs rfl ?_ ?_;·repeat' constructor)|(refine zq rfl ?_ ?_;·repeat' constructor)|refine zw rfl ?_|refine zx rfl ?_|refine zb rfl ?_)
      refine pw_cond rfl (fun h => ?_) (fun h => ?_)
      · have hlt' : j < LD.length := by simpa using h
        clear h
        obtain ⟨v, hvj⟩ := get_lt hlt'
        repeat (first|refine pq_end rfl ?_|(refine zs rfl ?_ ?_;·repeat' constructor)|(refine zq rfl ?_ ?_;·repeat' constructor)|refine zw rfl ?_|refine zx rfl ?_|refine zb rfl ?_)
        (first|refine zsq rfl (q_idxm rfl rfl rfl rfl rfl (by omega) hvj rfl) ?_|refine zqq rfl (q_idxm rfl rfl rfl rfl rfl (by omega) hvj rfl) ?_)
        repeat (first|refine pq_end rfl ?_|(refine zs rfl ?_ ?_;·repeat' constructor)|(refine zq rfl ?_ ?_;·repeat' constructor)|refine zw rfl ?_|refine zx rfl ?_|refine zb rfl ?_)
        refine ⟨j + 1, hlt', by omega, rfl, rfl, rfl, rfl, rfl, ?_, i64_next (by omega) (by omega), rfl, rfl, trivial⟩
        rw [take_snoc hvj, List.foldl_append]; rfl
      · have hge : j = LD.length := by have := of_decide_eq_false h; simp at this; omega
        subst hge
        clear h
        rw [show LD.take LD.length = LD from List.take_length]
        repeat (first|refine pq_end rfl ?_|(refine zs rfl ?_ ?_;·repeat' constructor)|(refine zq rfl ?_ ?_;·repeat' constructor)|refine zw rfl ?_|refine zx rfl ?_|refine zb rfl ?_)
        (first|refine zsq rfl (q_idxm rfl rfl rfl rfl rfl (by omega) ht rfl) ?_|refine zqq rfl (q_idxm rfl rfl rfl rfl rfl (by omega) ht rfl) ?_)
        repeat (first|refine pq_end rfl ?_|(refine zs rfl ?_ ?_;·repeat' constructor)|(refine zq rfl ?_ ?_;·repeat' constructor)|refine zw rfl ?_|refine zx rfl ?_|refine zb rfl ?_)
        refine pw_cond rfl (fun h => ?_) (fun h => ?_)
        · have hc : t.crew < LD.foldl imax 0 := of_decide_eq_true h
          clear h
          rw [if_pos hc] at hat
          repeat (first|refine pq_end rfl ?_|(refine zs rfl ?_ ?_;·repeat' constructor)|(refine zq rfl ?_ ?_;·repeat' constructor)|refine zw rfl ?_|refine zx rfl ?_|refine zb rfl ?_)
          (first|refine zsq rfl (q_idxm rfl rfl rfl rfl rfl (by omega) ht rfl) ?_|refine zqq rfl (q_idxm rfl rfl rfl rfl rfl (by omega) ht rfl) ?_)
          repeat (first|refine pq_end rfl ?_|(refine zs rfl ?_ ?_;·repeat' constructor)|(refine zq rfl ?_ ?_;·repeat' constructor)|refine zw rfl ?_|refine zx rfl ?_|refine zb rfl ?_)
          (first|refine zsq rfl (q_slit rfl rfl rfl rfl rfl rfl rfl rfl rfl rfl (by repeat' constructor) rfl) ?_|refine zqq rfl (q_slit rfl rfl rfl rfl rfl rfl rfl rfl rfl rfl (by repeat' constructor) rfl) ?_)
          repeat (first|refine pq_end rfl ?_|(refine zs rfl ?_ ?_;·repeat' constructor)|(refine zq rfl ?_ ?_;·repeat' constructor)|refine zw rfl ?_|refine zx rfl ?_|refine zb rfl ?_)
          refine ps_run (o_app 0 rfl rfl rfl rfl rfl rfl rfl rfl rfl rfl rfl (by repeat' constructor) (by intro row hr; first | (simp at hr; subst hr; rfl) | simp at hr) rfl rfl (by simp; omega) (by simp; omega) ?_)
          repeat (first|refine pq_end rfl ?_|(refine zs rfl ?_ ?_;·repeat' constructor)|(refine zq rfl ?_ ?_;·repeat' constructor)|refine zw rfl ?_|refine zx rfl ?_|refine zb rfl ?_)
          refine ⟨k + 1, hlt, by omega, rfl, rfl, ?_, i64_next (by omega) (by omega), rfl, ?_, trivial⟩
          · rw [hstep, hat]; exact als_snoc eBr 6 1 ACC ⟨t.name, [], 23⟩
          · rw [hstep, hat]; exact cont_snoc eBr 1 42 3 0 ACC ⟨t.name, [], 23⟩
        · have hc : ¬ t.crew < LD.foldl imax 0 := of_decide_eq_false h
          clear h
          rw [if_neg hc] at hat
          repeat (first|refine pq_end rfl ?_|(refine zs rfl ?_ ?_;·repeat' constructor)|(refine zq rfl ?_ ?_;·repeat' constructor)|refine zw rfl ?_|refine zx rfl ?_|refine zb rfl ?_)
          refine ⟨k + 1, hlt, by omega, rfl, rfl, ?_, i64_next (by omega) (by omega), rfl, ?_, trivial⟩
          · rw [hstep, hat, List.append_nil]; rfl
          · rw [hstep, hat, List.append_nil]; rfl
    · have hge : k = w.trades.length := by have : ¬ k < w.trades.length := by simpa using h
                                           omega
      subst hge
      clear h
      have hPl : (E ++ (w.trades.take w.trades.length).flatMap (crowdT q)).length ≤ 1601000000000 := by rw [List.length_append]; omega
      generalize E ++ (w.trades.take w.trades.length).flatMap (crowdT q) = PRE at *
      clear hC hCk c0 hEk
      have hR := fun i => flatMap_take_len (l := List.range q.length) (f := clashI w q) (c := 4000) (fun i _ => clashI_len w hn i) (n := 4000) (by rw [List.length_range]; exact hn) i
      have d0 : PRE = PRE ++ (List.range 0).flatMap (clashI w q) := by simp
      have hR2 : ∀ i, i ≤ q.length → ((List.range i).flatMap (clashI w q)).length ≤ 16000000 := fun i hi => by
        have := hR i
        rwa [List.take_range, Nat.min_eq_left hi] at this
      have dfin : PRE ++ clashQ w q ++ haltQ w q ++ lateQ w q = PRE ++ (List.range q.length).flatMap (clashI w q) ++ haltQ w q ++ lateQ w q := rfl
      rw [dfin]
      repeat (first|refine pq_end rfl ?_|(refine zs rfl ?_ ?_;·repeat' constructor)|(refine zq rfl ?_ ?_;·repeat' constructor)|refine zw rfl ?_|refine zx rfl ?_|refine zb rfl ?_)
      refine pw_loop (fun k => k ≤ q.length) (fun k => [(2, .ptr 2 1 0 0), (5, .sl ((qS q).map eSlot)), (6, .als 6 (1 + (PRE ++ (List.range k).flatMap (clashI w q)).length) 0 ((PRE ++ (List.range k).flatMap (clashI w q)).map eBr).length), (15, I k)])
        (fun k => [(2, 1, ⟨28, 9, [eWork w], 2⟩), (6, 1 + (PRE ++ (List.range k).flatMap (clashI w q)).length, ⟨42, 3, (PRE ++ (List.range k).flatMap (clashI w q)).map eBr, 0⟩)]) (fun k => q.length - k) 0 (Nat.zero_le _) ⟨rfl, rfl, ?_, rfl, rfl, ?_, trivial⟩ ?_
      · rw [← d0]; rfl
      · rw [← d0]; rfl
      intro k s2 hk
      have hRk := hR2 k hk
      repeat (first|refine pq_end rfl ?_|(refine zs rfl ?_ ?_;·repeat' constructor)|(refine zq rfl ?_ ?_;·repeat' constructor)|refine zw rfl ?_|refine zx rfl ?_|refine zb rfl ?_)
      refine pw_cond rfl (fun h => ?_) (fun h => ?_)
      · have hlt : k < q.length := by have := of_decide_eq_true h; omega
        clear h
        obtain ⟨⟨x, p⟩, hp⟩ := get_lt hlt
        have hsk := qS_at hp
        have hsa := hq.slotAt hv hp
        have hD : (q.drop (k + 1)).length = q.length - (k + 1) := by simp
        have hstep : PRE ++ (List.range (k + 1)).flatMap (clashI w q) = PRE ++ (List.range k).flatMap (clashI w q) ++ ((q.drop (k + 1)).take (q.drop (k + 1)).length).flatMap (clash1 w (x, p)) := by
          rw [range_flatMap, List.append_assoc, List.take_length]
          congr 2
          rw [clashI, hp]
        have hT := fun j => flatMap_take_len (l := q.drop (k + 1)) (f := clash1 w (x, p)) (c := 1) (n := 4000) (fun b _ => clash1_len w _ b) (by omega) j
        have hlen : (PRE ++ (List.range k).flatMap (clashI w q)).length ≤ 1602000000000 := by rw [List.length_append]; omega
        have g0 : PRE ++ (List.range k).flatMap (clashI w q) = PRE ++ (List.range k).flatMap (clashI w q) ++ ((q.drop (k + 1)).take 0).flatMap (clash1 w (x, p)) := by simp
        generalize PRE ++ (List.range k).flatMap (clashI w q) = PR2 at *
        generalize hDR : q.drop (k + 1) = DR at *
        repeat (first|refine pq_end rfl ?_|(refine zs rfl ?_ ?_;·repeat' constructor)|(refine zq rfl ?_ ?_;·repeat' constructor)|refine zw rfl ?_|refine zx rfl ?_|refine zb rfl ?_)
        refine pw_loop (fun j => j ≤ DR.length) (fun j => [(2, .ptr 2 1 0 0), (5, .sl ((qS q).map eSlot)), (6, .als 6 (1 + (PR2 ++ (DR.take j).flatMap (clash1 w (x, p))).length) 0 ((PR2 ++ (DR.take j).flatMap (clash1 w (x, p))).map eBr).length), (15, I k), (16, I ((k + 1 + j : Nat) : Int))])
          (fun j => [(2, 1, ⟨28, 9, [eWork w], 2⟩), (6, 1 + (PR2 ++ (DR.take j).flatMap (clash1 w (x, p))).length, ⟨42, 3, (PR2 ++ (DR.take j).flatMap (clash1 w (x, p))).map eBr, 0⟩)]) (fun j => DR.length - j) 0 (Nat.zero_le _) ⟨rfl, rfl, ?_, rfl, ?_, rfl, ?_, trivial⟩ ?_
        · rw [← g0]; rfl
        · exact i64_next (by omega) (by omega)
        · rw [← g0]; rfl
        intro j s3 hj
        have hTj := hT j
        repeat (first|refine pq_end rfl ?_|(refine zs rfl ?_ ?_;·repeat' constructor)|(refine zq rfl ?_ ?_;·repeat' constructor)|refine zw rfl ?_|refine zx rfl ?_|refine zb rfl ?_)
        refine pw_cond rfl (fun h => ?_) (fun h => ?_)
        · have hlt' : j < DR.length := by have := of_decide_eq_true h; omega
          clear h
          obtain ⟨⟨y, r⟩, hyr⟩ := get_lt hlt'
          have hqj : q[k + 1 + j]? = some (y, r) := by rw [← hDR, List.getElem?_drop] at hyr; exact hyr
          have hsj := qS_at hqj
          have hsaj := hq.slotAt hv hqj
          have hs3 : PR2 ++ (DR.take (j + 1)).flatMap (clash1 w (x, p)) = PR2 ++ (DR.take j).flatMap (clash1 w (x, p)) ++ clash1 w (x, p) (y, r) := by rw [flatMap_snoc hyr, List.append_assoc]
          have hb3 : (PR2 ++ (DR.take j).flatMap (clash1 w (x, p))).length ≤ 1603000000000 := by rw [List.length_append]; omega
          have hat : clash1 w (x, p) (y, r) = if (meetQ (x, p) (y, r) && apartP w x y) = true then [⟨x.name, y.name, 17⟩] else [] := rfl
          have hcl := clash_ref w hw hv hz _ _ hsa hsaj
          rw [show meetR ⟨x.name, p.mode, p.day⟩ ⟨y.name, r.mode, r.day⟩ (modeAt x p.mode) (modeAt y r.mode) = meetQ (x, p) (y, r) from rfl] at hcl
          generalize (meetQ (x, p) (y, r) && apartP w x y) = CB at *
          generalize PR2 ++ (DR.take j).flatMap (clash1 w (x, p)) = ACC at *
          repeat (first|refine pq_end rfl ?_|(refine zs rfl ?_ ?_;·repeat' constructor)|(refine zq rfl ?_ ?_;·repeat' constructor)|refine zw rfl ?_|refine zx rfl ?_|refine zb rfl ?_)
          refine pw_draw 10 [145, 146, 147, 148, 149, 150, 151, 152, 153, 154] (by decide +kernel) ?_
          repeat (first|refine pq_end rfl ?_|(refine zs rfl ?_ ?_;·repeat' constructor)|(refine zq rfl ?_ ?_;·repeat' constructor)|refine zw rfl ?_|refine zx rfl ?_|refine zb rfl ?_)
          (first|refine zsq rfl (q_idxm rfl rfl rfl rfl rfl (by omega) hsk rfl) ?_|refine zqq rfl (q_idxm rfl rfl rfl rfl rfl (by omega) hsk rfl) ?_)
          repeat (first|refine pq_end rfl ?_|(refine zs rfl ?_ ?_;·repeat' constructor)|(refine zq rfl ?_ ?_;·repeat' constructor)|refine zw rfl ?_|refine zx rfl ?_|refine zb rfl ?_)
          (first|refine zsq rfl (q_idxm (n := (((k + 1 + j : Nat) : Int) : Int)) rfl rfl rfl rfl rfl (by omega) hsj rfl) ?_|refine zqq rfl (q_idxm (n := (((k + 1 + j : Nat) : Int) : Int)) rfl rfl rfl rfl rfl (by omega) hsj rfl) ?_)
          repeat (first|refine pq_end rfl ?_|(refine zs rfl ?_ ?_;·repeat' constructor)|(refine zq rfl ?_ ?_;·repeat' constructor)|refine zw rfl ?_|refine zx rfl ?_|refine zb rfl ?_)
          (first|refine zsq rfl (q_callP rfl (hcl) rfl (by repeat' constructor) rfl rfl) ?_|refine zqq rfl (q_callP rfl (hcl) rfl (by repeat' constructor) rfl rfl) ?_)
          repeat (first|refine pq_end rfl ?_|(refine zs rfl ?_ ?_;·repeat' constructor)|(refine zq rfl ?_ ?_;·repeat' constructor)|refine zw rfl ?_|refine zx rfl ?_|refine zb rfl ?_)
          refine pw_cond rfl (fun h => ?_) (fun h => ?_)
          · subst h
            rw [if_pos rfl] at hat
            repeat (first|refine pq_end rfl ?_|(refine zs rfl ?_ ?_;·repeat' constructor)|(refine zq rfl ?_ ?_;·repeat' constructor)|refine zw rfl ?_|refine zx rfl ?_|refine zb rfl ?_)
            refine pw_draw 13 [155, 156, 157, 158, 159, 160, 161, 162, 163, 164, 165, 166, 167] (by decide +kernel) ?_
            repeat (first|refine pq_end rfl ?_|(refine zs rfl ?_ ?_;·repeat' constructor)|(refine zq rfl ?_ ?_;·repeat' constructor)|refine zw rfl ?_|refine zx rfl ?_|refine zb rfl ?_)
            (first|refine zsq rfl (q_idxm rfl rfl rfl rfl rfl (by omega) hsk rfl) ?_|refine zqq rfl (q_idxm rfl rfl rfl rfl rfl (by omega) hsk rfl) ?_)
            repeat (first|refine pq_end rfl ?_|(refine zs rfl ?_ ?_;·repeat' constructor)|(refine zq rfl ?_ ?_;·repeat' constructor)|refine zw rfl ?_|refine zx rfl ?_|refine zb rfl ?_)
            (first|refine zsq rfl (q_idxm (n := (((k + 1 + j : Nat) : Int) : Int)) rfl rfl rfl rfl rfl (by omega) hsj rfl) ?_|refine zqq rfl (q_idxm (n := (((k + 1 + j : Nat) : Int) : Int)) rfl rfl rfl rfl rfl (by omega) hsj rfl) ?_)
            repeat (first|refine pq_end rfl ?_|(refine zs rfl ?_ ?_;·repeat' constructor)|(refine zq rfl ?_ ?_;·repeat' constructor)|refine zw rfl ?_|refine zx rfl ?_|refine zb rfl ?_)
            (first|refine zsq rfl (q_slit rfl rfl rfl rfl rfl rfl rfl rfl rfl rfl (by repeat' constructor) rfl) ?_|refine zqq rfl (q_slit rfl rfl rfl rfl rfl rfl rfl rfl rfl rfl (by repeat' constructor) rfl) ?_)
            repeat (first|refine pq_end rfl ?_|(refine zs rfl ?_ ?_;·repeat' constructor)|(refine zq rfl ?_ ?_;·repeat' constructor)|refine zw rfl ?_|refine zx rfl ?_|refine zb rfl ?_)
            refine ps_run (o_app 0 rfl rfl rfl rfl rfl rfl rfl rfl rfl rfl rfl (by repeat' constructor) (by intro row hr; first | (simp at hr; subst hr; rfl) | simp at hr) rfl rfl (by simp; omega) (by simp; omega) ?_)
            repeat (first|refine pq_end rfl ?_|(refine zs rfl ?_ ?_;·repeat' constructor)|(refine zq rfl ?_ ?_;·repeat' constructor)|refine zw rfl ?_|refine zx rfl ?_|refine zb rfl ?_)
            refine ⟨j + 1, hlt', by omega, rfl, rfl, ?_, rfl, i64_next (by omega) (by omega), rfl, ?_, trivial⟩
            · rw [hs3, hat]; exact als_snoc eBr 6 1 ACC ⟨x.name, y.name, 17⟩
            · rw [hs3, hat]; exact cont_snoc eBr 1 42 3 0 ACC ⟨x.name, y.name, 17⟩
          · subst h
            rw [if_neg (by simp)] at hat
            repeat (first|refine pq_end rfl ?_|(refine zs rfl ?_ ?_;·repeat' constructor)|(refine zq rfl ?_ ?_;·repeat' constructor)|refine zw rfl ?_|refine zx rfl ?_|refine zb rfl ?_)
            refine ⟨j + 1, hlt', by omega, rfl, rfl, ?_, rfl, i64_next (by omega) (by omega), rfl, ?_, trivial⟩
            · rw [hs3, hat, List.append_nil]; rfl
            · rw [hs3, hat, List.append_nil]; rfl
        · have hge : j = DR.length := by have := of_decide_eq_false h; omega
          subst hge
          clear h
          repeat (first|refine pq_end rfl ?_|(refine zs rfl ?_ ?_;·repeat' constructor)|(refine zq rfl ?_ ?_;·repeat' constructor)|refine zw rfl ?_|refine zx rfl ?_|refine zb rfl ?_)
          refine ⟨k + 1, hlt, by omega, rfl, rfl, ?_, i64_next (by omega) (by omega), rfl, ?_, trivial⟩
          · rw [hstep]; rfl
          · rw [hstep]; rfl
      · have hge : k = q.length := by have := of_decide_eq_false h; omega
        subst hge
        clear h
        have hP2 : (PRE ++ (List.range q.length).flatMap (clashI w q)).length ≤ 1602000000000 := by rw [List.length_append]; omega
        generalize PRE ++ (List.range q.length).flatMap (clashI w q) = PR2 at *
        clear hRk hR2 d0 hR hPl dfin
        have hH := fun k => flatMap_take_len (l := q) (f := haltA w) (c := 1) (fun a _ => haltA_len w a) hn k
        have hLt := fun k => flatMap_take_len (l := q) (f := lateA w) (c := 1) (fun a _ => lateA_len w a) hn k
        have e0 : PR2 = PR2 ++ (q.take 0).flatMap (haltA w) := by simp
        have efin : PR2 ++ haltQ w q ++ lateQ w q = PR2 ++ (q.take q.length).flatMap (haltA w) ++ lateQ w q := by rw [List.take_length]; rfl
        rw [efin]
        clear efin
        repeat (first|refine pq_end rfl ?_|(refine zs rfl ?_ ?_;·repeat' constructor)|(refine zq rfl ?_ ?_;·repeat' constructor)|refine zw rfl ?_|refine zx rfl ?_|refine zb rfl ?_)
        refine pw_loop (fun k => k ≤ q.length) (fun k => [(2, .ptr 2 1 0 0), (5, .sl ((qS q).map eSlot)), (6, .als 6 (1 + (PR2 ++ (q.take k).flatMap (haltA w)).length) 0 ((PR2 ++ (q.take k).flatMap (haltA w)).map eBr).length), (17, I k)])
          (fun k => [(2, 1, ⟨28, 9, [eWork w], 2⟩), (6, 1 + (PR2 ++ (q.take k).flatMap (haltA w)).length, ⟨42, 3, (PR2 ++ (q.take k).flatMap (haltA w)).map eBr, 0⟩)]) (fun k => q.length - k) 0 (Nat.zero_le _) ⟨rfl, rfl, ?_, rfl, rfl, ?_, trivial⟩ ?_
        · rw [← e0]; rfl
        · rw [← e0]; rfl
        intro k s2 hk
        have hHk := hH k
        repeat (first|refine pq_end rfl ?_|(refine zs rfl ?_ ?_;·repeat' constructor)|(refine zq rfl ?_ ?_;·repeat' constructor)|refine zw rfl ?_|refine zx rfl ?_|refine zb rfl ?_)
        refine pw_cond rfl (fun h => ?_) (fun h => ?_)
        · have hlt : k < q.length := by have := of_decide_eq_true h; omega
          clear h
          obtain ⟨⟨x, p⟩, hp⟩ := get_lt hlt
          have hsk := qS_at hp
          have hsa := hq.slotAt hv hp
          have hstep : PR2 ++ (q.take (k + 1)).flatMap (haltA w) = PR2 ++ (q.take k).flatMap (haltA w) ++ haltA w (x, p) := by rw [flatMap_snoc hp, List.append_assoc]
          have hlen : (PR2 ++ (q.take k).flatMap (haltA w)).length ≤ 1604000000000 := by rw [List.length_append]; omega
          have hat : haltA w (x, p) = if stopP w x p = true then [⟨x.name, [], 18⟩] else [] := rfl
          have ho := out_ref w hw hv _ hsa
          have hob : (x.crane && w.outs.any fun o => decide (p.day < o.to) && decide (o.frm < p.day + (modeAt x p.mode).days)) = stopP w x p := rfl
          rw [hob] at ho
          generalize stopP w x p = SB at *
          generalize PR2 ++ (q.take k).flatMap (haltA w) = ACC at *
          repeat (first|refine pq_end rfl ?_|(refine zs rfl ?_ ?_;·repeat' constructor)|(refine zq rfl ?_ ?_;·repeat' constructor)|refine zw rfl ?_|refine zx rfl ?_|refine zb rfl ?_)
          refine pw_draw 6 [175, 176, 177, 178, 179, 180] (by decide +kernel) ?_
          repeat (first|refine pq_end rfl ?_|(refine zs rfl ?_ ?_;·repeat' constructor)|(refine zq rfl ?_ ?_;·repeat' constructor)|refine zw rfl ?_|refine zx rfl ?_|refine zb rfl ?_)
          (first|refine zsq rfl (q_idxm rfl rfl rfl rfl rfl (by omega) hsk rfl) ?_|refine zqq rfl (q_idxm rfl rfl rfl rfl rfl (by omega) hsk rfl) ?_)
          repeat (first|refine pq_end rfl ?_|(refine zs rfl ?_ ?_;·repeat' constructor)|(refine zq rfl ?_ ?_;·repeat' constructor)|refine zw rfl ?_|refine zx rfl ?_|refine zb rfl ?_)
          (first|refine zsq rfl (q_callP rfl (ho) rfl (by repeat' constructor) rfl rfl) ?_|refine zqq rfl (q_callP rfl (ho) rfl (by repeat' constructor) rfl rfl) ?_)
          repeat (first|refine pq_end rfl ?_|(refine zs rfl ?_ ?_;·repeat' constructor)|(refine zq rfl ?_ ?_;·repeat' constructor)|refine zw rfl ?_|refine zx rfl ?_|refine zb rfl ?_)
          refine pw_cond rfl (fun h => ?_) (fun h => ?_)
          · subst h
            rw [if_pos rfl] at hat
            repeat (first|refine pq_end rfl ?_|(refine zs rfl ?_ ?_;·repeat' constructor)|(refine zq rfl ?_ ?_;·repeat' constructor)|refine zw rfl ?_|refine zx rfl ?_|refine zb rfl ?_)
            (first|refine zsq rfl (q_idxm rfl rfl rfl rfl rfl (by omega) hsk rfl) ?_|refine zqq rfl (q_idxm rfl rfl rfl rfl rfl (by omega) hsk rfl) ?_)
            repeat (first|refine pq_end rfl ?_|(refine zs rfl ?_ ?_;·repeat' constructor)|(refine zq rfl ?_ ?_;·repeat' constructor)|refine zw rfl ?_|refine zx rfl ?_|refine zb rfl ?_)
            (first|refine zsq rfl (q_slit rfl rfl rfl rfl rfl rfl rfl rfl rfl rfl (by repeat' constructor) rfl) ?_|refine zqq rfl (q_slit rfl rfl rfl rfl rfl rfl rfl rfl rfl rfl (by repeat' constructor) rfl) ?_)
            repeat (first|refine pq_end rfl ?_|(refine zs rfl ?_ ?_;·repeat' constructor)|(refine zq rfl ?_ ?_;·repeat' constructor)|refine zw rfl ?_|refine zx rfl ?_|refine zb rfl ?_)
            refine ps_run (o_app 0 rfl rfl rfl rfl rfl rfl rfl rfl rfl rfl rfl (by repeat' constructor) (by intro row hr; first | (simp at hr; subst hr; rfl) | simp at hr) rfl rfl (by simp; omega) (by simp; omega) ?_)
            repeat (first|refine pq_end rfl ?_|(refine zs rfl ?_ ?_;·repeat' constructor)|(refine zq rfl ?_ ?_;·repeat' constructor)|refine zw rfl ?_|refine zx rfl ?_|refine zb rfl ?_)
            refine ⟨k + 1, hlt, by omega, rfl, rfl, ?_, i64_next (by omega) (by omega), rfl, ?_, trivial⟩
            · rw [hstep, hat]; exact als_snoc eBr 6 1 ACC ⟨x.name, [], 18⟩
            · rw [hstep, hat]; exact cont_snoc eBr 1 42 3 0 ACC ⟨x.name, [], 18⟩
          · subst h
            rw [if_neg (by simp)] at hat
            repeat (first|refine pq_end rfl ?_|(refine zs rfl ?_ ?_;·repeat' constructor)|(refine zq rfl ?_ ?_;·repeat' constructor)|refine zw rfl ?_|refine zx rfl ?_|refine zb rfl ?_)
            refine ⟨k + 1, hlt, by omega, rfl, rfl, ?_, i64_next (by omega) (by omega), rfl, ?_, trivial⟩
            · rw [hstep, hat, List.append_nil]; rfl
            · rw [hstep, hat, List.append_nil]; rfl
        · have hge : k = q.length := by have := of_decide_eq_false h; omega
          subst hge
          clear h
          have hP3 : (PR2 ++ (q.take q.length).flatMap (haltA w)).length ≤ 1604000000000 := by rw [List.length_append]; omega
          generalize PR2 ++ (q.take q.length).flatMap (haltA w) = PR3 at *
          have f0 : PR3 = PR3 ++ (q.take 0).flatMap (lateA w) := by simp
          have ffin : PR3 ++ lateQ w q = PR3 ++ (q.take q.length).flatMap (lateA w) := by rw [List.take_length]; rfl
          rw [ffin]
          clear ffin e0 hHk hH
          repeat (first|refine pq_end rfl ?_|(refine zs rfl ?_ ?_;·repeat' constructor)|(refine zq rfl ?_ ?_;·repeat' constructor)|refine zw rfl ?_|refine zx rfl ?_|refine zb rfl ?_)
          refine pw_loop (fun k => k ≤ q.length) (fun k => [(2, .ptr 2 1 0 0), (5, .sl ((qS q).map eSlot)), (6, .als 6 (1 + (PR3 ++ (q.take k).flatMap (lateA w)).length) 0 ((PR3 ++ (q.take k).flatMap (lateA w)).map eBr).length), (18, I k)])
            (fun k => [(2, 1, ⟨28, 9, [eWork w], 2⟩), (6, 1 + (PR3 ++ (q.take k).flatMap (lateA w)).length, ⟨42, 3, (PR3 ++ (q.take k).flatMap (lateA w)).map eBr, 0⟩)]) (fun k => q.length - k) 0 (Nat.zero_le _) ⟨rfl, rfl, ?_, rfl, rfl, ?_, trivial⟩ ?_
          · rw [← f0]; rfl
          · rw [← f0]; rfl
          intro k s2 hk
          have hLk := hLt k
          repeat (first|refine pq_end rfl ?_|(refine zs rfl ?_ ?_;·repeat' constructor)|(refine zq rfl ?_ ?_;·repeat' constructor)|refine zw rfl ?_|refine zx rfl ?_|refine zb rfl ?_)
          refine pw_cond rfl (fun h => ?_) (fun h => ?_)
          · have hlt : k < q.length := by have := of_decide_eq_true h; omega
            clear h
            obtain ⟨⟨x, p⟩, hp⟩ := get_lt hlt
            have hsk := qS_at hp
            have hsa := hq.slotAt hv hp
            have hstep : PR3 ++ (q.take (k + 1)).flatMap (lateA w) = PR3 ++ (q.take k).flatMap (lateA w) ++ lateA w (x, p) := by rw [flatMap_snoc hp, List.append_assoc]
            have hlen : (PR3 ++ (q.take k).flatMap (lateA w)).length ≤ 1605000000000 := by rw [List.length_append]; omega
            have hat : lateA w (x, p) = if w.last < endP x p then [⟨x.name, [], 16⟩] else [] := rfl
            generalize PR3 ++ (q.take k).flatMap (lateA w) = ACC at *
            repeat (first|refine pq_end rfl ?_|(refine zs rfl ?_ ?_;·repeat' constructor)|(refine zq rfl ?_ ?_;·repeat' constructor)|refine zw rfl ?_|refine zx rfl ?_|refine zb rfl ?_)
            refine pw_draw 9 [196, 197, 198, 199, 200, 201, 202, 203, 204] (by decide +kernel) ?_
            repeat (first|refine pq_end rfl ?_|(refine zs rfl ?_ ?_;·repeat' constructor)|(refine zq rfl ?_ ?_;·repeat' constructor)|refine zw rfl ?_|refine zx rfl ?_|refine zb rfl ?_)
            (first|refine zsq rfl (q_idxm rfl rfl rfl rfl rfl (by omega) hsk rfl) ?_|refine zqq rfl (q_idxm rfl rfl rfl rfl rfl (by omega) hsk rfl) ?_)
            repeat (first|refine pq_end rfl ?_|(refine zs rfl ?_ ?_;·repeat' constructor)|(refine zq rfl ?_ ?_;·repeat' constructor)|refine zw rfl ?_|refine zx rfl ?_|refine zb rfl ?_)
            (first|refine zsq rfl (q_callP rfl (end_ref w hw _ hsa) rfl (by repeat' constructor) rfl rfl) ?_|refine zqq rfl (q_callP rfl (end_ref w hw _ hsa) rfl (by repeat' constructor) rfl rfl) ?_)
            repeat (first|refine pq_end rfl ?_|(refine zs rfl ?_ ?_;·repeat' constructor)|(refine zq rfl ?_ ?_;·repeat' constructor)|refine zw rfl ?_|refine zx rfl ?_|refine zb rfl ?_)
            refine pw_cond rfl (fun h => ?_) (fun h => ?_)
            · have hc : w.last < endP x p := of_decide_eq_true h
              clear h
              rw [if_pos hc] at hat
              repeat (first|refine pq_end rfl ?_|(refine zs rfl ?_ ?_;·repeat' constructor)|(refine zq rfl ?_ ?_;·repeat' constructor)|refine zw rfl ?_|refine zx rfl ?_|refine zb rfl ?_)
              (first|refine zsq rfl (q_idxm rfl rfl rfl rfl rfl (by omega) hsk rfl) ?_|refine zqq rfl (q_idxm rfl rfl rfl rfl rfl (by omega) hsk rfl) ?_)
              repeat (first|refine pq_end rfl ?_|(refine zs rfl ?_ ?_;·repeat' constructor)|(refine zq rfl ?_ ?_;·repeat' constructor)|refine zw rfl ?_|refine zx rfl ?_|refine zb rfl ?_)
              (first|refine zsq rfl (q_slit rfl rfl rfl rfl rfl rfl rfl rfl rfl rfl (by repeat' constructor) rfl) ?_|refine zqq rfl (q_slit rfl rfl rfl rfl rfl rfl rfl rfl rfl rfl (by repeat' constructor) rfl) ?_)
              repeat (first|refine pq_end rfl ?_|(refine zs rfl ?_ ?_;·repeat' constructor)|(refine zq rfl ?_ ?_;·repeat' constructor)|refine zw rfl ?_|refine zx rfl ?_|refine zb rfl ?_)
              refine ps_run (o_app 0 rfl rfl rfl rfl rfl rfl rfl rfl rfl rfl rfl (by repeat' constructor) (by intro row hr; first | (simp at hr; subst hr; rfl) | simp at hr) rfl rfl (by simp; omega) (by simp; omega) ?_)
              repeat (first|refine pq_end rfl ?_|(refine zs rfl ?_ ?_;·repeat' constructor)|(refine zq rfl ?_ ?_;·repeat' constructor)|refine zw rfl ?_|refine zx rfl ?_|refine zb rfl ?_)
              refine ⟨k + 1, hlt, by omega, rfl, rfl, ?_, i64_next (by omega) (by omega), rfl, ?_, trivial⟩
              · rw [hstep, hat]; exact als_snoc eBr 6 1 ACC ⟨x.name, [], 16⟩
              · rw [hstep, hat]; exact cont_snoc eBr 1 42 3 0 ACC ⟨x.name, [], 16⟩
            · have hc : ¬ w.last < endP x p := of_decide_eq_false h
              clear h
              rw [if_neg hc] at hat
              repeat (first|refine pq_end rfl ?_|(refine zs rfl ?_ ?_;·repeat' constructor)|(refine zq rfl ?_ ?_;·repeat' constructor)|refine zw rfl ?_|refine zx rfl ?_|refine zb rfl ?_)
              refine ⟨k + 1, hlt, by omega, rfl, rfl, ?_, i64_next (by omega) (by omega), rfl, ?_, trivial⟩
              · rw [hstep, hat, List.append_nil]; rfl
              · rw [hstep, hat, List.append_nil]; rfl
          · have hge : k = q.length := by have := of_decide_eq_false h; omega
            subst hge
            clear h
            repeat (first|refine pq_end rfl ?_|(refine zs rfl ?_ ?_;·repeat' constructor)|(refine zq rfl ?_ ?_;·repeat' constructor)|refine zw rfl ?_|refine zx rfl ?_|refine zb rfl ?_)
            exact end1 rfl rfl rfl ⟨rfl, rfl, rfl⟩ rfl
end Go.Pv

/- The reference's breaches are those of the program; the reference's check of a plan. -/
set_option maxHeartbeats 2000000
namespace Go.Pv
attribute [local irreducible] PWP POps PQuiet PSem XThen XBlock RetPost InlPost
open Go.Proofs

theorem range_getK {α β : Type} {q : List α} {f : α → List β} {g : Nat → List β} (h : ∀ (k : Nat) a, q[k]? = some a → g k = f a) : ∀ k, k ≤ q.length → (List.range k).flatMap g = (q.take k).flatMap f
  | 0, _ => by simp
  | k + 1, hk => by
    obtain ⟨a, ha⟩ := get_lt (show k < q.length by omega)
    rw [range_flatMap, flatMap_snoc ha, range_getK h k (by omega), h k a ha]
theorem range_get {α β : Type} {q : List α} {f : α → List β} {g : Nat → List β} {n : Nat} (hn : n = q.length) (h : ∀ (k : Nat) a, q[k]? = some a → g k = f a) : (List.range n).flatMap g = q.flatMap f := by
  rw [hn, range_getK h _ (Nat.le_refl _), List.take_length]
theorem range'_get {α β : Type} {q : List α} {f : α → List β} {g : Nat → List β} {s : Nat} (h : ∀ (k : Nat) a, q[k]? = some a → g k = f a) : ∀ j, s + j ≤ q.length → (List.range' s j).flatMap g = ((q.drop s).take j).flatMap f
  | 0, _ => by simp
  | j + 1, hj => by
    obtain ⟨a, ha⟩ := get_lt (show s + j < q.length by omega)
    rw [List.range'_1_concat, List.flatMap_append, range'_get h j (by omega), flatMap_snoc (x := a) (by rw [List.getElem?_drop]; exact ha), ← h _ a ha]
    simp
theorem flatMap_on {α β : Type} {f g : α → List β} : ∀ {l : List α}, (∀ x ∈ l, f x = g x) → l.flatMap f = l.flatMap g
  | [], _ => rfl
  | a :: l, h => by rw [List.flatMap_cons, List.flatMap_cons, h a (by simp), flatMap_on fun x hx => h x (by simp [hx])]
theorem flatMap_only {α β : Type} {g : α → List β} {j : Nat} {a : α} : ∀ {l : List α}, l[j]? = some a → (∀ (k : Nat) b, l[k]? = some b → k ≠ j → g b = []) → l.flatMap g = g a
  | [], hj, _ => by simp at hj
  | b :: l, hj, h => by
    rw [List.flatMap_cons]
    cases j with
    | zero =>
      simp at hj
      subst hj
      have : l.flatMap g = [] := by
        rw [List.flatMap_eq_nil_iff]
        intro x hx
        obtain ⟨k, hk, rfl⟩ := List.getElem_of_mem hx
        exact h (k + 1) _ (by simp [hk]) (by omega)
      rw [this, List.append_nil]
    | succ j =>
      rw [h 0 b rfl (by omega), List.nil_append]
      exact flatMap_only (by simpa using hj) fun k c hk hne => h (k + 1) c (by simpa using hk) (by omega)

theorem prs_get {w : SWork} {l : List SPl} {k : Nat} {a : IP} (h : (prs w l)[k]? = some a) : w.items[k]? = some a.1 ∧ l[k]? = some a.2 := by
  obtain ⟨x, p⟩ := a
  rw [prs, List.getElem?_zip_eq_some] at h
  exact h
theorem breachQ_prs {w : SWork} {l : List SPl} (hv : Well w) (hf : Full w l) : breachQ w (prs w l) = breachP w l := by
  have hlen : w.items.length = (prs w l).length := (prs_len hf.toPlan).symm
  have hfin : breachP w l = earlyP w l ++ crowdP w l ++ clashP w l ++ haltP w l ++ lateP w l := by simp [breachP, partsP]
  rw [hfin, breachQ]
  congr 1
  congr 1
  congr 1
  congr 1
  · symm
    refine range_get hlen fun k a ha => ?_
    obtain ⟨hx, hp⟩ := prs_get ha
    have hbx : (bef w).getD k [] = aft w a.1 := by rw [List.getD_eq_getElem?_getD, bef, List.getElem?_map, hx]; rfl
    rw [hbx, aft, List.flatMap_map, earlyA]
    refine flatMap_on fun nm hnm => ?_
    obtain ⟨j, y, hy, hyn, hidx⟩ := known_at hv.good (List.mem_of_getElem? hx) hnm
    obtain ⟨r, hr⟩ := get_lt (show j < l.length by rw [hf.len]; exact (List.getElem?_eq_some_iff.1 hy).1)
    rw [hidx, earlyB, flatMap_only (prs_at hy hr) (fun k b hb hne => ?_)]
    · rw [early1, if_pos hyn, earlyAt, slP_at hp, slP_at hr, itP_at hy, itP_at hx]
    · obtain ⟨hb1, _⟩ := prs_get hb
      rw [early1, if_neg]
      intro he
      have h1 := hv.good.uniq k _ hb1
      have h2 := hv.good.uniq j y hy
      rw [he, ← hyn] at h1
      omega
  · symm
    refine range_get rfl fun k t ht => ?_
    rw [crowdAt, ht]
    show (if t.crew < mostP (peopleP w l t.name) then _ else _) = _
    rw [most_eq (same_A hf t.name)]
    rfl
  · symm
    rw [clashP, atN, clashQ, hlen]
    refine flatMap_on fun i hi => ?_
    have hi := List.mem_range.1 hi
    obtain ⟨a, ha⟩ := get_lt hi
    obtain ⟨hx, hp⟩ := prs_get ha
    rw [clashRow, clashI, ha, range'_get (q := prs w l) (f := clash1 w a) (fun k b hb => ?_) _ (by omega)]
    · show _ = ((prs w l).drop (i + 1)).flatMap (clash1 w a)
      rw [List.take_of_length_le (by rw [List.length_drop]; omega)]
    · obtain ⟨hy, hr⟩ := prs_get hb
      rw [clashAt, slP_at hp, slP_at hr, itP_at hy, itP_at hx, meetP, hf.on i _ hp, hf.on k _ hr]
      rfl
  · symm
    refine range_get hlen fun k a ha => ?_
    obtain ⟨hx, hp⟩ := prs_get ha
    rw [haltAt, slP_at hp, itP_at hx, haltA]
  · symm
    refine range_get hlen fun k a ha => ?_
    obtain ⟨hx, hp⟩ := prs_get ha
    rw [lateAt, slP_at hp, itP_at hx, lateA]

theorem breaches_ref (w : SWork) (hw : Sane w) (s : List SSlot) (hs : s.length ≤ 1000) (h0 : slE w s = 0) : Ret Try.prog .shared 17 [.agg (eWork w), .sl (s.map eSlot)] (.sl ((breachP w (placed w s)).map eBr)) := by
  obtain ⟨hz, _⟩ := slE_parts h0
  obtain ⟨hv, hf⟩ := full_of h0
  have hsort := sorted_ref w (by have := hv.n40; omega) s hs
  rw [sorted_eq h0, ← qS_prs] at hsort
  rw [← breachQ_prs hv hf]
  exact breaches_refQ w hw hv hz s _ (QOk.of_full hv hf) hsort

theorem modes_le {w : SWork} (hv : Well w) : ∀ x ∈ w.items, x.modes.length ≤ 100000 := fun x hx => by have := (hv.item x hx).modes; omega
theorem checkPlan_ref (w : SWork) (hw : Sane w) (s : List SSlot) (hs : s.length ≤ 1000) (hz : workE w = 0) : Ret Try.prog .shared 18 [.agg (eWork w), .sl (s.map eSlot)] (I (planE w s)) := by
  have hv := well_of hz
  have h16 := checkSlots_ref w hw (modes_le hv) s
  have hsl : slE w s = slotsE w s := by rw [slE, if_pos hz]
  rw [← hsl] at h16
  by_cases h0 : slE w s = 0
  · have h17 := breaches_ref w hw s hs h0
    rw [h0] at h16
    have hp : planE w s = firstR (breachP w (placed w s)) := by rw [planE, if_pos h0]
    rw [hp]
    cases hb : breachP w (placed w s) with
    | nil =>
      rw [hb] at h17
      refine Ret.of_pwp layOk mixed Go.Proofs.Try.func18 rfl (by decide) rfl rfl ?_
      repeat (first|refine pq_end rfl ?_|(refine zs rfl ?_ ?_;·repeat' constructor)|(refine zq rfl ?_ ?_;·repeat' constructor)|refine zw rfl ?_|refine zx rfl ?_|refine zb rfl ?_)
      (first|refine zsq rfl (q_callP rfl (h16) rfl (by repeat' constructor) rfl rfl) ?_|refine zqq rfl (q_callP rfl (h16) rfl (by repeat' constructor) rfl rfl) ?_)
      repeat (first|refine pq_end rfl ?_|(refine zs rfl ?_ ?_;·repeat' constructor)|(refine zq rfl ?_ ?_;·repeat' constructor)|refine zw rfl ?_|refine zx rfl ?_|refine zb rfl ?_)
      (first|refine zsq rfl (q_call rfl (h17) rfl (by repeat' constructor) rfl) ?_|refine zqq rfl (q_call rfl (h17) rfl (by repeat' constructor) rfl) ?_)
      repeat (first|refine pq_end rfl ?_|(refine zs rfl ?_ ?_;·repeat' constructor)|(refine zq rfl ?_ ?_;·repeat' constructor)|refine zw rfl ?_|refine zx rfl ?_|refine zb rfl ?_)
      exact end1i rfl rfl rfl
    | cons b l =>
      rw [hb] at h17
      have h0 : (b :: l)[0]? = some b := rfl
      refine Ret.of_pwp layOk mixed Go.Proofs.Try.func18 rfl (by decide) rfl rfl ?_
      repeat (first|refine pq_end rfl ?_|(refine zs rfl ?_ ?_;·repeat' constructor)|(refine zq rfl ?_ ?_;·repeat' constructor)|refine zw rfl ?_|refine zx rfl ?_|refine zb rfl ?_)
      (first|refine zsq rfl (q_callP rfl (h16) rfl (by repeat' constructor) rfl rfl) ?_|refine zqq rfl (q_callP rfl (h16) rfl (by repeat' constructor) rfl rfl) ?_)
      repeat (first|refine pq_end rfl ?_|(refine zs rfl ?_ ?_;·repeat' constructor)|(refine zq rfl ?_ ?_;·repeat' constructor)|refine zw rfl ?_|refine zx rfl ?_|refine zb rfl ?_)
      (first|refine zsq rfl (q_call rfl (h17) rfl (by repeat' constructor) rfl) ?_|refine zqq rfl (q_call rfl (h17) rfl (by repeat' constructor) rfl) ?_)
      repeat (first|refine pq_end rfl ?_|(refine zs rfl ?_ ?_;·repeat' constructor)|(refine zq rfl ?_ ?_;·repeat' constructor)|refine zw rfl ?_|refine zx rfl ?_|refine zb rfl ?_)
      refine pw_cond rfl (fun h => ?_) (fun h => ?_)
      · repeat (first|refine pq_end rfl ?_|(refine zs rfl ?_ ?_;·repeat' constructor)|(refine zq rfl ?_ ?_;·repeat' constructor)|refine zw rfl ?_|refine zx rfl ?_|refine zb rfl ?_)
        (first|refine zsq rfl (q_idxm (n := (((0:Nat):Int) : Int)) rfl rfl rfl rfl rfl (by omega) h0 rfl) ?_|refine zqq rfl (q_idxm (n := (((0:Nat):Int) : Int)) rfl rfl rfl rfl rfl (by omega) h0 rfl) ?_)
        repeat (first|refine pq_end rfl ?_|(refine zs rfl ?_ ?_;·repeat' constructor)|(refine zq rfl ?_ ?_;·repeat' constructor)|refine zw rfl ?_|refine zx rfl ?_|refine zb rfl ?_)
        exact end1i rfl rfl rfl
      · exact absurd (of_decide_eq_false h) (by simp)
  · have hp : planE w s = slE w s := by rw [planE, if_neg h0]
    rw [hp]
    generalize slE w s = e at *
    refine Ret.of_pwp layOk mixed Go.Proofs.Try.func18 rfl (by decide) rfl rfl ?_
    repeat (first|refine pq_end rfl ?_|(refine zs rfl ?_ ?_;·repeat' constructor)|(refine zq rfl ?_ ?_;·repeat' constructor)|refine zw rfl ?_|refine zx rfl ?_|refine zb rfl ?_)
    (first|refine zsq rfl (q_callP rfl (h16) rfl (by repeat' constructor) rfl rfl) ?_|refine zqq rfl (q_callP rfl (h16) rfl (by repeat' constructor) rfl rfl) ?_)
    repeat (first|refine pq_end rfl ?_|(refine zs rfl ?_ ?_;·repeat' constructor)|(refine zq rfl ?_ ?_;·repeat' constructor)|refine zw rfl ?_|refine zx rfl ?_|refine zb rfl ?_)
    refine pw_cond rfl (fun h => ?_) (fun h => ?_)
    · repeat (first|refine pq_end rfl ?_|(refine zs rfl ?_ ?_;·repeat' constructor)|(refine zq rfl ?_ ?_;·repeat' constructor)|refine zw rfl ?_|refine zx rfl ?_|refine zb rfl ?_)
      exact end1i rfl rfl rfl
    · exact absurd (by simpa using h) h0

theorem dec_slot {n : Nat} {cs : List PV} (h : tyP lay.get (n + 2) 82 cs) : ∃ x, cs = eSlot x := by
  obtain ⟨parts, rfl, hl, hp⟩ := tyP_st h rfl
  match parts, hl, hp with
  | [p0, p1, p2], _, hp =>
    obtain ⟨a, rfl⟩ := tyP_str (hp 0 _ p0 rfl rfl) rfl
    obtain ⟨b, rfl⟩ := tyP_int (hp 1 _ p1 rfl rfl) rfl
    obtain ⟨c, rfl⟩ := tyP_int (hp 2 _ p2 rfl rfl) rfl
    exact ⟨⟨a, b, c⟩, rfl⟩
theorem dec_slots {c : PV} (h : argP lay.get 29 c) : ∃ s : List SSlot, c = .sl (s.map eSlot) := by
  obtain ⟨rows, hr, h2⟩ := tyP_sl (show tyP lay.get 6 29 [c] from h) rfl
  cases hr
  obtain ⟨l, rfl⟩ := rows_map (f := eSlot) fun row hrow => dec_slot (h2 row hrow)
  exact ⟨l, rfl⟩
end Go.Pv

/- The example's bound; the laws are awake. -/
set_option maxHeartbeats 2000000
namespace Go.Pv
attribute [local irreducible] PWP POps PQuiet PSem XThen XBlock RetPost InlPost
open Go.Proofs

set_option maxRecDepth 20000 in
theorem pair_best : Ret Try.prog .shared 27 [.agg (eWork pairW)] (.tup [.agg [I 2, .sl [[.str [97]]], .str []], I 0]) := by
  have h20 := checkWork_ret pairW pair_sane
  rw [pair_work] at h20
  have h78 := tradeBound_ret pairW pair_well tradeW (by decide) (by decide)
  rw [show tradeB pairW tradeW = 2 by decide +kernel] at h78
  refine Ret.of_pwp layOk mixed Go.Proofs.Try.func27 rfl (by decide) rfl rfl ?_
  repeat (first|refine pq_end rfl ?_|(refine zs rfl ?_ ?_;·repeat' constructor)|(refine zq rfl ?_ ?_;·repeat' constructor)|refine zw rfl ?_|refine zx rfl ?_|refine zb rfl ?_)
  (first|refine zsq rfl (q_callP rfl (h20) rfl (by repeat' constructor) rfl rfl) ?_|refine zqq rfl (q_callP rfl (h20) rfl (by repeat' constructor) rfl rfl) ?_)
  repeat (first|refine pq_end rfl ?_|(refine zs rfl ?_ ?_;·repeat' constructor)|(refine zq rfl ?_ ?_;·repeat' constructor)|refine zw rfl ?_|refine zx rfl ?_|refine zb rfl ?_)
  (first|refine zsq rfl (q_call rfl (pair_longest) rfl (by repeat' constructor) rfl) ?_|refine zqq rfl (q_call rfl (pair_longest) rfl (by repeat' constructor) rfl) ?_)
  repeat (first|refine pq_end rfl ?_|(refine zs rfl ?_ ?_;·repeat' constructor)|(refine zq rfl ?_ ?_;·repeat' constructor)|refine zw rfl ?_|refine zx rfl ?_|refine zb rfl ?_)
  refine pw_loop (fun (k : Nat) => k ≤ 1) (fun k => [(1, .ptr 1 1 0 0), (2, .ptr 2 1 0 0), (5, .ptr 5 1 0 0), (18, .sl (pairW.trades.map eTrade)), (19, I 1), (20, I k)])
    (fun _ => [(1, 1, ⟨28, 9, [eWork pairW], 2⟩), (2, 1, ⟨60, 3, [[I 0, .nil, .str []]], 2⟩), (5, 1, ⟨60, 3, [[I 2, .sl [[.str [97]]], .str []]], 2⟩)]) (fun k => 1 - k) 0 (by omega) ⟨rfl, rfl, rfl, rfl, rfl, rfl, rfl, rfl, rfl, trivial⟩ ?_
  intro k s hk
  obtain rfl | rfl : k = 0 ∨ k = 1 := by omega
  · repeat (first|refine pq_end rfl ?_|(refine zs rfl ?_ ?_;·repeat' constructor)|(refine zq rfl ?_ ?_;·repeat' constructor)|refine zw rfl ?_|refine zx rfl ?_|refine zb rfl ?_)
    refine zsq rfl (q_idx rfl rfl rfl rfl rfl (by decide) rfl rfl) ?_
    repeat (first|refine pq_end rfl ?_|(refine zs rfl ?_ ?_;·repeat' constructor)|(refine zq rfl ?_ ?_;·repeat' constructor)|refine zw rfl ?_|refine zx rfl ?_|refine zb rfl ?_)
    (first|refine zsq rfl (q_callP rfl (h78) rfl (by repeat' constructor) rfl rfl) ?_|refine zqq rfl (q_callP rfl (h78) rfl (by repeat' constructor) rfl rfl) ?_)
    repeat (first|refine pq_end rfl ?_|(refine zs rfl ?_ ?_;·repeat' constructor)|(refine zq rfl ?_ ?_;·repeat' constructor)|refine zw rfl ?_|refine zx rfl ?_|refine zb rfl ?_)
    exact ⟨1, by omega, by omega, rfl, rfl, rfl, rfl, rfl, rfl, rfl, rfl, rfl, trivial⟩
  · repeat (first|refine pq_end rfl ?_|(refine zs rfl ?_ ?_;·repeat' constructor)|(refine zq rfl ?_ ?_;·repeat' constructor)|refine zw rfl ?_|refine zx rfl ?_|refine zb rfl ?_)
    exact endm rfl (by repeat' constructor) rfl (by repeat' constructor) rfl

set_option maxRecDepth 20000 in
theorem awake_ret : Ret Try.prog .shared 10 [] (.bool true) := by
  have h21 := texts2_ret [[97]] [[97]] (by decide)
  rw [decide_eq_true rfl] at h21
  refine Ret.of_pwp layOk mixed Go.Proofs.Try.func10 rfl (by decide) rfl rfl ?_
  repeat (first|refine pq_end rfl ?_|(refine zs rfl ?_ ?_;·repeat' constructor)|(refine zq rfl ?_ ?_;·repeat' constructor)|refine zw rfl ?_|refine zx rfl ?_|refine zb rfl ?_)
  (first|refine zsq rfl (q_call rfl (pair_ret) rfl (by repeat' constructor) rfl) ?_|refine zqq rfl (q_call rfl (pair_ret) rfl (by repeat' constructor) rfl) ?_)
  repeat (first|refine pq_end rfl ?_|(refine zs rfl ?_ ?_;·repeat' constructor)|(refine zq rfl ?_ ?_;·repeat' constructor)|refine zw rfl ?_|refine zx rfl ?_|refine zb rfl ?_)
  (first|refine zsq rfl (q_slit rfl rfl rfl rfl rfl rfl rfl rfl rfl rfl (by repeat' constructor) rfl) ?_|refine zqq rfl (q_slit rfl rfl rfl rfl rfl rfl rfl rfl rfl rfl (by repeat' constructor) rfl) ?_)
  repeat (first|refine pq_end rfl ?_|(refine zs rfl ?_ ?_;·repeat' constructor)|(refine zq rfl ?_ ?_;·repeat' constructor)|refine zw rfl ?_|refine zx rfl ?_|refine zb rfl ?_)
  (first|refine zsq rfl (q_callP rfl (pair_cost) rfl (by repeat' constructor) rfl rfl) ?_|refine zqq rfl (q_callP rfl (pair_cost) rfl (by repeat' constructor) rfl rfl) ?_)
  repeat (first|refine pq_end rfl ?_|(refine zs rfl ?_ ?_;·repeat' constructor)|(refine zq rfl ?_ ?_;·repeat' constructor)|refine zw rfl ?_|refine zx rfl ?_|refine zb rfl ?_)
  (first|refine zsq rfl (q_call rfl (pair_ret) rfl (by repeat' constructor) rfl) ?_|refine zqq rfl (q_call rfl (pair_ret) rfl (by repeat' constructor) rfl) ?_)
  repeat (first|refine pq_end rfl ?_|(refine zs rfl ?_ ?_;·repeat' constructor)|(refine zq rfl ?_ ?_;·repeat' constructor)|refine zw rfl ?_|refine zx rfl ?_|refine zb rfl ?_)
  (first|refine zsq rfl (q_call rfl (pair_best) rfl (by repeat' constructor) rfl) ?_|refine zqq rfl (q_call rfl (pair_best) rfl (by repeat' constructor) rfl) ?_)
  repeat (first|refine pq_end rfl ?_|(refine zs rfl ?_ ?_;·repeat' constructor)|(refine zq rfl ?_ ?_;·repeat' constructor)|refine zw rfl ?_|refine zx rfl ?_|refine zb rfl ?_)
  (first|refine zsq rfl (q_slit rfl rfl rfl rfl rfl rfl rfl rfl rfl rfl (by repeat' constructor) rfl) ?_|refine zqq rfl (q_slit rfl rfl rfl rfl rfl rfl rfl rfl rfl rfl (by repeat' constructor) rfl) ?_)
  repeat (first|refine pq_end rfl ?_|(refine zs rfl ?_ ?_;·repeat' constructor)|(refine zq rfl ?_ ?_;·repeat' constructor)|refine zw rfl ?_|refine zx rfl ?_|refine zb rfl ?_)
  (first|refine zsq rfl (q_callP rfl (h21) rfl (by repeat' constructor) rfl rfl) ?_|refine zqq rfl (q_callP rfl (h21) rfl (by repeat' constructor) rfl rfl) ?_)
  repeat (first|refine pq_end rfl ?_|(refine zs rfl ?_ ?_;·repeat' constructor)|(refine zq rfl ?_ ?_;·repeat' constructor)|refine zw rfl ?_|refine zx rfl ?_|refine zb rfl ?_)
  exact end1b rfl rfl rfl
end Go.Pv
