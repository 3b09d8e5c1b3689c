/- Texts of one hand, gathered: SdM, SdN, SdO, SdP, SdQ, SdR, SdS, SdT, SdU, SdW, SdX, SdY, SeA, SeB. -/
import Derived.Test.YtfnjhhndbgidmaaFl3
import Derived.KernelRfl
/- The check of work: the program's. -/
set_option maxHeartbeats 2000000
namespace Go.Pv
attribute [local irreducible] PWP POps PQuiet PSem XThen XBlock RetPost InlPost
open Go.Proofs

theorem fstE_map {α β : Type} (f : α → β) : ∀ (l : List α) (g : Nat → β → Int), fstE (l.map f) g = fstE l fun i a => g i (f a)
  | [], _ => rfl
  | a :: l, g => by
    rw [List.map_cons, fstE, fstE, fstE_map f l]
theorem taken_iff {α : Type} {l : List α} {nm : α → Str} {j : Nat} {b : α} (hb : l[j]? = some b) : ((l.map nm).take j).any (· == nm b) = !decide (idx l (fun a => nm a == nm b) = j) := by
  have hp : (fun a => nm a == nm b) b = true := by simp
  cases hany : ((l.map nm).take j).any (· == nm b) with
  | false =>
    have : idx l (fun a => nm a == nm b) = j := by
      refine idx_found hb hp fun i c hi hc => ?_
      rw [List.any_eq_false] at hany
      have hm : nm c ∈ (l.map nm).take j := by
        refine List.mem_of_getElem? (i := i) ?_
        rw [List.getElem?_take, if_pos hi, List.getElem?_map, hc]; rfl
      simpa using hany _ hm
    simp [this]
  | true =>
    have : idx l (fun a => nm a == nm b) ≠ j := by
      intro he
      obtain ⟨x, hx, hxe⟩ := List.any_eq_true.1 hany
      obtain ⟨i, hi, rfl⟩ := List.getElem_of_mem hx
      simp only [List.length_take, List.length_map] at hi
      rcases idx_cases l (fun a => nm a == nm b) with ⟨h1, _⟩ | ⟨i', a, h1, _, _, h4⟩
      · omega
      · have hii : i' = j := by omega
        subst hii
        have hil : i < l.length := by omega
        have := h4 i l[i] (by omega) (List.getElem?_eq_getElem hil)
        simp only [List.getElem_take, List.getElem_map] at hxe
        rw [this] at hxe; cases hxe
    simp [this]
theorem named_eq {α : Type} (l : List α) (nm : α → Str) (most : Int) (own : Nat → Int) (E : α → Int) (h : ∀ (i : Nat) a, l[i]? = some a → own i = E a) :
    namedS (l.map nm) most own = if most < l.length then 8 else fstE l fun i a => if isName (nm a) then (if idx l (fun b => nm b == nm a) = i then E a else 5) else 4 := by
  rw [namedS, List.length_map]
  split
  · rfl
  · rw [fstE_map]
    refine fstE_congr fun j b hb _ => ?_
    rw [taken_iff hb, h j b hb]
    by_cases hi : idx l (fun a => nm a == nm b) = j
    · simp [hi]
    · simp [hi]

def itemsE (w : SWork) : Int := if 40 < w.items.length then 8 else fstE w.items fun i x => if isName x.name then (if idx w.items (·.name == x.name) = i then itemE w x else 5) else 4
def figE (w : SWork) : Bool := inside w.hire 0 1000000000 && inside w.late 0 1000000000 && inside w.due 0 400 && inside w.last 0 400
def workE (w : SWork) : Int :=
  if tradesE w = 0 then (if roomE w = 0 then (if itemsE w = 0 then (if figE w then (if (ordS w).length < w.items.length then 22 else 0) else 2) else itemsE w) else roomE w) else tradesE w

/-- Work whose lists are not too long. -/
structure Sane (w : SWork) : Prop where
  items : w.items.length ≤ 100000
  trades : w.trades.length ≤ 100000
  spaces : w.spaces.length ≤ 100000
  excls : w.excls.length ≤ 100000
  outs : w.outs.length ≤ 100000
  next : ∀ x ∈ w.spaces, x.next.length ≤ 100000
  after : ∀ x ∈ w.items, x.after.length ≤ 100000

theorem itemOwn_ret (w : SWork) (hw : Sane w) (i : Nat) (x : SItem) (hx : w.items[i]? = some x) : Ret Try.prog .shared 71 [I i, .dref (eWork w) 0, .dref [.sl ((w.items.map (·.name)).map eS)] 0] (I (itemE w x)) := by
  have h1 := hw.items
  have h2 := hw.trades
  have h3 := hw.spaces
  have h4 := hw.after x (List.mem_of_getElem? hx)
  refine Ret.of_pwp layOk mixed Go.Proofs.Try.func71 rfl (by decide) rfl rfl ?_
  repeat (first|refine pq_end rfl ?_|(refine zs rfl ?_ ?_;·repeat' constructor)|(refine zq rfl ?_ ?_;·repeat' constructor)|refine zw rfl ?_|refine zx rfl ?_|refine zb rfl ?_)
  refine pw_draw 9 [5, 6, 7, 8, 9, 10, 11, 12, 4] (by decide +kernel) ?_
  repeat (first|refine pq_end rfl ?_|(refine zs rfl ?_ ?_;·repeat' constructor)|(refine zq rfl ?_ ?_;·repeat' constructor)|refine zw rfl ?_|refine zx rfl ?_|refine zb rfl ?_)
  (first|refine zsq rfl (q_idxm rfl rfl rfl rfl rfl (by omega) hx rfl) ?_|refine zqq rfl (q_idxm rfl rfl rfl rfl rfl (by omega) hx rfl) ?_)
  repeat (first|refine pq_end rfl ?_|(refine zs rfl ?_ ?_;·repeat' constructor)|(refine zq rfl ?_ ?_;·repeat' constructor)|refine zw rfl ?_|refine zx rfl ?_|refine zb rfl ?_)
  (first|refine zsq rfl (q_callP rfl (itemErr_ret w x (by omega) (by omega) (by omega) (by omega)) rfl (by repeat' constructor) rfl rfl) ?_|refine zqq rfl (q_callP rfl (itemErr_ret w x (by omega) (by omega) (by omega) (by omega)) rfl (by repeat' constructor) rfl rfl) ?_)
  repeat (first|refine pq_end rfl ?_|(refine zs rfl ?_ ?_;·repeat' constructor)|(refine zq rfl ?_ ?_;·repeat' constructor)|refine zw rfl ?_|refine zx rfl ?_|refine zb rfl ?_)
  exact end1i rfl rfl rfl

def ownT (w : SWork) (i : Nat) : Int := match w.trades[i]? with | some t => tradeE t | none => 0
def ownS (w : SWork) (i : Nat) : Int := match w.spaces[i]? with | some t => spaceE w t | none => 0
def ownI (w : SWork) (i : Nat) : Int := match w.items[i]? with | some t => itemE w t | none => 0

theorem checkWork_ret (w : SWork) (hw : Sane w) : Ret Try.prog .shared 20 [.agg (eWork w)] (I (workE w)) := by
  have h1 := hw.items
  have h2 := hw.trades
  have h3 := hw.spaces
  have h4 := hw.excls
  have h5 := hw.outs
  have eT : namedS (w.trades.map (·.name)) 6 (ownT w) = tradesE w := by
    rw [named_eq _ _ _ _ tradeE (fun i a ha => by rw [ownT, ha])]; rw [tradesE]
    by_cases h : 6 < w.trades.length
    · rw [if_pos (by omega), if_pos h]
    · rw [if_neg (by omega), if_neg h]
  have eSp : namedS (w.spaces.map (·.name)) 12 (ownS w) = spacesE w := by
    rw [named_eq _ _ _ _ (spaceE w) (fun i a ha => by rw [ownS, ha])]; rw [spacesE]
    by_cases h : 12 < w.spaces.length
    · rw [if_pos (by omega), if_pos h]
    · rw [if_neg (by omega), if_neg h]
  have eI' : namedS (w.items.map (·.name)) 40 (ownI w) = itemsE w := by
    rw [named_eq _ _ _ _ (itemE w) (fun i a ha => by rw [ownI, ha])]; rw [itemsE]
    by_cases h : 40 < w.items.length
    · rw [if_pos (by omega), if_pos h]
    · rw [if_neg (by omega), if_neg h]
  have hol : ((ordS w).map eI).length = (ordS w).length := by simp
  have hml : (w.items.map eItem).length = w.items.length := by simp
  refine Ret.of_pwp layOk mixed Go.Proofs.Try.func20 rfl (by decide) rfl rfl ?_
  repeat (first|refine pq_end rfl ?_|(refine zs rfl ?_ ?_;·repeat' constructor)|(refine zq rfl ?_ ?_;·repeat' constructor)|refine zw rfl ?_|refine zx rfl ?_|refine zb rfl ?_)
  (first|refine zsq rfl (q_call rfl (tradeNames_ret w (by omega)) rfl (by repeat' constructor) rfl) ?_|refine zqq rfl (q_call rfl (tradeNames_ret w (by omega)) rfl (by repeat' constructor) rfl) ?_)
  repeat (first|refine pq_end rfl ?_|(refine zs rfl ?_ ?_;·repeat' constructor)|(refine zq rfl ?_ ?_;·repeat' constructor)|refine zw rfl ?_|refine zx rfl ?_|refine zb rfl ?_)
  (first|refine zsq rfl (q_callP rfl (named_ret1 (w.trades.map (·.name)) 6 (by omega) 62 (eWork w) (ownT w) (fun i hi => by obtain ⟨t, ht⟩ := get_lt (by simpa using hi : i < w.trades.length); have := tradeOwn_ret w i t ht; rwa [show tradeE t = ownT w i by rw [ownT, ht]] at this)) rfl (by repeat' constructor) rfl rfl) ?_|refine zqq rfl (q_callP rfl (named_ret1 (w.trades.map (·.name)) 6 (by omega) 62 (eWork w) (ownT w) (fun i hi => by obtain ⟨t, ht⟩ := get_lt (by simpa using hi : i < w.trades.length); have := tradeOwn_ret w i t ht; rwa [show tradeE t = ownT w i by rw [ownT, ht]] at this)) rfl (by repeat' constructor) rfl rfl) ?_)
  rw [eT]
  repeat (first|refine pq_end rfl ?_|(refine zs rfl ?_ ?_;·repeat' constructor)|(refine zq rfl ?_ ?_;·repeat' constructor)|refine zw rfl ?_|refine zx rfl ?_|refine zb rfl ?_)
  refine pw_cond rfl (fun h => ?_) (fun h => ?_)
  · have hne : ¬ tradesE w = 0 := by simpa using h
    repeat (first|refine pq_end rfl ?_|(refine zs rfl ?_ ?_;·repeat' constructor)|(refine zq rfl ?_ ?_;·repeat' constructor)|refine zw rfl ?_|refine zx rfl ?_|refine zb rfl ?_)
    exact end1i rfl rfl (by rw [workE, if_neg hne])
  have hz1 : tradesE w = 0 := by simpa using h
  clear h
  repeat (first|refine pq_end rfl ?_|(refine zs rfl ?_ ?_;·repeat' constructor)|(refine zq rfl ?_ ?_;·repeat' constructor)|refine zw rfl ?_|refine zx rfl ?_|refine zb rfl ?_)
  (first|refine zsq rfl (q_call rfl (spaceNames_ret w (by omega)) rfl (by repeat' constructor) rfl) ?_|refine zqq rfl (q_call rfl (spaceNames_ret w (by omega)) rfl (by repeat' constructor) rfl) ?_)
  repeat (first|refine pq_end rfl ?_|(refine zs rfl ?_ ?_;·repeat' constructor)|(refine zq rfl ?_ ?_;·repeat' constructor)|refine zw rfl ?_|refine zx rfl ?_|refine zb rfl ?_)
  (first|refine zsq rfl (q_callP rfl (named_ret2 (w.spaces.map (·.name)) 12 (by omega) 65 (eWork w) [.sl ((w.spaces.map (·.name)).map eS)] (ownS w) (fun i hi => by obtain ⟨t, ht⟩ := get_lt (by simpa using hi : i < w.spaces.length); have hnx := hw.next t (List.mem_of_getElem? ht); have := spaceOwn_ret w (by omega) i t ht (by omega); rwa [show spaceE w t = ownS w i by rw [ownS, ht]] at this)) rfl (by repeat' constructor) rfl rfl) ?_|refine zqq rfl (q_callP rfl (named_ret2 (w.spaces.map (·.name)) 12 (by omega) 65 (eWork w) [.sl ((w.spaces.map (·.name)).map eS)] (ownS w) (fun i hi => by obtain ⟨t, ht⟩ := get_lt (by simpa using hi : i < w.spaces.length); have hnx := hw.next t (List.mem_of_getElem? ht); have := spaceOwn_ret w (by omega) i t ht (by omega); rwa [show spaceE w t = ownS w i by rw [ownS, ht]] at this)) rfl (by repeat' constructor) rfl rfl) ?_)
  rw [eSp]
  repeat (first|refine pq_end rfl ?_|(refine zs rfl ?_ ?_;·repeat' constructor)|(refine zq rfl ?_ ?_;·repeat' constructor)|refine zw rfl ?_|refine zx rfl ?_|refine zb rfl ?_)
  refine pw_cond rfl (fun h => ?_) (fun h => ?_)
  · have hne : ¬ spacesE w = 0 := by simpa using h
    repeat (first|refine pq_end rfl ?_|(refine zs rfl ?_ ?_;·repeat' constructor)|(refine zq rfl ?_ ?_;·repeat' constructor)|refine zw rfl ?_|refine zx rfl ?_|refine zb rfl ?_)
    exact end1i rfl rfl (by have : roomE w = spacesE w := (by rw [roomE, if_neg hne]); rw [workE, if_pos hz1, this, if_neg hne])
  have hz2 : spacesE w = 0 := by simpa using h
  have hro : roomE w = rulesE w := by rw [roomE, if_pos hz2]
  clear h
  repeat (first|refine pq_end rfl ?_|(refine zs rfl ?_ ?_;·repeat' constructor)|(refine zq rfl ?_ ?_;·repeat' constructor)|refine zw rfl ?_|refine zx rfl ?_|refine zb rfl ?_)
  (first|refine zsq rfl (q_callP rfl (rulesErr_ret w (by omega) (by omega)) rfl (by repeat' constructor) rfl rfl) ?_|refine zqq rfl (q_callP rfl (rulesErr_ret w (by omega) (by omega)) rfl (by repeat' constructor) rfl rfl) ?_)
  rw [← hro]
  repeat (first|refine pq_end rfl ?_|(refine zs rfl ?_ ?_;·repeat' constructor)|(refine zq rfl ?_ ?_;·repeat' constructor)|refine zw rfl ?_|refine zx rfl ?_|refine zb rfl ?_)
  refine pw_cond rfl (fun h => ?_) (fun h => ?_)
  · have hne : ¬ roomE w = 0 := by simpa using h
    repeat (first|refine pq_end rfl ?_|(refine zs rfl ?_ ?_;·repeat' constructor)|(refine zq rfl ?_ ?_;·repeat' constructor)|refine zw rfl ?_|refine zx rfl ?_|refine zb rfl ?_)
    exact end1i rfl rfl (by rw [workE, if_pos hz1, if_neg hne])
  have hz3 : roomE w = 0 := by simpa using h
  clear h
  repeat (first|refine pq_end rfl ?_|(refine zs rfl ?_ ?_;·repeat' constructor)|(refine zq rfl ?_ ?_;·repeat' constructor)|refine zw rfl ?_|refine zx rfl ?_|refine zb rfl ?_)
  (first|refine zsq rfl (q_call rfl (itemNames_ret w (by omega)) rfl (by repeat' constructor) rfl) ?_|refine zqq rfl (q_call rfl (itemNames_ret w (by omega)) rfl (by repeat' constructor) rfl) ?_)
  repeat (first|refine pq_end rfl ?_|(refine zs rfl ?_ ?_;·repeat' constructor)|(refine zq rfl ?_ ?_;·repeat' constructor)|refine zw rfl ?_|refine zx rfl ?_|refine zb rfl ?_)
  (first|refine zsq rfl (q_callP rfl (named_ret2 (w.items.map (·.name)) 40 (by omega) 71 (eWork w) [.sl ((w.items.map (·.name)).map eS)] (ownI w) (fun i hi => by obtain ⟨t, ht⟩ := get_lt (by simpa using hi : i < w.items.length); have := itemOwn_ret w hw i t ht; rwa [show itemE w t = ownI w i by rw [ownI, ht]] at this)) rfl (by repeat' constructor) rfl rfl) ?_|refine zqq rfl (q_callP rfl (named_ret2 (w.items.map (·.name)) 40 (by omega) 71 (eWork w) [.sl ((w.items.map (·.name)).map eS)] (ownI w) (fun i hi => by obtain ⟨t, ht⟩ := get_lt (by simpa using hi : i < w.items.length); have := itemOwn_ret w hw i t ht; rwa [show itemE w t = ownI w i by rw [ownI, ht]] at this)) rfl (by repeat' constructor) rfl rfl) ?_)
  rw [eI']
  repeat (first|refine pq_end rfl ?_|(refine zs rfl ?_ ?_;·repeat' constructor)|(refine zq rfl ?_ ?_;·repeat' constructor)|refine zw rfl ?_|refine zx rfl ?_|refine zb rfl ?_)
  refine pw_cond rfl (fun h => ?_) (fun h => ?_)
  · have hne : ¬ itemsE w = 0 := by simpa using h
    repeat (first|refine pq_end rfl ?_|(refine zs rfl ?_ ?_;·repeat' constructor)|(refine zq rfl ?_ ?_;·repeat' constructor)|refine zw rfl ?_|refine zx rfl ?_|refine zb rfl ?_)
    exact end1i rfl rfl (by rw [workE, if_pos hz1, if_pos hz3, if_neg hne])
  have hz4 : itemsE w = 0 := by simpa using h
  clear h
  have it : workE w = if figE w then (if (ordS w).length < w.items.length then 22 else 0) else 2 := by rw [workE, if_pos hz1, if_pos hz3, if_pos hz4]
  repeat (first|refine pq_end rfl ?_|(refine zs rfl ?_ ?_;·repeat' constructor)|(refine zq rfl ?_ ?_;·repeat' constructor)|refine zw rfl ?_|refine zx rfl ?_|refine zb rfl ?_)
  (first|refine zsq rfl (q_callP rfl (within_ret w.hire 1000000000) rfl (by repeat' constructor) rfl rfl) ?_|refine zqq rfl (q_callP rfl (within_ret w.hire 1000000000) rfl (by repeat' constructor) rfl rfl) ?_)
  repeat (first|refine pq_end rfl ?_|(refine zs rfl ?_ ?_;·repeat' constructor)|(refine zq rfl ?_ ?_;·repeat' constructor)|refine zw rfl ?_|refine zx rfl ?_|refine zb rfl ?_)
  (first | refine ps_split rfl rfl (fun h => ?_) (fun h => ?_) | refine pq_split rfl rfl (fun h => ?_) (fun h => ?_))
  · have hf : ¬ figE w = true := by simp_all [figE]
    repeat (first|refine pq_end rfl ?_|(refine zs rfl ?_ ?_;·repeat' constructor)|(refine zq rfl ?_ ?_;·repeat' constructor)|refine zw rfl ?_|refine zx rfl ?_|refine zb rfl ?_)
    exact end1i rfl rfl (by rw [it, if_neg hf])
  have f1 : inside w.hire 0 1000000000 = true := by simpa using h
  clear h
  repeat (first|refine pq_end rfl ?_|(refine zs rfl ?_ ?_;·repeat' constructor)|(refine zq rfl ?_ ?_;·repeat' constructor)|refine zw rfl ?_|refine zx rfl ?_|refine zb rfl ?_)
  (first|refine zsq rfl (q_callP rfl (within_ret w.late 1000000000) rfl (by repeat' constructor) rfl rfl) ?_|refine zqq rfl (q_callP rfl (within_ret w.late 1000000000) rfl (by repeat' constructor) rfl rfl) ?_)
  repeat (first|refine pq_end rfl ?_|(refine zs rfl ?_ ?_;·repeat' constructor)|(refine zq rfl ?_ ?_;·repeat' constructor)|refine zw rfl ?_|refine zx rfl ?_|refine zb rfl ?_)
  (first | refine ps_split rfl rfl (fun h => ?_) (fun h => ?_) | refine pq_split rfl rfl (fun h => ?_) (fun h => ?_))
  · have hf : ¬ figE w = true := by simp_all [figE]
    repeat (first|refine pq_end rfl ?_|(refine zs rfl ?_ ?_;·repeat' constructor)|(refine zq rfl ?_ ?_;·repeat' constructor)|refine zw rfl ?_|refine zx rfl ?_|refine zb rfl ?_)
    exact end1i rfl rfl (by rw [it, if_neg hf])
  have f2 : inside w.late 0 1000000000 = true := by simpa using h
  clear h
  repeat (first|refine pq_end rfl ?_|(refine zs rfl ?_ ?_;·repeat' constructor)|(refine zq rfl ?_ ?_;·repeat' constructor)|refine zw rfl ?_|refine zx rfl ?_|refine zb rfl ?_)
  (first|refine zsq rfl (q_callP rfl (within_ret w.due 400) rfl (by repeat' constructor) rfl rfl) ?_|refine zqq rfl (q_callP rfl (within_ret w.due 400) rfl (by repeat' constructor) rfl rfl) ?_)
  repeat (first|refine pq_end rfl ?_|(refine zs rfl ?_ ?_;·repeat' constructor)|(refine zq rfl ?_ ?_;·repeat' constructor)|refine zw rfl ?_|refine zx rfl ?_|refine zb rfl ?_)
  (first | refine ps_split rfl rfl (fun h => ?_) (fun h => ?_) | refine pq_split rfl rfl (fun h => ?_) (fun h => ?_))
  · have hf : ¬ figE w = true := by simp_all [figE]
    repeat (first|refine pq_end rfl ?_|(refine zs rfl ?_ ?_;·repeat' constructor)|(refine zq rfl ?_ ?_;·repeat' constructor)|refine zw rfl ?_|refine zx rfl ?_|refine zb rfl ?_)
    exact end1i rfl rfl (by rw [it, if_neg hf])
  have f3 : inside w.due 0 400 = true := by simpa using h
  clear h
  repeat (first|refine pq_end rfl ?_|(refine zs rfl ?_ ?_;·repeat' constructor)|(refine zq rfl ?_ ?_;·repeat' constructor)|refine zw rfl ?_|refine zx rfl ?_|refine zb rfl ?_)
  (first|refine zsq rfl (q_callP rfl (within_ret w.last 400) rfl (by repeat' constructor) rfl rfl) ?_|refine zqq rfl (q_callP rfl (within_ret w.last 400) rfl (by repeat' constructor) rfl rfl) ?_)
  repeat (first|refine pq_end rfl ?_|(refine zs rfl ?_ ?_;·repeat' constructor)|(refine zq rfl ?_ ?_;·repeat' constructor)|refine zw rfl ?_|refine zx rfl ?_|refine zb rfl ?_)
  refine pw_cond rfl (fun h => ?_) (fun h => ?_)
  · have hf : ¬ figE w = true := by simp_all [figE]
    repeat (first|refine pq_end rfl ?_|(refine zs rfl ?_ ?_;·repeat' constructor)|(refine zq rfl ?_ ?_;·repeat' constructor)|refine zw rfl ?_|refine zx rfl ?_|refine zb rfl ?_)
    exact end1i rfl rfl (by rw [it, if_neg hf])
  have f4 : inside w.last 0 400 = true := by simpa using h
  clear h
  have hf : figE w = true := by rw [figE, f1, f2, f3, f4]; rfl
  rw [if_pos hf] at it
  repeat (first|refine pq_end rfl ?_|(refine zs rfl ?_ ?_;·repeat' constructor)|(refine zq rfl ?_ ?_;·repeat' constructor)|refine zw rfl ?_|refine zx rfl ?_|refine zb rfl ?_)
  refine pw_draw 7 [57, 58, 59, 60, 61, 62, 63] (by decide +kernel) ?_
  repeat (first|refine pq_end rfl ?_|(refine zs rfl ?_ ?_;·repeat' constructor)|(refine zq rfl ?_ ?_;·repeat' constructor)|refine zw rfl ?_|refine zx rfl ?_|refine zb rfl ?_)
  (first|refine zsq rfl (q_call rfl (ordered_ret w h1 hw.after) rfl (by repeat' constructor) rfl) ?_|refine zqq rfl (q_call rfl (ordered_ret w h1 hw.after) rfl (by repeat' constructor) rfl) ?_)
  repeat (first|refine pq_end rfl ?_|(refine zs rfl ?_ ?_;·repeat' constructor)|(refine zq rfl ?_ ?_;·repeat' constructor)|refine zw rfl ?_|refine zx rfl ?_|refine zb rfl ?_)
  refine pw_cond rfl (fun h => ?_) (fun h => ?_)
  · have hlt := of_decide_eq_true h
    repeat (first|refine pq_end rfl ?_|(refine zs rfl ?_ ?_;·repeat' constructor)|(refine zq rfl ?_ ?_;·repeat' constructor)|refine zw rfl ?_|refine zx rfl ?_|refine zb rfl ?_)
    exact end1i rfl rfl (by rw [it, if_pos (by omega)])
  · have hlt := of_decide_eq_false h
    repeat (first|refine pq_end rfl ?_|(refine zs rfl ?_ ?_;·repeat' constructor)|(refine zq rfl ?_ ?_;·repeat' constructor)|refine zw rfl ?_|refine zx rfl ?_|refine zb rfl ?_)
    exact end1i rfl rfl (by rw [it, if_neg (by omega)])
end Go.Pv

/- The first order: the document's. -/
set_option maxHeartbeats 2000000
namespace Go.Pv
attribute [local irreducible] PWP POps PQuiet PSem XThen XBlock RetPost InlPost
open Go.Proofs

def inB (out : List Str) (s : Str) : Bool := out.any (· == s)
/-- Whether an item may come next. -/
def fitR (out : List Str) (x : SItem) : Bool := !inB out x.name && x.after.all (inB out)
def nextR (w : SWork) (out : List Str) : Int := idx w.items (fitR out)
def refOrdF : Nat → SWork → List Str → List Str
  | 0, _, out => out
  | f + 1, w, out => match w.items.find? (fitR out) with | some x => refOrdF f w (out ++ [x.name]) | none => out
def leftR (w : SWork) (out : List Str) : Nat := (w.items.filter fun x => !inB out x.name).length
def refOrd (w : SWork) : List Str := refOrdF w.items.length w []

theorem leftR_step (w : SWork) (out : List Str) (x : SItem) (hx : x ∈ w.items) (hn : inB out x.name = false) : leftR w (out ++ [x.name]) < leftR w out := by
  unfold leftR
  have : ∀ l : List SItem, x ∈ l → (l.filter fun y => !inB (out ++ [x.name]) y.name).length < (l.filter fun y => !inB out y.name).length := by
    have hle : ∀ l : List SItem, (l.filter fun y => !inB (out ++ [x.name]) y.name).length ≤ (l.filter fun y => !inB out y.name).length := by
      intro l
      induction l with
      | nil => simp
      | cons y l ih =>
        rw [List.filter_cons, List.filter_cons]
        cases h1 : inB out y.name with
        | true =>
          have : inB (out ++ [x.name]) y.name = true := by unfold inB at *; rw [List.any_append, h1]; rfl
          simp [this]; exact ih
        | false =>
          cases h2 : inB (out ++ [x.name]) y.name <;> simp <;> omega
    intro l hl
    induction l with
    | nil => cases hl
    | cons y l ih =>
      rcases List.mem_cons.1 hl with rfl | hl
      · have h2 : inB (out ++ [x.name]) x.name = true := by unfold inB; simp
        rw [List.filter_cons, List.filter_cons, hn, h2]
        have := hle l
        simp; omega
      · have := ih hl
        rw [List.filter_cons, List.filter_cons]
        cases h1 : inB out y.name with
        | true =>
          have : inB (out ++ [x.name]) y.name = true := by unfold inB at *; rw [List.any_append, h1]; rfl
          simp [this]; omega
        | false =>
          cases h2 : inB (out ++ [x.name]) y.name <;> simp <;> omega
  exact this _ hx

theorem find_none {α : Type} {l : List α} {p : α → Bool} (h : ∀ (j : Nat) b, l[j]? = some b → p b = false) : l.find? p = none := by
  rw [List.find?_eq_none]
  intro x hx
  obtain ⟨j, hj, rfl⟩ := List.getElem_of_mem hx
  simp [h j _ (List.getElem?_eq_getElem hj)]
theorem find_some {α : Type} {l : List α} {p : α → Bool} {k : Nat} {x : α} (hk : l[k]? = some x) (hp : p x = true) (h : ∀ (j : Nat) b, j < k → l[j]? = some b → p b = false) : l.find? p = some x := by
  rw [List.find?_eq_some_iff_getElem]
  obtain ⟨hl, he⟩ := List.getElem?_eq_some_iff.1 hk
  exact ⟨hp, k, hl, he, fun j hj => by simp [h j l[j] hj (List.getElem?_eq_getElem _)]⟩

def NextR (w : SWork) (out : List Str) (i : Nat) (nx : Int) : Prop :=
  (nx = -1 ∧ Clear w.items (fitR out) i) ∨ ∃ (k : Nat) (x : SItem), nx = k ∧ i = k + 1 ∧ w.items[k]? = some x ∧ fitR out x = true ∧ Clear w.items (fitR out) k

theorem order_ref (w : SWork) (hw : Sane w) : Ret Try.prog .shared 22 [.agg (eWork w)] (.sl ((refOrd w).map eS)) := by
  have h1 := hw.items
  have hml : (w.items.map eItem).length = w.items.length := by simp
  refine Ret.of_pwp layOk mixed Go.Proofs.Try.func22 rfl (by decide) rfl rfl ?_
  ((repeat (first | refine ps_nil ?_ | refine pq_nil ?_ | refine x_norm ?_ | refine pw_seq ?_)); refine pw_region ?_)
  refine ps_run (o_box rfl rfl rfl (by repeat' constructor) rfl ?_)
  refine ps_v rfl trivial ?_
  ((repeat (first | refine ps_nil ?_ | refine pq_nil ?_ | refine x_norm ?_ | refine pw_seq ?_)); refine pw_region ?_)
  (first | refine ps_run (o_nilm 9 1 0 rfl rfl ?_) | refine ps_run (o_nila 9 1 0 rfl rfl ?_))
  repeat (first|refine pq_end rfl ?_|(refine zs rfl ?_ ?_;·repeat' constructor)|(refine zq rfl ?_ ?_;·repeat' constructor)|refine zw rfl ?_|refine zx rfl ?_|refine zb rfl ?_)
  refine pw_loop (fun out : List Str => leftR w out ≤ w.items.length - out.length ∧ out.length ≤ w.items.length ∧ refOrd w = refOrdF (w.items.length - out.length) w out) (fun out => [(1, .ptr 1 1 0 0), (3, .als 3 (1 + out.length) 0 (out.map eS).length)]) (fun out => [(1, 1, ⟨28, 9, [eWork w], 2⟩), (3, 1 + out.length, ⟨9, 1, out.map eS, 0⟩)])
    (fun out => leftR w out) [] ⟨List.length_filter_le _ _, by simp, rfl⟩ ⟨rfl, rfl, rfl, rfl, trivial⟩ ?_
  rintro out s ⟨hle, hol, hro⟩
  repeat (first|refine pq_end rfl ?_|(refine zs rfl ?_ ?_;·repeat' constructor)|(refine zq rfl ?_ ?_;·repeat' constructor)|refine zw rfl ?_|refine zx rfl ?_|refine zb rfl ?_)
  refine pw_loop (fun p : Nat × Int => NextR w out p.1 p.2) (fun p => [(1, .ptr 1 1 0 0), (3, .als 3 (1 + out.length) 0 (out.map eS).length), (4, I p.2), (5, I p.1)]) (fun _ => [(1, 1, ⟨28, 9, [eWork w], 2⟩), (3, 1 + out.length, ⟨9, 1, out.map eS, 0⟩)])
    (fun p => w.items.length - p.1) (0, -1) (.inl ⟨rfl, .zero⟩) ⟨rfl, rfl, rfl, rfl, rfl, rfl, trivial⟩ ?_
  rintro ⟨i, nx⟩ s' hnx
  rcases hnx with ⟨rfl, hcl⟩ | ⟨k, x, rfl, rfl, hx, hfit, hcl⟩
  · repeat (first|refine pq_end rfl ?_|(refine zs rfl ?_ ?_;·repeat' constructor)|(refine zq rfl ?_ ?_;·repeat' constructor)|refine zw rfl ?_|refine zx rfl ?_|refine zb rfl ?_)
    (first | refine ps_split rfl rfl (fun h => ?_) (fun h => ?_) | refine pq_split rfl rfl (fun h => ?_) (fun h => ?_))
    · have hlt : i < w.items.length := by have := of_decide_eq_true h; omega
      clear h
      obtain ⟨x, hx⟩ := get_lt hlt
      have hax := hw.after x (List.mem_of_getElem? hx)
      have hml2 : (x.after.map eS).length = x.after.length := by simp
      repeat (first|refine pq_end rfl ?_|(refine zs rfl ?_ ?_;·repeat' constructor)|(refine zq rfl ?_ ?_;·repeat' constructor)|refine zw rfl ?_|refine zx rfl ?_|refine zb rfl ?_)
      (first|refine zsq rfl (q_idxm rfl rfl rfl rfl rfl (by omega) hx rfl) ?_|refine zqq rfl (q_idxm rfl rfl rfl rfl rfl (by omega) hx rfl) ?_)
      repeat (first|refine pq_end rfl ?_|(refine zs rfl ?_ ?_;·repeat' constructor)|(refine zq rfl ?_ ?_;·repeat' constructor)|refine zw rfl ?_|refine zx rfl ?_|refine zb rfl ?_)
      (first|refine zsq rfl (q_callP rfl (among_ret out x.name (by omega)) rfl (by repeat' constructor) rfl rfl) ?_|refine zqq rfl (q_callP rfl (among_ret out x.name (by omega)) rfl (by repeat' constructor) rfl rfl) ?_)
      repeat (first|refine pq_end rfl ?_|(refine zs rfl ?_ ?_;·repeat' constructor)|(refine zq rfl ?_ ?_;·repeat' constructor)|refine zw rfl ?_|refine zx rfl ?_|refine zb rfl ?_)
      refine pw_loop (fun k : Nat => k ≤ x.after.length) (fun k => [(1, .ptr 1 1 0 0), (3, .als 3 (1 + out.length) 0 (out.map eS).length), (4, I (-1)), (5, I i), (6, .bool (!inB out x.name && (x.after.take k).all (inB out))), (7, I k)])
        (fun _ => [(1, 1, ⟨28, 9, [eWork w], 2⟩), (3, 1 + out.length, ⟨9, 1, out.map eS, 0⟩)]) (fun k => x.after.length - k) 0 (Nat.zero_le _) ⟨rfl, rfl, rfl, rfl, ?_, rfl, rfl, rfl, trivial⟩ ?_
      · show PV.bool (!inB out x.name) = _
        simp
      intro k s'' hk
      repeat (first|refine pq_end rfl ?_|(refine zs rfl ?_ ?_;·repeat' constructor)|(refine zq rfl ?_ ?_;·repeat' constructor)|refine zw rfl ?_|refine zx rfl ?_|refine zb rfl ?_)
      (first|refine zsq rfl (q_idxm rfl rfl rfl rfl rfl (by omega) hx rfl) ?_|refine zqq rfl (q_idxm rfl rfl rfl rfl rfl (by omega) hx rfl) ?_)
      repeat (first|refine pq_end rfl ?_|(refine zs rfl ?_ ?_;·repeat' constructor)|(refine zq rfl ?_ ?_;·repeat' constructor)|refine zw rfl ?_|refine zx rfl ?_|refine zb rfl ?_)
      refine pw_cond rfl (fun h => ?_) (fun h => ?_)
      · have hlt' : k < x.after.length := by have := of_decide_eq_true h; omega
        clear h
        obtain ⟨y, hy⟩ := get_lt hlt'
        have htk : (x.after.take (k + 1)).all (inB out) = ((x.after.take k).all (inB out) && inB out y) := by rw [take_snoc hy, List.all_append]; simp
        repeat (first|refine pq_end rfl ?_|(refine zs rfl ?_ ?_;·repeat' constructor)|(refine zq rfl ?_ ?_;·repeat' constructor)|refine zw rfl ?_|refine zx rfl ?_|refine zb rfl ?_)
        (first | refine ps_split rfl rfl (fun h => ?_) (fun h => ?_) | refine pq_split rfl rfl (fun h => ?_) (fun h => ?_))
        · repeat (first|refine pq_end rfl ?_|(refine zs rfl ?_ ?_;·repeat' constructor)|(refine zq rfl ?_ ?_;·repeat' constructor)|refine zw rfl ?_|refine zx rfl ?_|refine zb rfl ?_)
          (first|refine zsq rfl (q_idxm rfl rfl rfl rfl rfl (by omega) hx rfl) ?_|refine zqq rfl (q_idxm rfl rfl rfl rfl rfl (by omega) hx rfl) ?_)
          repeat (first|refine pq_end rfl ?_|(refine zs rfl ?_ ?_;·repeat' constructor)|(refine zq rfl ?_ ?_;·repeat' constructor)|refine zw rfl ?_|refine zx rfl ?_|refine zb rfl ?_)
          (first|refine zsq rfl (q_idxm rfl rfl rfl rfl rfl (by omega) hy rfl) ?_|refine zqq rfl (q_idxm rfl rfl rfl rfl rfl (by omega) hy rfl) ?_)
          repeat (first|refine pq_end rfl ?_|(refine zs rfl ?_ ?_;·repeat' constructor)|(refine zq rfl ?_ ?_;·repeat' constructor)|refine zw rfl ?_|refine zx rfl ?_|refine zb rfl ?_)
          (first|refine zsq rfl (q_callP rfl (among_ret out y (by omega)) rfl (by repeat' constructor) rfl rfl) ?_|refine zqq rfl (q_callP rfl (among_ret out y (by omega)) rfl (by repeat' constructor) rfl rfl) ?_)
          repeat (first|refine pq_end rfl ?_|(refine zs rfl ?_ ?_;·repeat' constructor)|(refine zq rfl ?_ ?_;·repeat' constructor)|refine zw rfl ?_|refine zx rfl ?_|refine zb rfl ?_)
          refine ⟨k + 1, hlt', by omega, rfl, rfl, rfl, rfl, ?_, ?_, rfl, rfl, trivial⟩
          · rw [htk, ← Bool.and_assoc, h]; rfl
          · exact i64_next (by omega) (by omega)
        · repeat (first|refine pq_end rfl ?_|(refine zs rfl ?_ ?_;·repeat' constructor)|(refine zq rfl ?_ ?_;·repeat' constructor)|refine zw rfl ?_|refine zx rfl ?_|refine zb rfl ?_)
          refine ⟨k + 1, hlt', by omega, rfl, rfl, rfl, rfl, ?_, ?_, rfl, rfl, trivial⟩
          · rw [htk, ← Bool.and_assoc, h]; rfl
          · exact i64_next (by omega) (by omega)
      · have hge : k = x.after.length := by have := of_decide_eq_false h; omega
        subst hge
        rw [List.take_length]
        clear h
        repeat (first|refine pq_end rfl ?_|(refine zs rfl ?_ ?_;·repeat' constructor)|(refine zq rfl ?_ ?_;·repeat' constructor)|refine zw rfl ?_|refine zx rfl ?_|refine zb rfl ?_)
        refine pw_cond rfl (fun h => ?_) (fun h => ?_)
        · repeat (first|refine pq_end rfl ?_|(refine zs rfl ?_ ?_;·repeat' constructor)|(refine zq rfl ?_ ?_;·repeat' constructor)|refine zw rfl ?_|refine zx rfl ?_|refine zb rfl ?_)
          refine ⟨(i + 1, (i : Int)), .inr ⟨i, x, rfl, rfl, hx, h, hcl⟩, by simp; omega, rfl, rfl, rfl, ?_, rfl, rfl, trivial⟩
          exact i64_next (by omega) (by omega)
        · repeat (first|refine pq_end rfl ?_|(refine zs rfl ?_ ?_;·repeat' constructor)|(refine zq rfl ?_ ?_;·repeat' constructor)|refine zw rfl ?_|refine zx rfl ?_|refine zb rfl ?_)
          refine ⟨(i + 1, -1), .inl ⟨rfl, hcl.succ hx h⟩, by simp; omega, rfl, rfl, rfl, ?_, rfl, rfl, trivial⟩
          exact i64_next (by omega) (by omega)
    · have hge : ¬ i < w.items.length := by have := of_decide_eq_false h; omega
      clear h
      repeat (first|refine pq_end rfl ?_|(refine zs rfl ?_ ?_;·repeat' constructor)|(refine zq rfl ?_ ?_;·repeat' constructor)|refine zw rfl ?_|refine zx rfl ?_|refine zb rfl ?_)
      refine end1 rfl rfl rfl ⟨rfl, rfl, rfl⟩ ?_
      rw [hro]
      cases hf : w.items.length - out.length with
      | zero => rfl
      | succ f => rw [refOrdF, find_none (hcl.all hge)]
  · have hn : inB out x.name = false := by
      unfold fitR at hfit
      cases hb : inB out x.name with
      | false => rfl
      | true => rw [hb] at hfit; cases hfit
    have hkl := (List.getElem?_eq_some_iff.1 hx).1
    have hlt2 := leftR_step w out x (List.mem_of_getElem? hx) hn
    have hl2 : (out ++ [x.name]).length = out.length + 1 := by simp
    have hoapp : (out ++ [x.name]).map eS = out.map eS ++ [eS x.name] := by rw [List.map_append]; rfl
    have hoe : (out.map eS).length = out.length := by simp
    have hro2 : refOrd w = refOrdF (w.items.length - (out ++ [x.name]).length) w (out ++ [x.name]) := by
      rw [hro, show w.items.length - out.length = (w.items.length - (out ++ [x.name]).length) + 1 by rw [hl2]; omega, refOrdF, find_some hx hfit hcl.2]
    repeat (first|refine pq_end rfl ?_|(refine zs rfl ?_ ?_;·repeat' constructor)|(refine zq rfl ?_ ?_;·repeat' constructor)|refine zw rfl ?_|refine zx rfl ?_|refine zb rfl ?_)
    (first | refine ps_split rfl rfl (fun h => ?_) (fun h => ?_) | refine pq_split rfl rfl (fun h => ?_) (fun h => ?_))
    · clear h
      repeat (first|refine pq_end rfl ?_|(refine zs rfl ?_ ?_;·repeat' constructor)|(refine zq rfl ?_ ?_;·repeat' constructor)|refine zw rfl ?_|refine zx rfl ?_|refine zb rfl ?_)
      (first|refine zsq rfl (q_idxm rfl rfl rfl rfl rfl (by omega) hx rfl) ?_|refine zqq rfl (q_idxm rfl rfl rfl rfl rfl (by omega) hx rfl) ?_)
      repeat (first|refine pq_end rfl ?_|(refine zs rfl ?_ ?_;·repeat' constructor)|(refine zq rfl ?_ ?_;·repeat' constructor)|refine zw rfl ?_|refine zx rfl ?_|refine zb rfl ?_)
      refine ps_run (o_slit 0 rfl rfl rfl rfl rfl rfl rfl rfl rfl rfl rfl (by repeat' constructor) rfl ?_)
      repeat (first|refine pq_end rfl ?_|(refine zs rfl ?_ ?_;·repeat' constructor)|(refine zq rfl ?_ ?_;·repeat' constructor)|refine zw rfl ?_|refine zx rfl ?_|refine zb rfl ?_)
      refine ps_run (o_app 0 rfl rfl rfl rfl rfl rfl rfl rfl rfl rfl rfl (by repeat' constructor) (by intro row hr; first | (simp at hr; subst hr; rfl) | simp at hr) rfl rfl (by simp; omega) (by simp; omega) ?_)
      repeat (first|refine pq_end rfl ?_|(refine zs rfl ?_ ?_;·repeat' constructor)|(refine zq rfl ?_ ?_;·repeat' constructor)|refine zw rfl ?_|refine zx rfl ?_|refine zb rfl ?_)
      refine ⟨out ++ [x.name], ⟨by rw [hl2]; omega, by rw [hl2]; omega, hro2⟩, hlt2, rfl, ?_, rfl, ?_, trivial⟩
      · rw [hoapp, hl2]; rfl
      · rw [hoapp, hl2]; rfl
    · clear h
      repeat (first|refine pq_end rfl ?_|(refine zs rfl ?_ ?_;·repeat' constructor)|(refine zq rfl ?_ ?_;·repeat' constructor)|refine zw rfl ?_|refine zx rfl ?_|refine zb rfl ?_)
      (first|refine zsq rfl (q_idxm rfl rfl rfl rfl rfl (by omega) hx rfl) ?_|refine zqq rfl (q_idxm rfl rfl rfl rfl rfl (by omega) hx rfl) ?_)
      repeat (first|refine pq_end rfl ?_|(refine zs rfl ?_ ?_;·repeat' constructor)|(refine zq rfl ?_ ?_;·repeat' constructor)|refine zw rfl ?_|refine zx rfl ?_|refine zb rfl ?_)
      refine ps_run (o_slit 0 rfl rfl rfl rfl rfl rfl rfl rfl rfl rfl rfl (by repeat' constructor) rfl ?_)
      repeat (first|refine pq_end rfl ?_|(refine zs rfl ?_ ?_;·repeat' constructor)|(refine zq rfl ?_ ?_;·repeat' constructor)|refine zw rfl ?_|refine zx rfl ?_|refine zb rfl ?_)
      refine ps_run (o_app 0 rfl rfl rfl rfl rfl rfl rfl rfl rfl rfl rfl (by repeat' constructor) (by intro row hr; first | (simp at hr; subst hr; rfl) | simp at hr) rfl rfl (by simp; omega) (by simp; omega) ?_)
      repeat (first|refine pq_end rfl ?_|(refine zs rfl ?_ ?_;·repeat' constructor)|(refine zq rfl ?_ ?_;·repeat' constructor)|refine zw rfl ?_|refine zx rfl ?_|refine zb rfl ?_)
      refine ⟨out ++ [x.name], ⟨by rw [hl2]; omega, by rw [hl2]; omega, hro2⟩, hlt2, rfl, ?_, rfl, ?_, trivial⟩
      · rw [hoapp, hl2]; rfl
      · rw [hoapp, hl2]; rfl
end Go.Pv

/- The check of work: the document's. -/
set_option maxHeartbeats 2000000
namespace Go.Pv
attribute [local irreducible] PWP POps PQuiet PSem XThen XBlock RetPost InlPost
open Go.Proofs

/-- Names are told once, and what an item comes after is there. -/
structure Good1 (w : SWork) : Prop where
  uniq : ∀ (i : Nat) x, w.items[i]? = some x → idx w.items (·.name == x.name) = i
  known : ∀ x ∈ w.items, ∀ s ∈ x.after, (w.items.map (·.name)).any (· == s) = true

theorem good_of {w : SWork} (h : itemsE w = 0) : Good1 w := by
  unfold itemsE at h
  split at h
  · cases h
  · have hz := fstE_zero h
    have hit : ∀ (i : Nat) x, w.items[i]? = some x → idx w.items (·.name == x.name) = i ∧ itemE w x = 0 := by
      intro i x hx
      have := hz i x hx
      split at this
      · split at this
        · rename_i h1; exact ⟨h1, this⟩
        · cases this
      · cases this
    refine ⟨fun i x hx => (hit i x hx).1, fun x hx s hs => ?_⟩
    obtain ⟨i, hi, rfl⟩ := List.getElem_of_mem hx
    have hE := (hit i _ (List.getElem?_eq_getElem hi)).2
    unfold itemE at hE
    split at hE
    · cases hE
    · split at hE
      · cases hE
      · split at hE
        · split at hE
          · cases hE
          · split at hE
            · split at hE
              · cases hE
              · obtain ⟨j, hj, rfl⟩ := List.getElem_of_mem hs
                have := fstE_zero hE j _ (List.getElem?_eq_getElem hj)
                unfold afterE at this
                split at this
                · rename_i h1; exact h1
                · cases this
            · cases hE
        · rename_i hne; exact absurd hE hne

def nameAt (w : SWork) (i : Int) : Str := ((w.items[i.toNat]?).map (·.name)).getD []
def InW (w : SWork) (out : List Int) : Prop := ∀ k ∈ out, ∃ (i : Nat) (x : SItem), k = i ∧ w.items[i]? = some x
theorem nameAt_at {w : SWork} {i : Nat} {x : SItem} (hx : w.items[i]? = some x) : nameAt w i = x.name := by rw [nameAt, Int.toNat_natCast, hx]; rfl

theorem inB_iff {w : SWork} (hg : Good1 w) {out : List Int} (ho : InW w out) {i : Nat} {x : SItem} (hx : w.items[i]? = some x) : inB (out.map (nameAt w)) x.name = out.any (· == (i : Int)) := by
  unfold inB
  rw [List.any_map]
  cases h : out.any (· == (i : Int)) with
  | true =>
    obtain ⟨k, hk, he⟩ := List.any_eq_true.1 h
    have he : k = i := by simpa using he
    subst he
    exact List.any_eq_true.2 ⟨_, hk, by simp [nameAt_at hx]⟩
  | false =>
    rw [List.any_eq_false] at h ⊢
    intro k hk hn
    obtain ⟨i', x', rfl, hx'⟩ := ho k hk
    have hn : x'.name = x.name := by simpa [nameAt_at hx'] using hn
    have e1 := hg.uniq i' x' hx'
    rw [hn, hg.uniq i x hx] at e1
    refine h _ hk (by simp; omega)
theorem known_at {w : SWork} (hg : Good1 w) {x : SItem} (hx : x ∈ w.items) {s : Str} (hs : s ∈ x.after) : ∃ (j : Nat) (y : SItem), w.items[j]? = some y ∧ y.name = s ∧ idx (w.items.map (·.name)) (· == s) = j := by
  have := hg.known x hx s hs
  rw [List.any_map] at this
  obtain ⟨y, hy, he⟩ := List.any_eq_true.1 this
  have he : y.name = s := by simpa using he
  obtain ⟨j, hj, rfl⟩ := List.getElem_of_mem hy
  refine ⟨j, _, List.getElem?_eq_getElem hj, he, ?_⟩
  rw [idx_map, ← he]
  exact hg.uniq j _ (List.getElem?_eq_getElem hj)
theorem fit_eq {w : SWork} (hg : Good1 w) {out : List Int} (ho : InW w out) {i : Nat} {x : SItem} (hx : w.items[i]? = some x) : fitB (bef w) out i = fitR (out.map (nameAt w)) x := by
  have hxm := List.mem_of_getElem? hx
  have h1 : (bef w).getD i [] = aft w x := by rw [List.getD_eq_getElem?_getD, bef, List.getElem?_map, hx]; rfl
  have h2 : readyB out (aft w x) = x.after.all (inB (out.map (nameAt w))) := by
    rw [readyB, aft, List.any_map, List.all_eq_not_any_not]
    congr 1
    have : ∀ l : List Str, (∀ s ∈ l, s ∈ x.after) → (l.any ((fun k => !out.any fun x => x == k) ∘ fun s => idx (w.items.map (·.name)) (· == s))) = l.any fun s => !inB (out.map (nameAt w)) s := by
      intro l hl
      induction l with
      | nil => rfl
      | cons s l ih =>
        rw [List.any_cons, List.any_cons, ih fun s' hs' => hl s' (by simp [hs'])]
        congr 1
        obtain ⟨j, y, hy, hn, hi⟩ := known_at hg hxm (hl s (by simp))
        show (!out.any fun x => x == idx (w.items.map (·.name)) (· == s)) = _
        rw [hi, ← hn, inB_iff hg ho hy]
    exact this _ fun s hs => hs
  rw [fitB, h1, h2, fitR, inB_iff hg ho hx, Bool.and_comm]

theorem next_eq {w : SWork} (hg : Good1 w) {out : List Int} (ho : InW w out) : (nextO (bef w) out < 0 ∧ w.items.find? (fitR (out.map (nameAt w))) = none) ∨ ∃ (i : Nat) (x : SItem), nextO (bef w) out = i ∧ w.items[i]? = some x ∧ w.items.find? (fitR (out.map (nameAt w))) = some x := by
  have hbl : (bef w).length = w.items.length := by simp [bef]
  rcases idx_cases w.items (fitR (out.map (nameAt w))) with ⟨_, h⟩ | ⟨i, x, _, hx, hp, hn⟩
  · refine .inl ⟨?_, find_none h⟩
    have : nextO (bef w) out = -1 := by
      refine idx_none fun j c hc => ?_
      have hj : j < w.items.length := by have := (List.getElem?_eq_some_iff.1 hc).1; simpa [hbl] using this
      rw [List.getElem?_range (by omega)] at hc
      have hc := Option.some.inj hc
      subst hc
      rw [fit_eq hg ho (List.getElem?_eq_getElem hj)]
      exact h j _ (List.getElem?_eq_getElem hj)
    omega
  · have hil := (List.getElem?_eq_some_iff.1 hx).1
    refine .inr ⟨i, x, idx_found (a := i) (by rw [List.getElem?_range (by omega)]) (by rw [fit_eq hg ho hx]; exact hp) fun j c hj hc => ?_, hx, find_some hx hp hn⟩
    rw [List.getElem?_range (by omega)] at hc
    have hc := Option.some.inj hc
    subst hc
    have hjl : j < w.items.length := by omega
    rw [fit_eq hg ho (List.getElem?_eq_getElem hjl)]
    exact hn j _ hj (List.getElem?_eq_getElem hjl)

theorem ord_eq {w : SWork} (hg : Good1 w) : ∀ (f : Nat) (out : List Int), InW w out → refOrdF f w (out.map (nameAt w)) = (orderF f (bef w) out).map (nameAt w) ∧ InW w (orderF f (bef w) out)
  | 0, out, ho => ⟨rfl, ho⟩
  | f + 1, out, ho => by
    rcases next_eq hg ho with ⟨h1, h2⟩ | ⟨i, x, h1, hx, h2⟩
    · rw [refOrdF, h2, orderF, if_pos h1]; exact ⟨rfl, ho⟩
    · rw [refOrdF, h2, orderF, if_neg (by omega), h1]
      have := ord_eq hg f (out ++ [(i : Int)]) (fun k hk => by
        rcases List.mem_append.1 hk with hk | hk
        · exact ho k hk
        · exact ⟨i, x, by simpa using hk, hx⟩)
      rw [List.map_append, List.map_cons, List.map_nil, nameAt_at hx] at this
      exact this
theorem refOrd_eq {w : SWork} (hg : Good1 w) : refOrd w = (ordS w).map (nameAt w) ∧ InW w (ordS w) := by
  have := ord_eq hg w.items.length [] (fun k hk => by cases hk)
  have hbl : (bef w).length = w.items.length := by simp [bef]
  rw [refOrd, ordS, hbl]
  exact this
end Go.Pv

/- The check of work: the document's walk. -/
set_option maxHeartbeats 2000000
namespace Go.Pv
attribute [local irreducible] PWP POps PQuiet PSem XThen XBlock RetPost InlPost
open Go.Proofs

theorem refCheckWork_ret (w : SWork) (hw : Sane w) : Ret Try.prog .shared 15 [.agg (eWork w)] (I (workE w)) := by
  have h1 := hw.items
  have h2 := hw.trades
  have h3 := hw.spaces
  have hml : (w.items.map eItem).length = w.items.length := by simp
  have hol : ((refOrd w).map eS).length = (refOrd w).length := by simp
  refine Ret.of_pwp layOk mixed Go.Proofs.Try.func15 rfl (by decide) rfl rfl ?_
  repeat (first|refine pq_end rfl ?_|(refine zs rfl ?_ ?_;·repeat' constructor)|(refine zq rfl ?_ ?_;·repeat' constructor)|refine zw rfl ?_|refine zx rfl ?_|refine zb rfl ?_)
  (first|refine zsq rfl (q_callP rfl (checkTrades_ret w (by omega)) rfl (by repeat' constructor) rfl rfl) ?_|refine zqq rfl (q_callP rfl (checkTrades_ret w (by omega)) rfl (by repeat' constructor) rfl rfl) ?_)
  repeat (first|refine pq_end rfl ?_|(refine zs rfl ?_ ?_;·repeat' constructor)|(refine zq rfl ?_ ?_;·repeat' constructor)|refine zw rfl ?_|refine zx rfl ?_|refine zb rfl ?_)
  refine pw_cond rfl (fun h => ?_) (fun h => ?_)
  · have hne : ¬ tradesE w = 0 := by simpa using h
    repeat (first|refine pq_end rfl ?_|(refine zs rfl ?_ ?_;·repeat' constructor)|(refine zq rfl ?_ ?_;·repeat' constructor)|refine zw rfl ?_|refine zx rfl ?_|refine zb rfl ?_)
    exact end1i rfl rfl (by rw [workE, if_neg hne])
  have hz1 : tradesE w = 0 := by simpa using h
  clear h
  repeat (first|refine pq_end rfl ?_|(refine zs rfl ?_ ?_;·repeat' constructor)|(refine zq rfl ?_ ?_;·repeat' constructor)|refine zw rfl ?_|refine zx rfl ?_|refine zb rfl ?_)
  (first|refine zsq rfl (q_callP rfl (checkSpaces_ret w (by omega) (fun x hx => by have := hw.next x hx; omega)) rfl (by repeat' constructor) rfl rfl) ?_|refine zqq rfl (q_callP rfl (checkSpaces_ret w (by omega) (fun x hx => by have := hw.next x hx; omega)) rfl (by repeat' constructor) rfl rfl) ?_)
  repeat (first|refine pq_end rfl ?_|(refine zs rfl ?_ ?_;·repeat' constructor)|(refine zq rfl ?_ ?_;·repeat' constructor)|refine zw rfl ?_|refine zx rfl ?_|refine zb rfl ?_)
  refine pw_cond rfl (fun h => ?_) (fun h => ?_)
  · have hne : ¬ roomE w = 0 := by simpa using h
    repeat (first|refine pq_end rfl ?_|(refine zs rfl ?_ ?_;·repeat' constructor)|(refine zq rfl ?_ ?_;·repeat' constructor)|refine zw rfl ?_|refine zx rfl ?_|refine zb rfl ?_)
    exact end1i rfl rfl (by rw [workE, if_pos hz1, if_neg hne])
  have hz3 : roomE w = 0 := by simpa using h
  clear h
  have hit : ∀ e, itemsE w = e → e ≠ 0 → workE w = e := fun e he hne => by rw [workE, if_pos hz1, if_pos hz3, he, if_neg hne]
  repeat (first|refine pq_end rfl ?_|(refine zs rfl ?_ ?_;·repeat' constructor)|(refine zq rfl ?_ ?_;·repeat' constructor)|refine zw rfl ?_|refine zx rfl ?_|refine zb rfl ?_)
  refine pw_cond rfl (fun h => ?_) (fun h => ?_)
  · have hgt := of_decide_eq_true h
    repeat (first|refine pq_end rfl ?_|(refine zs rfl ?_ ?_;·repeat' constructor)|(refine zq rfl ?_ ?_;·repeat' constructor)|refine zw rfl ?_|refine zx rfl ?_|refine zb rfl ?_)
    exact end1i rfl rfl (by rw [hit 8 (by rw [itemsE, if_pos (by omega)]) (by omega)])
  have hl : ¬ 40 < w.items.length := by have := of_decide_eq_false h; omega
  clear h
  repeat (first|refine pq_end rfl ?_|(refine zs rfl ?_ ?_;·repeat' constructor)|(refine zq rfl ?_ ?_;·repeat' constructor)|refine zw rfl ?_|refine zx rfl ?_|refine zb rfl ?_)
  refine pw_loop (ClearE w.items fun i x => if isName x.name then (if idx w.items (·.name == x.name) = i then itemE w x else 5) else 4) (fun k => [(1, .ptr 1 1 0 0), (5, I k)]) (fun _ => [(1, 1, ⟨28, 9, [eWork w], 2⟩)]) (fun k => w.items.length - k) 0 .zero' ⟨rfl, rfl, rfl, trivial⟩ ?_
  intro k s hk
  repeat (first|refine pq_end rfl ?_|(refine zs rfl ?_ ?_;·repeat' constructor)|(refine zq rfl ?_ ?_;·repeat' constructor)|refine zw rfl ?_|refine zx rfl ?_|refine zb rfl ?_)
  refine pw_cond rfl (fun h => ?_) (fun h => ?_)
  · have hlt : k < w.items.length := by simpa using h
    obtain ⟨x, hx⟩ := get_lt hlt
    clear h
    have hax := hw.after x (List.mem_of_getElem? hx)
    have bad : ∀ e, (if isName x.name then (if idx w.items (·.name == x.name) = k then itemE w x else 5) else 4) = e → e ≠ 0 → workE w = e := fun e hb he => by
      rw [hit e (by rw [itemsE, if_neg hl, hk.found (e := e) hx hb he]) he]
    repeat (first|refine pq_end rfl ?_|(refine zs rfl ?_ ?_;·repeat' constructor)|(refine zq rfl ?_ ?_;·repeat' constructor)|refine zw rfl ?_|refine zx rfl ?_|refine zb rfl ?_)
    (first|refine zsq rfl (q_idxm rfl rfl rfl rfl rfl (by omega) hx rfl) ?_|refine zqq rfl (q_idxm rfl rfl rfl rfl rfl (by omega) hx rfl) ?_)
    repeat (first|refine pq_end rfl ?_|(refine zs rfl ?_ ?_;·repeat' constructor)|(refine zq rfl ?_ ?_;·repeat' constructor)|refine zw rfl ?_|refine zx rfl ?_|refine zb rfl ?_)
    (first|refine zsq rfl (q_callP rfl (isName_ref x.name) rfl (by repeat' constructor) rfl rfl) ?_|refine zqq rfl (q_callP rfl (isName_ref x.name) rfl (by repeat' constructor) rfl rfl) ?_)
    repeat (first|refine pq_end rfl ?_|(refine zs rfl ?_ ?_;·repeat' constructor)|(refine zq rfl ?_ ?_;·repeat' constructor)|refine zw rfl ?_|refine zx rfl ?_|refine zb rfl ?_)
    refine pw_cond rfl (fun h => ?_) (fun h => ?_)
    · have hn : ¬ isName x.name = true := by simpa using h
      repeat (first|refine pq_end rfl ?_|(refine zs rfl ?_ ?_;·repeat' constructor)|(refine zq rfl ?_ ?_;·repeat' constructor)|refine zw rfl ?_|refine zx rfl ?_|refine zb rfl ?_)
      exact end1i rfl rfl (by rw [bad 4 (if_neg hn) (by omega)])
    have hn : isName x.name = true := by simpa using h
    clear h
    repeat (first|refine pq_end rfl ?_|(refine zs rfl ?_ ?_;·repeat' constructor)|(refine zq rfl ?_ ?_;·repeat' constructor)|refine zw rfl ?_|refine zx rfl ?_|refine zb rfl ?_)
    refine pw_draw 10 [36, 37, 38, 39, 40, 41, 42, 43, 44, 45] (by decide +kernel) ?_
    repeat (first|refine pq_end rfl ?_|(refine zs rfl ?_ ?_;·repeat' constructor)|(refine zq rfl ?_ ?_;·repeat' constructor)|refine zw rfl ?_|refine zx rfl ?_|refine zb rfl ?_)
    (first|refine zsq rfl (q_idxm rfl rfl rfl rfl rfl (by omega) hx rfl) ?_|refine zqq rfl (q_idxm rfl rfl rfl rfl rfl (by omega) hx rfl) ?_)
    repeat (first|refine pq_end rfl ?_|(refine zs rfl ?_ ?_;·repeat' constructor)|(refine zq rfl ?_ ?_;·repeat' constructor)|refine zw rfl ?_|refine zx rfl ?_|refine zb rfl ?_)
    (first|refine zsq rfl (q_callP rfl (itemOf_ret w x.name (by omega)) rfl (by repeat' constructor) rfl rfl) ?_|refine zqq rfl (q_callP rfl (itemOf_ret w x.name (by omega)) rfl (by repeat' constructor) rfl rfl) ?_)
    repeat (first|refine pq_end rfl ?_|(refine zs rfl ?_ ?_;·repeat' constructor)|(refine zq rfl ?_ ?_;·repeat' constructor)|refine zw rfl ?_|refine zx rfl ?_|refine zb rfl ?_)
    refine pw_cond rfl (fun h => ?_) (fun h => ?_)
    · have hi : ¬ idx w.items (·.name == x.name) = k := by simpa using h
      repeat (first|refine pq_end rfl ?_|(refine zs rfl ?_ ?_;·repeat' constructor)|(refine zq rfl ?_ ?_;·repeat' constructor)|refine zw rfl ?_|refine zx rfl ?_|refine zb rfl ?_)
      exact end1i rfl rfl (by rw [bad 5 (by rw [if_pos hn, if_neg hi]) (by omega)])
    have hi : idx w.items (·.name == x.name) = k := by simpa using h
    clear h
    have own : (if isName x.name then (if idx w.items (·.name == x.name) = k then itemE w x else 5) else 4) = itemE w x := by rw [if_pos hn, if_pos hi]
    repeat (first|refine pq_end rfl ?_|(refine zs rfl ?_ ?_;·repeat' constructor)|(refine zq rfl ?_ ?_;·repeat' constructor)|refine zw rfl ?_|refine zx rfl ?_|refine zb rfl ?_)
    refine pw_draw 8 [46, 47, 48, 49, 50, 51, 52, 6] (by decide +kernel) ?_
    repeat (first|refine pq_end rfl ?_|(refine zs rfl ?_ ?_;·repeat' constructor)|(refine zq rfl ?_ ?_;·repeat' constructor)|refine zw rfl ?_|refine zx rfl ?_|refine zb rfl ?_)
    (first|refine zsq rfl (q_idxm rfl rfl rfl rfl rfl (by omega) hx rfl) ?_|refine zqq rfl (q_idxm rfl rfl rfl rfl rfl (by omega) hx rfl) ?_)
    repeat (first|refine pq_end rfl ?_|(refine zs rfl ?_ ?_;·repeat' constructor)|(refine zq rfl ?_ ?_;·repeat' constructor)|refine zw rfl ?_|refine zx rfl ?_|refine zb rfl ?_)
    (first|refine zsq rfl (q_callP rfl (checkItem_ret w x (by omega) (by omega) (by omega) (by omega)) rfl (by repeat' constructor) rfl rfl) ?_|refine zqq rfl (q_callP rfl (checkItem_ret w x (by omega) (by omega) (by omega) (by omega)) rfl (by repeat' constructor) rfl rfl) ?_)
    repeat (first|refine pq_end rfl ?_|(refine zs rfl ?_ ?_;·repeat' constructor)|(refine zq rfl ?_ ?_;·repeat' constructor)|refine zw rfl ?_|refine zx rfl ?_|refine zb rfl ?_)
    refine pw_cond rfl (fun h => ?_) (fun h => ?_)
    · have hne : ¬ itemE w x = 0 := by simpa using h
      repeat (first|refine pq_end rfl ?_|(refine zs rfl ?_ ?_;·repeat' constructor)|(refine zq rfl ?_ ?_;·repeat' constructor)|refine zw rfl ?_|refine zx rfl ?_|refine zb rfl ?_)
      exact end1i rfl rfl (by rw [bad _ own hne])
    · repeat (first|refine pq_end rfl ?_|(refine zs rfl ?_ ?_;·repeat' constructor)|(refine zq rfl ?_ ?_;·repeat' constructor)|refine zw rfl ?_|refine zx rfl ?_|refine zb rfl ?_)
      refine ⟨k + 1, hk.succ hx (own.trans (by simpa using h)), by omega, rfl, ?_, rfl, trivial⟩
      exact i64_next (by omega) (by omega)
  have hz4 : itemsE w = 0 := by rw [itemsE, if_neg hl, hk.none (by simpa using h)]
  clear h hk
  have it : workE w = if figE w then (if (ordS w).length < w.items.length then 22 else 0) else 2 := by rw [workE, if_pos hz1, if_pos hz3, if_pos hz4]
  have hord : (refOrd w).length = (ordS w).length := by rw [(refOrd_eq (good_of hz4)).1, List.length_map]
  repeat (first|refine pq_end rfl ?_|(refine zs rfl ?_ ?_;·repeat' constructor)|(refine zq rfl ?_ ?_;·repeat' constructor)|refine zw rfl ?_|refine zx rfl ?_|refine zb rfl ?_)
  (first|refine zsq rfl (q_callP rfl (inside_ret w.hire 0 1000000000) rfl (by repeat' constructor) rfl rfl) ?_|refine zqq rfl (q_callP rfl (inside_ret w.hire 0 1000000000) rfl (by repeat' constructor) rfl rfl) ?_)
  repeat (first|refine pq_end rfl ?_|(refine zs rfl ?_ ?_;·repeat' constructor)|(refine zq rfl ?_ ?_;·repeat' constructor)|refine zw rfl ?_|refine zx rfl ?_|refine zb rfl ?_)
  (first | refine ps_split rfl rfl (fun h => ?_) (fun h => ?_) | refine pq_split rfl rfl (fun h => ?_) (fun h => ?_))
  · have hf : ¬ figE w = true := by simp_all [figE]
    repeat (first|refine pq_end rfl ?_|(refine zs rfl ?_ ?_;·repeat' constructor)|(refine zq rfl ?_ ?_;·repeat' constructor)|refine zw rfl ?_|refine zx rfl ?_|refine zb rfl ?_)
    exact end1i rfl rfl (by rw [it, if_neg hf])
  have f1 : inside w.hire 0 1000000000 = true := by simpa using h
  clear h
  repeat (first|refine pq_end rfl ?_|(refine zs rfl ?_ ?_;·repeat' constructor)|(refine zq rfl ?_ ?_;·repeat' constructor)|refine zw rfl ?_|refine zx rfl ?_|refine zb rfl ?_)
  (first|refine zsq rfl (q_callP rfl (inside_ret w.late 0 1000000000) rfl (by repeat' constructor) rfl rfl) ?_|refine zqq rfl (q_callP rfl (inside_ret w.late 0 1000000000) rfl (by repeat' constructor) rfl rfl) ?_)
  repeat (first|refine pq_end rfl ?_|(refine zs rfl ?_ ?_;·repeat' constructor)|(refine zq rfl ?_ ?_;·repeat' constructor)|refine zw rfl ?_|refine zx rfl ?_|refine zb rfl ?_)
  (first | refine ps_split rfl rfl (fun h => ?_) (fun h => ?_) | refine pq_split rfl rfl (fun h => ?_) (fun h => ?_))
  · have hf : ¬ figE w = true := by simp_all [figE]
    repeat (first|refine pq_end rfl ?_|(refine zs rfl ?_ ?_;·repeat' constructor)|(refine zq rfl ?_ ?_;·repeat' constructor)|refine zw rfl ?_|refine zx rfl ?_|refine zb rfl ?_)
    exact end1i rfl rfl (by rw [it, if_neg hf])
  have f2 : inside w.late 0 1000000000 = true := by simpa using h
  clear h
  repeat (first|refine pq_end rfl ?_|(refine zs rfl ?_ ?_;·repeat' constructor)|(refine zq rfl ?_ ?_;·repeat' constructor)|refine zw rfl ?_|refine zx rfl ?_|refine zb rfl ?_)
  (first|refine zsq rfl (q_callP rfl (inside_ret w.due 0 400) rfl (by repeat' constructor) rfl rfl) ?_|refine zqq rfl (q_callP rfl (inside_ret w.due 0 400) rfl (by repeat' constructor) rfl rfl) ?_)
  repeat (first|refine pq_end rfl ?_|(refine zs rfl ?_ ?_;·repeat' constructor)|(refine zq rfl ?_ ?_;·repeat' constructor)|refine zw rfl ?_|refine zx rfl ?_|refine zb rfl ?_)
  (first | refine ps_split rfl rfl (fun h => ?_) (fun h => ?_) | refine pq_split rfl rfl (fun h => ?_) (fun h => ?_))
  · have hf : ¬ figE w = true := by simp_all [figE]
    repeat (first|refine pq_end rfl ?_|(refine zs rfl ?_ ?_;·repeat' constructor)|(refine zq rfl ?_ ?_;·repeat' constructor)|refine zw rfl ?_|refine zx rfl ?_|refine zb rfl ?_)
    exact end1i rfl rfl (by rw [it, if_neg hf])
  have f3 : inside w.due 0 400 = true := by simpa using h
  clear h
  repeat (first|refine pq_end rfl ?_|(refine zs rfl ?_ ?_;·repeat' constructor)|(refine zq rfl ?_ ?_;·repeat' constructor)|refine zw rfl ?_|refine zx rfl ?_|refine zb rfl ?_)
  (first|refine zsq rfl (q_callP rfl (inside_ret w.last 0 400) rfl (by repeat' constructor) rfl rfl) ?_|refine zqq rfl (q_callP rfl (inside_ret w.last 0 400) rfl (by repeat' constructor) rfl rfl) ?_)
  repeat (first|refine pq_end rfl ?_|(refine zs rfl ?_ ?_;·repeat' constructor)|(refine zq rfl ?_ ?_;·repeat' constructor)|refine zw rfl ?_|refine zx rfl ?_|refine zb rfl ?_)
  refine pw_cond rfl (fun h => ?_) (fun h => ?_)
  · have hf : ¬ figE w = true := by simp_all [figE]
    repeat (first|refine pq_end rfl ?_|(refine zs rfl ?_ ?_;·repeat' constructor)|(refine zq rfl ?_ ?_;·repeat' constructor)|refine zw rfl ?_|refine zx rfl ?_|refine zb rfl ?_)
    exact end1i rfl rfl (by rw [it, if_neg hf])
  have f4 : inside w.last 0 400 = true := by simpa using h
  clear h
  have hf : figE w = true := by rw [figE, f1, f2, f3, f4]; rfl
  rw [if_pos hf] at it
  repeat (first|refine pq_end rfl ?_|(refine zs rfl ?_ ?_;·repeat' constructor)|(refine zq rfl ?_ ?_;·repeat' constructor)|refine zw rfl ?_|refine zx rfl ?_|refine zb rfl ?_)
  refine pw_draw 7 [78, 79, 80, 81, 82, 83, 84] (by decide +kernel) ?_
  repeat (first|refine pq_end rfl ?_|(refine zs rfl ?_ ?_;·repeat' constructor)|(refine zq rfl ?_ ?_;·repeat' constructor)|refine zw rfl ?_|refine zx rfl ?_|refine zb rfl ?_)
  (first|refine zsq rfl (q_call rfl (order_ref w hw) rfl (by repeat' constructor) rfl) ?_|refine zqq rfl (q_call rfl (order_ref w hw) rfl (by repeat' constructor) rfl) ?_)
  repeat (first|refine pq_end rfl ?_|(refine zs rfl ?_ ?_;·repeat' constructor)|(refine zq rfl ?_ ?_;·repeat' constructor)|refine zw rfl ?_|refine zx rfl ?_|refine zb rfl ?_)
  refine pw_cond rfl (fun h => ?_) (fun h => ?_)
  · have hlt := of_decide_eq_true h
    repeat (first|refine pq_end rfl ?_|(refine zs rfl ?_ ?_;·repeat' constructor)|(refine zq rfl ?_ ?_;·repeat' constructor)|refine zw rfl ?_|refine zx rfl ?_|refine zb rfl ?_)
    exact end1i rfl rfl (by rw [it, if_pos (by omega)])
  · have hlt := of_decide_eq_false h
    repeat (first|refine pq_end rfl ?_|(refine zs rfl ?_ ?_;·repeat' constructor)|(refine zq rfl ?_ ?_;·repeat' constructor)|refine zw rfl ?_|refine zx rfl ?_|refine zb rfl ?_)
    exact end1i rfl rfl (by rw [it, if_neg (by omega)])
end Go.Pv

/- Slots: the document's item, mode and end of a slot. -/
set_option maxHeartbeats 2000000
namespace Go.Pv
attribute [local irreducible] PWP POps PQuiet PSem XThen XBlock RetPost InlPost
open Go.Proofs

theorem endc {L : Lay} {s : St} {fn : Func} {r v d : PV} {t : Nat} {T : TypeId} {A Cd : Prop} {fl : Fl} (h : fn.results.toList = [.cell t T]) (hq : qv L s (.load T (.tmp t)) = some (v, A)) (ha : A) (hres : res s 5 v = some (d, Cd, fl)) (hc : Cd) (hd : d = r) : RetPost L fn .shared r .ret s := by
  unfold RetPost
  refine ⟨[v], A ∧ True, d, Cd, fl, ?_, ⟨ha, trivial⟩, hres, hc, trivial, hd⟩
  rw [h]
  show (match rv L s (.cell t T) with | some (v, A) => (match rvs L s [] with | some (vs, B) => some (v :: vs, A ∧ B) | none => none) | none => none) = _
  rw [show rv L s (.cell t T) = some (v, A) from hq]; rfl

/-- A slot with its item and its mode. -/
structure SlotAt (w : SWork) (sl : SSlot) (x : SItem) (m : SMode) : Prop where
  nonneg : 0 ≤ idx w.items (·.name == sl.item)
  item : w.items[(idx w.items (·.name == sl.item)).toNat]? = some x
  lo : 0 ≤ sl.mode
  mode : x.modes[sl.mode.toNat]? = some m
  day : 0 ≤ sl.day ∧ sl.day ≤ 400
  days : 1 ≤ m.days ∧ m.days ≤ 60

theorem item_ref (w : SWork) (hw : Sane w) (sl : SSlot) {x : SItem} {m : SMode} (h : SlotAt w sl x m) : Ret Try.prog .shared 52 [.agg (eWork w), .agg (eSlot sl)] (.agg (eItem x)) := by
  have h1 := hw.items
  have hi := h.item
  have hn := h.nonneg
  refine Ret.of_pwp layOk mixed Go.Proofs.Try.func52 rfl (by decide) rfl rfl ?_
  repeat (first|refine pq_end rfl ?_|(refine zs rfl ?_ ?_;·repeat' constructor)|(refine zq rfl ?_ ?_;·repeat' constructor)|refine zw rfl ?_|refine zx rfl ?_|refine zb rfl ?_)
  refine pw_draw 8 [5, 6, 7, 8, 9, 10, 11, 12] (by decide +kernel) ?_
  repeat (first|refine pq_end rfl ?_|(refine zs rfl ?_ ?_;·repeat' constructor)|(refine zq rfl ?_ ?_;·repeat' constructor)|refine zw rfl ?_|refine zx rfl ?_|refine zb rfl ?_)
  (first|refine zsq rfl (q_callP rfl (itemOf_ret w sl.item (by omega)) rfl (by repeat' constructor) rfl rfl) ?_|refine zqq rfl (q_callP rfl (itemOf_ret w sl.item (by omega)) rfl (by repeat' constructor) rfl rfl) ?_)
  repeat (first|refine pq_end rfl ?_|(refine zs rfl ?_ ?_;·repeat' constructor)|(refine zq rfl ?_ ?_;·repeat' constructor)|refine zw rfl ?_|refine zx rfl ?_|refine zb rfl ?_)
  (first|refine zsq rfl (q_idxm rfl rfl rfl rfl rfl (by omega) hi rfl) ?_|refine zqq rfl (q_idxm rfl rfl rfl rfl rfl (by omega) hi rfl) ?_)
  repeat (first|refine pq_end rfl ?_|(refine zs rfl ?_ ?_;·repeat' constructor)|(refine zq rfl ?_ ?_;·repeat' constructor)|refine zw rfl ?_|refine zx rfl ?_|refine zb rfl ?_)
  exact endc rfl rfl rfl rfl (by repeat' constructor) rfl
theorem mode_ref (w : SWork) (hw : Sane w) (sl : SSlot) {x : SItem} {m : SMode} (h : SlotAt w sl x m) : Ret Try.prog .shared 94 [.agg (eWork w), .agg (eSlot sl)] (.agg (eMode m)) := by
  have hm := h.mode
  have hlo := h.lo
  refine Ret.of_pwp layOk mixed Go.Proofs.Try.func94 rfl (by decide) rfl rfl ?_
  repeat (first|refine pq_end rfl ?_|(refine zs rfl ?_ ?_;·repeat' constructor)|(refine zq rfl ?_ ?_;·repeat' constructor)|refine zw rfl ?_|refine zx rfl ?_|refine zb rfl ?_)
  refine pw_draw 8 [5, 6, 7, 8, 9, 10, 11, 12] (by decide +kernel) ?_
  repeat (first|refine pq_end rfl ?_|(refine zs rfl ?_ ?_;·repeat' constructor)|(refine zq rfl ?_ ?_;·repeat' constructor)|refine zw rfl ?_|refine zx rfl ?_|refine zb rfl ?_)
  (first|refine zsq rfl (q_call rfl (item_ref w hw sl h) rfl (by repeat' constructor) rfl) ?_|refine zqq rfl (q_call rfl (item_ref w hw sl h) rfl (by repeat' constructor) rfl) ?_)
  repeat (first|refine pq_end rfl ?_|(refine zs rfl ?_ ?_;·repeat' constructor)|(refine zq rfl ?_ ?_;·repeat' constructor)|refine zw rfl ?_|refine zx rfl ?_|refine zb rfl ?_)
  (first|refine zsq rfl (q_idxm rfl rfl rfl rfl rfl (by omega) hm rfl) ?_|refine zqq rfl (q_idxm rfl rfl rfl rfl rfl (by omega) hm rfl) ?_)
  repeat (first|refine pq_end rfl ?_|(refine zs rfl ?_ ?_;·repeat' constructor)|(refine zq rfl ?_ ?_;·repeat' constructor)|refine zw rfl ?_|refine zx rfl ?_|refine zb rfl ?_)
  exact endc rfl rfl rfl rfl (by repeat' constructor) rfl
theorem end_ref (w : SWork) (hw : Sane w) (sl : SSlot) {x : SItem} {m : SMode} (h : SlotAt w sl x m) : Ret Try.prog .shared 53 [.agg (eWork w), .agg (eSlot sl)] (I (sl.day + m.days)) := by
  have h1 := h.day
  have h2 := h.days
  refine Ret.of_pwp layOk mixed Go.Proofs.Try.func53 rfl (by decide) rfl rfl ?_
  repeat (first|refine pq_end rfl ?_|(refine zs rfl ?_ ?_;·repeat' constructor)|(refine zq rfl ?_ ?_;·repeat' constructor)|refine zw rfl ?_|refine zx rfl ?_|refine zb rfl ?_)
  refine pw_draw 8 [5, 6, 7, 8, 9, 10, 11, 4] (by decide +kernel) ?_
  repeat (first|refine pq_end rfl ?_|(refine zs rfl ?_ ?_;·repeat' constructor)|(refine zq rfl ?_ ?_;·repeat' constructor)|refine zw rfl ?_|refine zx rfl ?_|refine zb rfl ?_)
  (first|refine zsq rfl (q_call rfl (mode_ref w hw sl h) rfl (by repeat' constructor) rfl) ?_|refine zqq rfl (q_call rfl (mode_ref w hw sl h) rfl (by repeat' constructor) rfl) ?_)
  repeat (first|refine pq_end rfl ?_|(refine zs rfl ?_ ?_;·repeat' constructor)|(refine zq rfl ?_ ?_;·repeat' constructor)|refine zw rfl ?_|refine zx rfl ?_|refine zb rfl ?_)
  exact end1i rfl rfl (by rw [wrap_i64 (by omega) (by omega)])
end Go.Pv

/- The check of slots: the document's. -/
set_option maxHeartbeats 2000000
namespace Go.Pv
attribute [local irreducible] PWP POps PQuiet PSem XThen XBlock RetPost InlPost
open Go.Proofs

/-- How many modes the item of a slot has. -/
def modesOf (w : SWork) (s : SSlot) : Int := match w.items[(idx w.items (·.name == s.item)).toNat]? with | some x => x.modes.length | none => 0
def slotE (w : SWork) (l : List SSlot) (i : Nat) (s : SSlot) : Int :=
  if idx w.items (·.name == s.item) < 0 then 6 else if (l.take i).any (·.item == s.item) then 5 else if inside s.mode 0 (modesOf w s - 1) && inside s.day 0 400 then 0 else 2
def slotsE (w : SWork) (l : List SSlot) : Int := if l.length = w.items.length then fstE l (slotE w l) else 11

theorem checkSlots_ref (w : SWork) (hw : Sane w) (hm : ∀ x ∈ w.items, x.modes.length ≤ 100000) (l : List SSlot) : Ret Try.prog .shared 16 [.agg (eWork w), .sl (l.map eSlot)] (I (slotsE w l)) := by
  have h1 := hw.items
  have hml : (w.items.map eItem).length = w.items.length := by simp
  have hll : (l.map eSlot).length = l.length := by simp
  refine Ret.of_pwp layOk mixed Go.Proofs.Try.func16 rfl (by decide) rfl rfl ?_
  repeat (first|refine pq_end rfl ?_|(refine zs rfl ?_ ?_;·repeat' constructor)|(refine zq rfl ?_ ?_;·repeat' constructor)|refine zw rfl ?_|refine zx rfl ?_|refine zb rfl ?_)
  refine pw_cond rfl (fun h => ?_) (fun h => ?_)
  · have hne : ¬ l.length = w.items.length := by intro e; simp [e] at h
    repeat (first|refine pq_end rfl ?_|(refine zs rfl ?_ ?_;·repeat' constructor)|(refine zq rfl ?_ ?_;·repeat' constructor)|refine zw rfl ?_|refine zx rfl ?_|refine zb rfl ?_)
    exact end1i rfl rfl (by rw [slotsE, if_neg hne])
  have hlen : l.length = w.items.length := by simp at h; omega
  have it : slotsE w l = fstE l (slotE w l) := by rw [slotsE, if_pos hlen]
  clear h
  repeat (first|refine pq_end rfl ?_|(refine zs rfl ?_ ?_;·repeat' constructor)|(refine zq rfl ?_ ?_;·repeat' constructor)|refine zw rfl ?_|refine zx rfl ?_|refine zb rfl ?_)
  refine pw_loop (ClearE l (slotE w l)) (fun k => [(1, .sl (l.map eSlot)), (2, .ptr 2 1 0 0), (5, I k)]) (fun _ => [(2, 1, ⟨28, 9, [eWork w], 2⟩)]) (fun k => l.length - k) 0 .zero' ⟨rfl, rfl, rfl, rfl, trivial⟩ ?_
  intro k s hk
  repeat (first|refine pq_end rfl ?_|(refine zs rfl ?_ ?_;·repeat' constructor)|(refine zq rfl ?_ ?_;·repeat' constructor)|refine zw rfl ?_|refine zx rfl ?_|refine zb rfl ?_)
  refine pw_cond rfl (fun h => ?_) (fun h => ?_)
  · have hlt : k < l.length := by simpa using h
    obtain ⟨x, hx⟩ := get_lt hlt
    clear h
    have bad : ∀ e, slotE w l k x = e → e ≠ 0 → slotsE w l = e := fun e hb he => by rw [it, hk.found (e := e) hx hb he]
    repeat (first|refine pq_end rfl ?_|(refine zs rfl ?_ ?_;·repeat' constructor)|(refine zq rfl ?_ ?_;·repeat' constructor)|refine zw rfl ?_|refine zx rfl ?_|refine zb rfl ?_)
    refine pw_draw 8 [20, 21, 22, 23, 24, 25, 26, 6] (by decide +kernel) ?_
    repeat (first|refine pq_end rfl ?_|(refine zs rfl ?_ ?_;·repeat' constructor)|(refine zq rfl ?_ ?_;·repeat' constructor)|refine zw rfl ?_|refine zx rfl ?_|refine zb rfl ?_)
    (first|refine zsq rfl (q_idxm rfl rfl rfl rfl rfl (by omega) hx rfl) ?_|refine zqq rfl (q_idxm rfl rfl rfl rfl rfl (by omega) hx rfl) ?_)
    repeat (first|refine pq_end rfl ?_|(refine zs rfl ?_ ?_;·repeat' constructor)|(refine zq rfl ?_ ?_;·repeat' constructor)|refine zw rfl ?_|refine zx rfl ?_|refine zb rfl ?_)
    (first|refine zsq rfl (q_callP rfl (itemOf_ret w x.item (by omega)) rfl (by repeat' constructor) rfl rfl) ?_|refine zqq rfl (q_callP rfl (itemOf_ret w x.item (by omega)) rfl (by repeat' constructor) rfl rfl) ?_)
    repeat (first|refine pq_end rfl ?_|(refine zs rfl ?_ ?_;·repeat' constructor)|(refine zq rfl ?_ ?_;·repeat' constructor)|refine zw rfl ?_|refine zx rfl ?_|refine zb rfl ?_)
    refine pw_cond rfl (fun h => ?_) (fun h => ?_)
    · have hneg := of_decide_eq_true h
      repeat (first|refine pq_end rfl ?_|(refine zs rfl ?_ ?_;·repeat' constructor)|(refine zq rfl ?_ ?_;·repeat' constructor)|refine zw rfl ?_|refine zx rfl ?_|refine zb rfl ?_)
      exact end1i rfl rfl (by rw [bad 6 (by rw [slotE, if_pos hneg]) (by omega)])
    have hn := of_decide_eq_false h
    clear h
    obtain ⟨y, hy, _⟩ := idx_lt (Int.not_lt.1 hn)
    have hym := hm y (List.mem_of_getElem? hy)
    have hmo : modesOf w x = y.modes.length := by rw [modesOf, hy]
    repeat (first|refine pq_end rfl ?_|(refine zs rfl ?_ ?_;·repeat' constructor)|(refine zq rfl ?_ ?_;·repeat' constructor)|refine zw rfl ?_|refine zx rfl ?_|refine zb rfl ?_)
    refine pw_loop (fun j => Clear (l.take k) (·.item == x.item) j) (fun j => [(1, .sl (l.map eSlot)), (2, .ptr 2 1 0 0), (5, I k), (6, I (idx w.items (·.name == x.item))), (7, I j)]) (fun _ => [(2, 1, ⟨28, 9, [eWork w], 2⟩)]) (fun j => k - j) 0 .zero ⟨rfl, rfl, rfl, rfl, rfl, rfl, trivial⟩ ?_
    intro j s' hj
    have htl : (l.take k).length = k := by rw [List.length_take]; omega
    repeat (first|refine pq_end rfl ?_|(refine zs rfl ?_ ?_;·repeat' constructor)|(refine zq rfl ?_ ?_;·repeat' constructor)|refine zw rfl ?_|refine zx rfl ?_|refine zb rfl ?_)
    refine pw_cond rfl (fun h => ?_) (fun h => ?_)
    · have hjk : j < k := by simpa using h
      clear h
      obtain ⟨z, hz⟩ := get_lt (show j < l.length by omega)
      have hzt : (l.take k)[j]? = some z := by rw [List.getElem?_take, if_pos hjk]; exact hz
      repeat (first|refine pq_end rfl ?_|(refine zs rfl ?_ ?_;·repeat' constructor)|(refine zq rfl ?_ ?_;·repeat' constructor)|refine zw rfl ?_|refine zx rfl ?_|refine zb rfl ?_)
      refine pw_draw 11 [34, 35, 36, 37, 38, 39, 40, 41, 42, 43, 44] (by decide +kernel) ?_
      repeat (first|refine pq_end rfl ?_|(refine zs rfl ?_ ?_;·repeat' constructor)|(refine zq rfl ?_ ?_;·repeat' constructor)|refine zw rfl ?_|refine zx rfl ?_|refine zb rfl ?_)
      (first|refine zsq rfl (q_idxm rfl rfl rfl rfl rfl (by omega) hz rfl) ?_|refine zqq rfl (q_idxm rfl rfl rfl rfl rfl (by omega) hz rfl) ?_)
      repeat (first|refine pq_end rfl ?_|(refine zs rfl ?_ ?_;·repeat' constructor)|(refine zq rfl ?_ ?_;·repeat' constructor)|refine zw rfl ?_|refine zx rfl ?_|refine zb rfl ?_)
      (first|refine zsq rfl (q_idxm rfl rfl rfl rfl rfl (by omega) hx rfl) ?_|refine zqq rfl (q_idxm rfl rfl rfl rfl rfl (by omega) hx rfl) ?_)
      repeat (first|refine pq_end rfl ?_|(refine zs rfl ?_ ?_;·repeat' constructor)|(refine zq rfl ?_ ?_;·repeat' constructor)|refine zw rfl ?_|refine zx rfl ?_|refine zb rfl ?_)
      refine pw_cond rfl (fun h => ?_) (fun h => ?_)
      · have he := of_decide_eq_true h
        repeat (first|refine pq_end rfl ?_|(refine zs rfl ?_ ?_;·repeat' constructor)|(refine zq rfl ?_ ?_;·repeat' constructor)|refine zw rfl ?_|refine zx rfl ?_|refine zb rfl ?_)
        exact end1i rfl rfl (by rw [bad 5 (by rw [slotE, if_neg hn, if_pos (any_of hzt (by simp [he]))]) (by omega)])
      · have hne := of_decide_eq_false h
        repeat (first|refine pq_end rfl ?_|(refine zs rfl ?_ ?_;·repeat' constructor)|(refine zq rfl ?_ ?_;·repeat' constructor)|refine zw rfl ?_|refine zx rfl ?_|refine zb rfl ?_)
        refine ⟨j + 1, hj.succ hzt (by simpa using hne), by omega, rfl, rfl, rfl, rfl, ?_, rfl, trivial⟩
        exact i64_next (by omega) (by omega)
    have hno : (l.take k).any (·.item == x.item) = false := hj.any (by simp at h; omega)
    clear h
    have own : slotE w l k x = if inside x.mode 0 (y.modes.length - 1) && inside x.day 0 400 then 0 else 2 := by rw [slotE, if_neg hn, hno, hmo]; rfl
    have hw1 : IntKind.i64.wrap (((y.modes.map eMode).length : Int) - 1) = y.modes.length - 1 := by rw [List.length_map, wrap_i64 (by omega) (by omega)]
    repeat (first|refine pq_end rfl ?_|(refine zs rfl ?_ ?_;·repeat' constructor)|(refine zq rfl ?_ ?_;·repeat' constructor)|refine zw rfl ?_|refine zx rfl ?_|refine zb rfl ?_)
    refine pw_draw 24 [45, 46, 47, 48, 49, 50, 51, 52, 53, 54, 55, 56, 57, 58, 59, 60, 61, 62, 63, 64, 65, 66, 67, 68] (by decide +kernel) ?_
    repeat (first|refine pq_end rfl ?_|(refine zs rfl ?_ ?_;·repeat' constructor)|(refine zq rfl ?_ ?_;·repeat' constructor)|refine zw rfl ?_|refine zx rfl ?_|refine zb rfl ?_)
    (first|refine zsq rfl (q_idxm rfl rfl rfl rfl rfl (by omega) hx rfl) ?_|refine zqq rfl (q_idxm rfl rfl rfl rfl rfl (by omega) hx rfl) ?_)
    repeat (first|refine pq_end rfl ?_|(refine zs rfl ?_ ?_;·repeat' constructor)|(refine zq rfl ?_ ?_;·repeat' constructor)|refine zw rfl ?_|refine zx rfl ?_|refine zb rfl ?_)
    (first|refine zsq rfl (q_idxm rfl rfl rfl rfl rfl (by omega) hy rfl) ?_|refine zqq rfl (q_idxm rfl rfl rfl rfl rfl (by omega) hy rfl) ?_)
    repeat (first|refine pq_end rfl ?_|(refine zs rfl ?_ ?_;·repeat' constructor)|(refine zq rfl ?_ ?_;·repeat' constructor)|refine zw rfl ?_|refine zx rfl ?_|refine zb rfl ?_)
    rw [hw1]
    (first|refine zsq rfl (q_callP rfl (inside_ret x.mode 0 (y.modes.length - 1)) rfl (by repeat' constructor) rfl rfl) ?_|refine zqq rfl (q_callP rfl (inside_ret x.mode 0 (y.modes.length - 1)) rfl (by repeat' constructor) rfl rfl) ?_)
    repeat (first|refine pq_end rfl ?_|(refine zs rfl ?_ ?_;·repeat' constructor)|(refine zq rfl ?_ ?_;·repeat' constructor)|refine zw rfl ?_|refine zx rfl ?_|refine zb rfl ?_)
    (first | refine ps_split rfl rfl (fun h => ?_) (fun h => ?_) | refine pq_split rfl rfl (fun h => ?_) (fun h => ?_))
    · have hb : inside x.mode 0 (y.modes.length - 1) = false := by simpa using h
      repeat (first|refine pq_end rfl ?_|(refine zs rfl ?_ ?_;·repeat' constructor)|(refine zq rfl ?_ ?_;·repeat' constructor)|refine zw rfl ?_|refine zx rfl ?_|refine zb rfl ?_)
      exact end1i rfl rfl (by rw [bad 2 (by rw [own, hb]; rfl) (by omega)])
    have hb : inside x.mode 0 (y.modes.length - 1) = true := by simpa using h
    clear h
    repeat (first|refine pq_end rfl ?_|(refine zs rfl ?_ ?_;·repeat' constructor)|(refine zq rfl ?_ ?_;·repeat' constructor)|refine zw rfl ?_|refine zx rfl ?_|refine zb rfl ?_)
    (first|refine zsq rfl (q_idxm rfl rfl rfl rfl rfl (by omega) hx rfl) ?_|refine zqq rfl (q_idxm rfl rfl rfl rfl rfl (by omega) hx rfl) ?_)
    repeat (first|refine pq_end rfl ?_|(refine zs rfl ?_ ?_;·repeat' constructor)|(refine zq rfl ?_ ?_;·repeat' constructor)|refine zw rfl ?_|refine zx rfl ?_|refine zb rfl ?_)
    (first|refine zsq rfl (q_callP rfl (inside_ret x.day 0 400) rfl (by repeat' constructor) rfl rfl) ?_|refine zqq rfl (q_callP rfl (inside_ret x.day 0 400) rfl (by repeat' constructor) rfl rfl) ?_)
    repeat (first|refine pq_end rfl ?_|(refine zs rfl ?_ ?_;·repeat' constructor)|(refine zq rfl ?_ ?_;·repeat' constructor)|refine zw rfl ?_|refine zx rfl ?_|refine zb rfl ?_)
    refine pw_cond rfl (fun h => ?_) (fun h => ?_)
    · have hb2 : inside x.day 0 400 = false := by simpa using h
      repeat (first|refine pq_end rfl ?_|(refine zs rfl ?_ ?_;·repeat' constructor)|(refine zq rfl ?_ ?_;·repeat' constructor)|refine zw rfl ?_|refine zx rfl ?_|refine zb rfl ?_)
      exact end1i rfl rfl (by rw [bad 2 (by rw [own, hb, hb2]; rfl) (by omega)])
    have hb2 : inside x.day 0 400 = true := by simpa using h
    clear h
    repeat (first|refine pq_end rfl ?_|(refine zs rfl ?_ ?_;·repeat' constructor)|(refine zq rfl ?_ ?_;·repeat' constructor)|refine zw rfl ?_|refine zx rfl ?_|refine zb rfl ?_)
    refine ⟨k + 1, hk.succ hx (by rw [own, hb, hb2]; rfl), by omega, rfl, rfl, ?_, rfl, trivial⟩
    exact i64_next (by omega) (by omega)
  · repeat (first|refine pq_end rfl ?_|(refine zs rfl ?_ ?_;·repeat' constructor)|(refine zq rfl ?_ ?_;·repeat' constructor)|refine zw rfl ?_|refine zx rfl ?_|refine zb rfl ?_)
    exact end1i rfl rfl (by rw [it, hk.none (by simpa using h)])
end Go.Pv

/- Slots, laid in the order of the work, or their error. -/
set_option maxHeartbeats 2000000
namespace Go.Pv
attribute [local irreducible] PWP POps PQuiet PSem XThen XBlock RetPost InlPost
open Go.Proofs

structure SPl where
  mode : Int
  day : Int
  on : Bool
def ePl (p : SPl) : List PV := [I p.mode, I p.day, .bool p.on]
def pl (s : List SSlot) (n : Str) : SPl := match s.find? (·.item == n) with | some sl => ⟨sl.mode, sl.day, true⟩ | none => ⟨0, 0, false⟩
def placed (w : SWork) (s : List SSlot) : List SPl := w.items.map fun x => pl s x.name
theorem pl_on (s : List SSlot) (n : Str) : (pl s n).on = s.any (·.item == n) := by
  unfold pl
  cases h : s.find? (·.item == n) with
  | none =>
    rw [List.find?_eq_none] at h
    symm
    rw [List.any_eq_false]
    exact h
  | some a =>
    symm
    rw [List.any_eq_true]
    exact ⟨a, List.mem_of_find?_eq_some h, by simpa using List.find?_some h⟩
theorem pl_snoc {s : List SSlot} {x : SSlot} {n : Str} (h : (pl s n).on = false) : pl (s ++ [x]) n = if x.item = n then ⟨x.mode, x.day, true⟩ else pl s n := by
  rw [pl_on] at h
  unfold pl
  have : s.find? (·.item == n) = none := by rw [List.find?_eq_none]; rw [List.any_eq_false] at h; exact h
  rw [List.find?_append, this]
  by_cases hx : x.item = n <;> simp [hx]
theorem pl_snoc_ne {s : List SSlot} {x : SSlot} {n : Str} (h : ¬ x.item = n) : pl (s ++ [x]) n = pl s n := by
  unfold pl
  rw [List.find?_append]
  cases s.find? (·.item == n) <;> simp [h]
theorem placed_set {w : SWork} (hg : Good1 w) {s : List SSlot} {x : SSlot} {i : Nat} {y : SItem} (hy : w.items[i]? = some y) (hn : y.name = x.item) (h : (pl s x.item).on = false) : (placed w s).set i ⟨x.mode, x.day, true⟩ = placed w (s ++ [x]) := by
  unfold placed
  apply List.ext_getElem?
  intro j
  by_cases hj : i = j
  · subst hj
    have hlt := (List.getElem?_eq_some_iff.1 hy).1
    rw [List.getElem?_set_self (by simpa using hlt), List.getElem?_map, hy]
    simp only [Option.map_some]
    rw [hn, pl_snoc h, if_pos rfl]
  · rw [List.getElem?_set_ne hj, List.getElem?_map, List.getElem?_map]
    cases hz : w.items[j]? with
    | none => rfl
    | some z =>
      simp only [Option.map_some]
      have hne : ¬ x.item = z.name := fun e => by
        have e1 := hg.uniq i y hy
        have e2 := hg.uniq j z hz
        rw [hn, e, e2] at e1
        omega
      rw [pl_snoc_ne hne]

theorem map_same {α β : Type} (l : List α) (b : β) : l.map (fun _ => b) = List.replicate l.length b := by
  induction l with
  | nil => rfl
  | cons a l ih => rw [List.map_cons, ih]; rfl

def slE (w : SWork) (l : List SSlot) : Int := if workE w = 0 then slotsE w l else workE w
def slotsR (w : SWork) (l : List SSlot) : PV := if slE w l = 0 then .tup [.sl ((placed w l).map ePl), I 0] else .tup [.nil, I (slE w l)]
theorem slotsR_bad {w : SWork} {l : List SSlot} {e : Int} (h : slE w l = e) (hne : e ≠ 0) : PV.tup [.nil, I e] = slotsR w l := by subst h; rw [slotsR, if_neg hne]
theorem workE_items {w : SWork} (h : workE w = 0) : itemsE w = 0 := by
  unfold workE at h
  split at h
  · split at h
    · split at h
      · assumption
      · rename_i h1; exact absurd h h1
    · rename_i h1; exact absurd h h1
  · rename_i h1; exact absurd h h1

theorem slotsErr_ret (w : SWork) (hw : Sane w) (l : List SSlot) : Ret Try.prog .shared 43 [.agg (eWork w), .sl (l.map eSlot)] (slotsR w l) := by
  have h1 := hw.items
  have hml : (w.items.map eItem).length = w.items.length := by simp
  have hll : (l.map eSlot).length = l.length := by simp
  have hn : ((w.items.map (·.name)).map eS).length = w.items.length := by simp
  refine Ret.of_pwp layOk mixed Go.Proofs.Try.func43 rfl (by decide) rfl rfl ?_
  repeat (first|refine pq_end rfl ?_|(refine zs rfl ?_ ?_;·repeat' constructor)|(refine zq rfl ?_ ?_;·repeat' constructor)|refine zw rfl ?_|refine zx rfl ?_|refine zb rfl ?_)
  (first|refine zsq rfl (q_callP rfl (checkWork_ret w hw) rfl (by repeat' constructor) rfl rfl) ?_|refine zqq rfl (q_callP rfl (checkWork_ret w hw) rfl (by repeat' constructor) rfl rfl) ?_)
  repeat (first|refine pq_end rfl ?_|(refine zs rfl ?_ ?_;·repeat' constructor)|(refine zq rfl ?_ ?_;·repeat' constructor)|refine zw rfl ?_|refine zx rfl ?_|refine zb rfl ?_)
  refine pw_cond rfl (fun h => ?_) (fun h => ?_)
  · have hne : ¬ workE w = 0 := by simpa using h
    repeat (first|refine pq_end rfl ?_|(refine zs rfl ?_ ?_;·repeat' constructor)|(refine zq rfl ?_ ?_;·repeat' constructor)|refine zw rfl ?_|refine zx rfl ?_|refine zb rfl ?_)
    exact end2 rfl rfl rfl rfl rfl trivial trivial (slotsR_bad (by rw [slE, if_neg hne]) hne)
  have hz : workE w = 0 := by simpa using h
  have hg := good_of (workE_items hz)
  have hsl : slE w l = slotsE w l := by rw [slE, if_pos hz]
  clear h
  repeat (first|refine pq_end rfl ?_|(refine zs rfl ?_ ?_;·repeat' constructor)|(refine zq rfl ?_ ?_;·repeat' constructor)|refine zw rfl ?_|refine zx rfl ?_|refine zb rfl ?_)
  refine pw_cond rfl (fun h => ?_) (fun h => ?_)
  · have hne : ¬ l.length = w.items.length := by intro e; simp [e] at h
    repeat (first|refine pq_end rfl ?_|(refine zs rfl ?_ ?_;·repeat' constructor)|(refine zq rfl ?_ ?_;·repeat' constructor)|refine zw rfl ?_|refine zx rfl ?_|refine zb rfl ?_)
    exact end2 rfl rfl rfl rfl rfl trivial trivial (slotsR_bad (by rw [hsl, slotsE, if_neg hne]) (by omega))
  have hlen : l.length = w.items.length := by simp at h; omega
  have it : slE w l = fstE l (slotE w l) := by rw [hsl, slotsE, if_pos hlen]
  clear h
  repeat (first|refine pq_end rfl ?_|(refine zs rfl ?_ ?_;·repeat' constructor)|(refine zq rfl ?_ ?_;·repeat' constructor)|refine zw rfl ?_|refine zx rfl ?_|refine zb rfl ?_)
  (first|refine zsq rfl (q_call rfl (itemNames_ret w (by omega)) rfl (by repeat' constructor) rfl) ?_|refine zqq rfl (q_call rfl (itemNames_ret w (by omega)) rfl (by repeat' constructor) rfl) ?_)
  repeat (first|refine pq_end rfl ?_|(refine zs rfl ?_ ?_;·repeat' constructor)|(refine zq rfl ?_ ?_;·repeat' constructor)|refine zw rfl ?_|refine zx rfl ?_|refine zb rfl ?_)
  refine ps_run (o_make rfl rfl rfl rfl rfl rfl rfl rfl (by omega) (by rw [hn]; show ((24 : Nat) : Int) * _ ≤ _; omega) (by rw [hn]; omega) ?_)
  repeat (first|refine pq_end rfl ?_|(refine zs rfl ?_ ?_;·repeat' constructor)|(refine zq rfl ?_ ?_;·repeat' constructor)|refine zw rfl ?_|refine zx rfl ?_|refine zb rfl ?_)
  refine pw_loop (ClearE l (slotE w l)) (fun k => [(1, .sl (l.map eSlot)), (2, .ptr 2 1 0 0), (7, .sl ((w.items.map (·.name)).map eS)), (8, .als 27 1 0 w.items.length), (28, .sl (l.map eSlot)), (29, I l.length), (30, I k)]) (fun k => [(2, 1, ⟨28, 9, [eWork w], 2⟩), (27, 1, ⟨128, 3, (placed w (l.take k)).map ePl, 0⟩)]) (fun k => l.length - k) 0 .zero' ⟨rfl, rfl, rfl, ?_, rfl, ?_, rfl, rfl, ?_, trivial⟩ ?_
  · show PV.als 27 1 0 (List.length (List.replicate (Int.toNat ((w.items.map (·.name)).map eS).length) _)) = _
    simp
  · show I ((l.map eSlot).length) = _
    rw [hll]
  · show (1, some (Cont.mk 128 3 (List.replicate (Int.toNat ((w.items.map (·.name)).map eS).length) _) 0)) = _
    rw [hn, Int.toNat_natCast]
    have : (placed w (l.take 0)).map ePl = List.replicate w.items.length (ePl ⟨0, 0, false⟩) := by
      rw [placed, List.map_map]
      exact map_same w.items (ePl ⟨0, 0, false⟩)
    rw [this]
    rfl
  intro k s hk
  have hpl : ∀ (i : Nat) (y : SItem), w.items[i]? = some y → ((placed w (l.take k)).map ePl)[i]? = some (ePl (pl (l.take k) y.name)) := fun i y hy => by rw [placed, List.map_map, List.getElem?_map, hy]; rfl
  repeat (first|refine pq_end rfl ?_|(refine zs rfl ?_ ?_;·repeat' constructor)|(refine zq rfl ?_ ?_;·repeat' constructor)|refine zw rfl ?_|refine zx rfl ?_|refine zb rfl ?_)
  refine pw_cond rfl (fun h => ?_) (fun h => ?_)
  · have hlt : k < l.length := by simpa using h
    obtain ⟨x, hx⟩ := get_lt hlt
    clear h
    have bad : ∀ e, slotE w l k x = e → e ≠ 0 → PV.tup [.nil, I e] = slotsR w l := fun e hb he => slotsR_bad (by rw [it, hk.found (e := e) hx hb he]) he
    repeat (first|refine pq_end rfl ?_|(refine zs rfl ?_ ?_;·repeat' constructor)|(refine zq rfl ?_ ?_;·repeat' constructor)|refine zw rfl ?_|refine zx rfl ?_|refine zb rfl ?_)
    (first|refine zsq rfl (q_idxm rfl rfl rfl rfl rfl (by omega) hx rfl) ?_|refine zqq rfl (q_idxm rfl rfl rfl rfl rfl (by omega) hx rfl) ?_)
    repeat (first|refine pq_end rfl ?_|(refine zs rfl ?_ ?_;·repeat' constructor)|(refine zq rfl ?_ ?_;·repeat' constructor)|refine zw rfl ?_|refine zx rfl ?_|refine zb rfl ?_)
    (first|refine zsq rfl (q_callP rfl (index_ret (w.items.map (·.name)) x.item (by simp; omega)) rfl (by repeat' constructor) rfl rfl) ?_|refine zqq rfl (q_callP rfl (index_ret (w.items.map (·.name)) x.item (by simp; omega)) rfl (by repeat' constructor) rfl rfl) ?_)
    have him : idx (w.items.map (·.name)) (· == x.item) = idx w.items (·.name == x.item) := idx_map _ _ _
    rw [him]
    repeat (first|refine pq_end rfl ?_|(refine zs rfl ?_ ?_;·repeat' constructor)|(refine zq rfl ?_ ?_;·repeat' constructor)|refine zw rfl ?_|refine zx rfl ?_|refine zb rfl ?_)
    refine pw_cond rfl (fun h => ?_) (fun h => ?_)
    · have hneg := of_decide_eq_true h
      repeat (first|refine pq_end rfl ?_|(refine zs rfl ?_ ?_;·repeat' constructor)|(refine zq rfl ?_ ?_;·repeat' constructor)|refine zw rfl ?_|refine zx rfl ?_|refine zb rfl ?_)
      exact end2 rfl rfl rfl rfl rfl trivial trivial (bad 6 (by rw [slotE, if_pos hneg]) (by omega))
    have hn0 := of_decide_eq_false h
    clear h
    obtain ⟨y, hy, hyn⟩ := idx_lt (Int.not_lt.1 hn0)
    have hyn : y.name = x.item := by simpa using hyn
    obtain ⟨i, hi⟩ : ∃ i : Nat, idx w.items (·.name == x.item) = i := ⟨_, (Int.toNat_of_nonneg (Int.not_lt.1 hn0)).symm⟩
    rw [hi, Int.toNat_natCast] at hy
    rw [hi] at him ⊢
    have hil := (List.getElem?_eq_some_iff.1 hy).1
    have hmo : modesOf w x = y.modes.length := by rw [modesOf, hi, Int.toNat_natCast, hy]
    have hrow := hpl i y hy
    rw [hyn] at hrow
    repeat (first|refine pq_end rfl ?_|(refine zs rfl ?_ ?_;·repeat' constructor)|(refine zq rfl ?_ ?_;·repeat' constructor)|refine zw rfl ?_|refine zx rfl ?_|refine zb rfl ?_)
    refine ps_q (q_idxA rfl rfl rfl rfl rfl rfl rfl (by omega) (by omega)) ?_
    rw [Int.toNat_natCast, Nat.zero_add i]
    repeat (first|refine pq_end rfl ?_|(refine zs rfl ?_ ?_;·repeat' constructor)|(refine zq rfl ?_ ?_;·repeat' constructor)|refine zw rfl ?_|refine zx rfl ?_|refine zb rfl ?_)
    refine ps_q (q_ldp rfl rfl rfl hrow rfl) ?_
    repeat (first|refine pq_end rfl ?_|(refine zs rfl ?_ ?_;·repeat' constructor)|(refine zq rfl ?_ ?_;·repeat' constructor)|refine zw rfl ?_|refine zx rfl ?_|refine zb rfl ?_)
    refine pw_cond rfl (fun h => ?_) (fun h => ?_)
    · have h : (pl (l.take k) x.item).on = true := h
      rw [pl_on] at h
      repeat (first|refine pq_end rfl ?_|(refine zs rfl ?_ ?_;·repeat' constructor)|(refine zq rfl ?_ ?_;·repeat' constructor)|refine zw rfl ?_|refine zx rfl ?_|refine zb rfl ?_)
      exact end2 rfl rfl rfl rfl rfl trivial trivial (bad 5 (by rw [slotE, if_neg hn0, if_pos h]) (by omega))
    have hoff : (pl (l.take k) x.item).on = false := h
    have hno := hoff
    rw [pl_on] at hno
    clear h
    have own : slotE w l k x = if inside x.mode 0 (y.modes.length - 1) && inside x.day 0 400 then 0 else 2 := by rw [slotE, if_neg hn0, hno, hmo]; rfl
    repeat (first|refine pq_end rfl ?_|(refine zs rfl ?_ ?_;·repeat' constructor)|(refine zq rfl ?_ ?_;·repeat' constructor)|refine zw rfl ?_|refine zx rfl ?_|refine zb rfl ?_)
    refine pw_draw 22 [48, 49, 50, 51, 52, 53, 54, 55, 56, 57, 58, 59, 60, 61, 62, 63, 64, 65, 66, 67, 68, 47] (by decide +kernel) ?_
    repeat (first|refine pq_end rfl ?_|(refine zs rfl ?_ ?_;·repeat' constructor)|(refine zq rfl ?_ ?_;·repeat' constructor)|refine zw rfl ?_|refine zx rfl ?_|refine zb rfl ?_)
    (first | refine ps_split rfl rfl (fun h => ?_) (fun h => ?_) | refine pq_split rfl rfl (fun h => ?_) (fun h => ?_))
    · have hb : inside x.mode 0 (y.modes.length - 1) = false := by have := of_decide_eq_true h; rw [inside, decide_eq_false (by omega)]; rfl
      repeat (first|refine pq_end rfl ?_|(refine zs rfl ?_ ?_;·repeat' constructor)|(refine zq rfl ?_ ?_;·repeat' constructor)|refine zw rfl ?_|refine zx rfl ?_|refine zb rfl ?_)
      exact end2 rfl rfl rfl rfl rfl trivial trivial (bad 2 (by rw [own, hb]; rfl) (by omega))
    have hlo := of_decide_eq_false h
    clear h
    repeat (first|refine pq_end rfl ?_|(refine zs rfl ?_ ?_;·repeat' constructor)|(refine zq rfl ?_ ?_;·repeat' constructor)|refine zw rfl ?_|refine zx rfl ?_|refine zb rfl ?_)
    (first|refine zsq rfl (q_idxm (n := (i : Int)) rfl rfl rfl rfl rfl (by omega) hy rfl) ?_|refine zqq rfl (q_idxm (n := (i : Int)) rfl rfl rfl rfl rfl (by omega) hy rfl) ?_)
    repeat (first|refine pq_end rfl ?_|(refine zs rfl ?_ ?_;·repeat' constructor)|(refine zq rfl ?_ ?_;·repeat' constructor)|refine zw rfl ?_|refine zx rfl ?_|refine zb rfl ?_)
    (first | refine ps_split rfl rfl (fun h => ?_) (fun h => ?_) | refine pq_split rfl rfl (fun h => ?_) (fun h => ?_))
    · have hb : inside x.mode 0 (y.modes.length - 1) = false := by have := of_decide_eq_true h; rw [List.length_map] at this; rw [inside, decide_eq_false (p := x.mode ≤ _) (by omega), Bool.and_false]
      repeat (first|refine pq_end rfl ?_|(refine zs rfl ?_ ?_;·repeat' constructor)|(refine zq rfl ?_ ?_;·repeat' constructor)|refine zw rfl ?_|refine zx rfl ?_|refine zb rfl ?_)
      exact end2 rfl rfl rfl rfl rfl trivial trivial (bad 2 (by rw [own, hb]; rfl) (by omega))
    have hb : inside x.mode 0 (y.modes.length - 1) = true := by have := of_decide_eq_false h; rw [List.length_map] at this; rw [inside, decide_eq_true (p := 0 ≤ x.mode) (by omega), decide_eq_true (p := x.mode ≤ _) (by omega)]; rfl
    clear h
    repeat (first|refine pq_end rfl ?_|(refine zs rfl ?_ ?_;·repeat' constructor)|(refine zq rfl ?_ ?_;·repeat' constructor)|refine zw rfl ?_|refine zx rfl ?_|refine zb rfl ?_)
    (first|refine zsq rfl (q_callP rfl (within_ret x.day 400) rfl (by repeat' constructor) rfl rfl) ?_|refine zqq rfl (q_callP rfl (within_ret x.day 400) rfl (by repeat' constructor) rfl rfl) ?_)
    repeat (first|refine pq_end rfl ?_|(refine zs rfl ?_ ?_;·repeat' constructor)|(refine zq rfl ?_ ?_;·repeat' constructor)|refine zw rfl ?_|refine zx rfl ?_|refine zb rfl ?_)
    refine pw_cond rfl (fun h => ?_) (fun h => ?_)
    · have hb2 : inside x.day 0 400 = false := by simpa using h
      repeat (first|refine pq_end rfl ?_|(refine zs rfl ?_ ?_;·repeat' constructor)|(refine zq rfl ?_ ?_;·repeat' constructor)|refine zw rfl ?_|refine zx rfl ?_|refine zb rfl ?_)
      exact end2 rfl rfl rfl rfl rfl trivial trivial (bad 2 (by rw [own, hb, hb2]; rfl) (by omega))
    have hb2 : inside x.day 0 400 = true := by simpa using h
    clear h
    repeat (first|refine pq_end rfl ?_|(refine zs rfl ?_ ?_;·repeat' constructor)|(refine zq rfl ?_ ?_;·repeat' constructor)|refine zw rfl ?_|refine zx rfl ?_|refine zb rfl ?_)
    refine ps_q (q_idxA rfl rfl rfl rfl rfl rfl rfl (by omega) (by omega)) ?_
    rw [Int.toNat_natCast, Nat.zero_add i]
    refine ps_run0 (o_store (kd' := 0) rfl rfl rfl hrow rfl rfl (by repeat' constructor) rfl rfl rfl rfl ?_)
    repeat (first|refine pq_end rfl ?_|(refine zs rfl ?_ ?_;·repeat' constructor)|(refine zq rfl ?_ ?_;·repeat' constructor)|refine zw rfl ?_|refine zx rfl ?_|refine zb rfl ?_)
    refine ⟨k + 1, hk.succ hx (by rw [own, hb, hb2]; rfl), by omega, rfl, rfl, rfl, rfl, rfl, rfl, ?_, rfl, ?_, trivial⟩
    · exact i64_next (by omega) (by omega)
    · refine Eq.trans (b := (1, some (Cont.mk 128 3 (((placed w (l.take k)).map ePl).set i (ePl ⟨x.mode, x.day, true⟩)) 0))) rfl ?_
      rw [← List.map_set, placed_set hg hy hyn hoff, take_snoc hx]
  · have hE : slE w l = 0 := by rw [it, hk.none (by simpa using h)]
    have htk : l.take k = l := List.take_of_length_le (by have := of_decide_eq_false h; omega)
    rw [htk]
    clear h
    repeat (first|refine pq_end rfl ?_|(refine zs rfl ?_ ?_;·repeat' constructor)|(refine zq rfl ?_ ?_;·repeat' constructor)|refine zw rfl ?_|refine zx rfl ?_|refine zb rfl ?_)
    exact end2 rfl rfl rfl rfl rfl ⟨rfl, rfl, by simp [placed]⟩ trivial (by rw [slotsR, if_pos hE])
end Go.Pv

/- What holds of work without an error; ends, costs, outages. -/
set_option maxHeartbeats 2000000
namespace Go.Pv
attribute [local irreducible] PWP POps PQuiet PSem XThen XBlock RetPost InlPost
open Go.Proofs

def modeAt (x : SItem) (k : Int) : SMode := (x.modes[k.toNat]?).getD ⟨0, 0⟩
def endP (x : SItem) (p : SPl) : Int := p.day + (modeAt x p.mode).days
/-- A slot that its item can have. -/
structure PlOk (x : SItem) (p : SPl) : Prop where
  lo : 0 ≤ p.mode
  mode : x.modes[p.mode.toNat]? = some (modeAt x p.mode)
  day : 0 ≤ p.day ∧ p.day ≤ 400
  days : 1 ≤ (modeAt x p.mode).days ∧ (modeAt x p.mode).days ≤ 60
  crew : 0 ≤ (modeAt x p.mode).crew ∧ (modeAt x p.mode).crew ≤ 1000

theorem inside_iff {n a b : Int} : inside n a b = true ↔ a ≤ n ∧ n ≤ b := by simp [inside]

structure ItemOk (w : SWork) (x : SItem) : Prop where
  trade : 0 ≤ idx w.trades (·.name == x.trade)
  modes : 1 ≤ x.modes.length ∧ x.modes.length ≤ 3
  mode : ∀ m ∈ x.modes, (1 ≤ m.days ∧ m.days ≤ 60) ∧ (0 ≤ m.crew ∧ m.crew ≤ 1000) ∧ m.crew ≤ crewOf w x
  space : x.space ≠ [] → noSpace w x.space = false
  kind : -1 ≤ x.kind ∧ x.kind ≤ 5
  kspace : x.kind ≠ -1 → x.space ≠ []
structure Well (w : SWork) : Prop where
  n40 : w.items.length ≤ 40
  t6 : w.trades.length ≤ 6
  good : Good1 w
  item : ∀ x ∈ w.items, ItemOk w x
  trade : ∀ t ∈ w.trades, (0 ≤ t.crew ∧ t.crew ≤ 1000) ∧ 0 ≤ t.rate ∧ t.rate ≤ 1000000
  tuniq : ∀ (i : Nat) t, w.trades[i]? = some t → idx w.trades (·.name == t.name) = i
  excls : w.excls.length ≤ 30
  outs : w.outs.length ≤ 20
  excl : ∀ x ∈ w.excls, (0 ≤ x.a ∧ x.a ≤ 5) ∧ (0 ≤ x.b ∧ x.b ≤ 5) ∧ 0 ≤ x.reach ∧ x.reach ≤ 2
  out : ∀ o ∈ w.outs, (0 ≤ o.frm ∧ o.frm ≤ 400) ∧ 0 ≤ o.to ∧ o.to ≤ 400
  hire : 0 ≤ w.hire ∧ w.hire ≤ 1000000000
  late : 0 ≤ w.late ∧ w.late ≤ 1000000000
  due : 0 ≤ w.due ∧ w.due ≤ 400
  last : 0 ≤ w.last ∧ w.last ≤ 400
  full : ¬ (ordS w).length < w.items.length

theorem ite_zero {c : Prop} [Decidable c] {a e : Int} (h : (if c then a else e) = 0) (he : e ≠ 0) : c ∧ a = 0 := by
  split at h
  · exact ⟨‹_›, h⟩
  · exact absurd h he
theorem ite_zero' {c : Prop} [Decidable c] {a e : Int} (h : (if c then e else a) = 0) (he : e ≠ 0) : ¬ c ∧ a = 0 := by
  split at h
  · exact absurd h he
  · exact ⟨‹_›, h⟩
theorem ite_self_zero {a b : Int} (h : (if a = 0 then b else a) = 0) : a = 0 ∧ b = 0 := by
  split at h
  · exact ⟨‹_›, h⟩
  · exact absurd h ‹_›

theorem itemOk_of {w : SWork} {x : SItem} (h : itemE w x = 0) : ItemOk w x := by
  unfold itemE at h
  obtain ⟨h1, h⟩ := ite_zero' h (by omega)
  obtain ⟨h2, h⟩ := ite_zero' h (by omega)
  obtain ⟨h3, h⟩ := ite_self_zero h
  obtain ⟨h4, h⟩ := ite_zero' h (by omega)
  obtain ⟨h5, h⟩ := ite_zero h (by omega)
  obtain ⟨h6, h⟩ := ite_zero' h (by omega)
  have hm := fstE_zero h3
  refine ⟨by omega, ?_, fun m hm' => ?_, fun hs => ?_, inside_iff.1 h5, fun hk hs => h6 ⟨hk, hs⟩⟩
  · simp only [Bool.or_eq_true, decide_eq_true_eq, not_or] at h2
    omega
  · obtain ⟨i, hi, rfl⟩ := List.getElem_of_mem hm'
    have := hm i _ (List.getElem?_eq_getElem hi)
    unfold modeE at this
    obtain ⟨g1, g2⟩ := ite_zero this (by omega)
    obtain ⟨g3, _⟩ := ite_zero' g2 (by omega)
    simp only [Bool.and_eq_true, inside_iff] at g1
    exact ⟨g1.1, g1.2, by omega⟩
  · cases hb : noSpace w x.space with
    | false => rfl
    | true => exact absurd ⟨hs, hb⟩ h4

theorem well_of {w : SWork} (h : workE w = 0) : Well w := by
  unfold workE at h
  obtain ⟨h1, h⟩ := ite_self_zero h
  obtain ⟨h2, h⟩ := ite_self_zero h
  obtain ⟨h3, h⟩ := ite_self_zero h
  obtain ⟨h4, h⟩ := ite_zero h (by omega)
  obtain ⟨h5, _⟩ := ite_zero' h (by omega)
  have hg := good_of h3
  unfold tradesE at h1
  obtain ⟨t1, t2⟩ := ite_zero' h1 (by omega)
  have t3 := fstE_zero t2
  unfold roomE at h2
  obtain ⟨r1, r2⟩ := ite_self_zero h2
  unfold rulesE at r2
  obtain ⟨r3, r2⟩ := ite_zero' r2 (by omega)
  obtain ⟨r4, r2⟩ := ite_self_zero r2
  obtain ⟨r5, r2⟩ := ite_zero' r2 (by omega)
  have r6 := fstE_zero r4
  have r7 := fstE_zero r2
  unfold itemsE at h3
  obtain ⟨i1, i2⟩ := ite_zero' h3 (by omega)
  have i3 := fstE_zero i2
  simp only [figE, Bool.and_eq_true, inside_iff] at h4
  have tr : ∀ (i : Nat) t, w.trades[i]? = some t → idx w.trades (·.name == t.name) = i ∧ tradeE t = 0 := fun i t ht => by
    have := t3 i t ht
    obtain ⟨_, g2⟩ := ite_zero this (by omega)
    exact ite_zero g2 (by omega)
  refine ⟨by omega, by omega, hg, fun x hx => ?_, fun t ht => ?_, fun i t ht => (tr i t ht).1, by omega, by omega, fun x hx => ?_, fun o ho => ?_, h4.1.1.1, h4.1.1.2, h4.1.2, h4.2, h5⟩
  · obtain ⟨i, hi, rfl⟩ := List.getElem_of_mem hx
    have := i3 i _ (List.getElem?_eq_getElem hi)
    obtain ⟨_, g2⟩ := ite_zero this (by omega)
    obtain ⟨_, g3⟩ := ite_zero g2 (by omega)
    exact itemOk_of g3
  · obtain ⟨i, hi, rfl⟩ := List.getElem_of_mem ht
    have := (tr i _ (List.getElem?_eq_getElem hi)).2
    unfold tradeE at this
    obtain ⟨g, _⟩ := ite_zero this (by omega)
    simp only [Bool.and_eq_true, inside_iff] at g
    exact g
  · obtain ⟨i, hi, rfl⟩ := List.getElem_of_mem hx
    have := r6 i _ (List.getElem?_eq_getElem hi)
    unfold exclE at this
    obtain ⟨g, _⟩ := ite_zero this (by omega)
    simp only [Bool.and_eq_true, inside_iff] at g
    exact ⟨g.1.1, g.1.2, g.2⟩
  · obtain ⟨i, hi, rfl⟩ := List.getElem_of_mem ho
    have := r7 i _ (List.getElem?_eq_getElem hi)
    unfold outE at this
    obtain ⟨g, _⟩ := ite_zero this (by omega)
    simp only [Bool.and_eq_true, inside_iff] at g
    exact g

theorem plOk_of {w : SWork} (hw : Well w) {x : SItem} (hx : x ∈ w.items) {p : SPl} (h1 : 0 ≤ p.mode) (h2 : p.mode < x.modes.length) (h3 : 0 ≤ p.day ∧ p.day ≤ 400) : PlOk x p := by
  have hlt : p.mode.toNat < x.modes.length := by omega
  have hm : x.modes[p.mode.toNat]? = some (modeAt x p.mode) := by rw [modeAt, List.getElem?_eq_getElem hlt]; rfl
  have := (hw.item x hx).mode _ (List.mem_of_getElem? hm)
  exact ⟨h1, hm, h3, this.1, this.2.1⟩

theorem slot_of {w : SWork} {l : List SSlot} (hs : slotsE w l = 0) {k : Nat} {sl : SSlot} (hk : l[k]? = some sl) : 0 ≤ idx w.items (·.name == sl.item) ∧ (l.take k).any (·.item == sl.item) = false ∧ (0 ≤ sl.mode ∧ sl.mode ≤ modesOf w sl - 1) ∧ 0 ≤ sl.day ∧ sl.day ≤ 400 := by
  unfold slotsE at hs
  obtain ⟨_, hs⟩ := ite_zero hs (by omega)
  have := fstE_zero hs k sl hk
  unfold slotE at this
  obtain ⟨g1, this⟩ := ite_zero' this (by omega)
  obtain ⟨g2, this⟩ := ite_zero' this (by omega)
  obtain ⟨g3, _⟩ := ite_zero this (by omega)
  simp only [Bool.and_eq_true, inside_iff] at g3
  exact ⟨by omega, by simpa using g2, g3.1, g3.2⟩

theorem end_ret (x : SItem) (p : SPl) (h : PlOk x p) : Ret Try.prog .shared 123 [.agg (ePl p), .agg (eItem x)] (I (endP x p)) := by
  have hm := h.mode
  have hlo := h.lo
  have h1 := h.day
  have h2 := h.days
  refine Ret.of_pwp layOk mixed Go.Proofs.Try.func123 rfl (by decide) rfl rfl ?_
  repeat (first|refine pq_end rfl ?_|(refine zs rfl ?_ ?_;·repeat' constructor)|(refine zq rfl ?_ ?_;·repeat' constructor)|refine zw rfl ?_|refine zx rfl ?_|refine zb rfl ?_)
  refine pw_draw 11 [5, 6, 7, 8, 9, 10, 11, 12, 13, 14, 4] (by decide +kernel) ?_
  repeat (first|refine pq_end rfl ?_|(refine zs rfl ?_ ?_;·repeat' constructor)|(refine zq rfl ?_ ?_;·repeat' constructor)|refine zw rfl ?_|refine zx rfl ?_|refine zb rfl ?_)
  (first|refine zsq rfl (q_idxm rfl rfl rfl rfl rfl (by omega) hm rfl) ?_|refine zqq rfl (q_idxm rfl rfl rfl rfl rfl (by omega) hm rfl) ?_)
  repeat (first|refine pq_end rfl ?_|(refine zs rfl ?_ ?_;·repeat' constructor)|(refine zq rfl ?_ ?_;·repeat' constructor)|refine zw rfl ?_|refine zx rfl ?_|refine zb rfl ?_)
  exact end1i rfl rfl (by rw [wrap_i64 (by omega) (by omega)]; rfl)

/-- The items with their slots. -/
def prs (w : SWork) (l : List SPl) : List (SItem × SPl) := w.items.zip l
theorem prs_at {w : SWork} {l : List SPl} {k : Nat} {x : SItem} {p : SPl} (hx : w.items[k]? = some x) (hp : l[k]? = some p) : (prs w l)[k]? = some (x, p) := by
  rw [prs, List.getElem?_zip_eq_some]; exact ⟨hx, hp⟩
/-- Slots that the items can have, as far as they are laid. -/
structure Plan (w : SWork) (l : List SPl) : Prop where
  len : l.length = w.items.length
  ok : ∀ (i : Nat) x p, w.items[i]? = some x → l[i]? = some p → p.on = true → PlOk x p

def imax (a b : Int) : Int := if a < b then b else a
theorem imax_bound {a b N : Int} (h1 : 0 ≤ a) (h2 : a ≤ N) (h3 : 0 ≤ b) (h4 : b ≤ N) : 0 ≤ imax a b ∧ imax a b ≤ N := by
  unfold imax
  split <;> omega
def durF (n : Int) (q : SItem × SPl) : Int := if q.2.on then imax n (endP q.1 q.2) else n
def durP (w : SWork) (l : List SPl) : Int := (prs w l).foldl durF 0
theorem durF_bound {w : SWork} {l : List SPl} (h : Plan w l) (k : Nat) : 0 ≤ ((prs w l).take k).foldl durF 0 ∧ ((prs w l).take k).foldl durF 0 ≤ 460 := by
  induction k with
  | zero => simp
  | succ k ih =>
    cases hq : (prs w l)[k]? with
    | none => rw [List.take_of_length_le (by have := List.getElem?_eq_none_iff.1 hq; omega)] at ih ⊢; exact ih
    | some q =>
      rw [take_snoc hq, List.foldl_append]
      obtain ⟨x, p⟩ := q
      rw [prs, List.getElem?_zip_eq_some] at hq
      generalize List.foldl durF 0 ((prs w l).take k) = n at ih ⊢
      show 0 ≤ durF _ _ ∧ durF _ _ ≤ 460
      unfold durF
      cases hon : p.on with
      | false => simpa [hon] using ih
      | true =>
        have hok := h.ok k x p hq.1 hq.2 hon
        have h1 := hok.day
        have h2 := hok.days
        have := imax_bound (N := 460) ih.1 ih.2 (show 0 ≤ endP x p by unfold endP; omega) (show endP x p ≤ 460 by unfold endP; omega)
        simpa [hon] using this
theorem durP_bound {w : SWork} {l : List SPl} (h : Plan w l) : 0 ≤ durP w l ∧ durP w l ≤ 460 := by
  have := durF_bound h (prs w l).length
  rwa [List.take_length] at this

theorem duration_ret (w : SWork) (l : List SPl) (h : Plan w l) (hn : w.items.length ≤ 100000) : Ret Try.prog .shared 84 [.agg (eWork w), .sl (l.map ePl)] (I (durP w l)) := by
  have hl := h.len
  have hml : (l.map ePl).length = l.length := by simp
  refine Ret.of_pwp layOk mixed Go.Proofs.Try.func84 rfl (by decide) rfl rfl ?_
  repeat (first|refine pq_end rfl ?_|(refine zs rfl ?_ ?_;·repeat' constructor)|(refine zq rfl ?_ ?_;·repeat' constructor)|refine zw rfl ?_|refine zx rfl ?_|refine zb rfl ?_)
  refine pw_loop (fun k => k ≤ l.length) (fun k => [(1, .sl (l.map ePl)), (2, .ptr 2 1 0 0), (5, I (((prs w l).take k).foldl durF 0)), (8, .sl (l.map ePl)), (9, I l.length), (10, I k)]) (fun _ => [(2, 1, ⟨28, 9, [eWork w], 2⟩)]) (fun k => l.length - k) 0 (Nat.zero_le _) ⟨rfl, rfl, rfl, rfl, ?_, rfl, rfl, trivial⟩ ?_
  · show I ((l.map ePl).length) = _
    rw [hml]
  intro k s hk
  repeat (first|refine pq_end rfl ?_|(refine zs rfl ?_ ?_;·repeat' constructor)|(refine zq rfl ?_ ?_;·repeat' constructor)|refine zw rfl ?_|refine zx rfl ?_|refine zb rfl ?_)
  refine pw_cond rfl (fun h => ?_) (fun h => ?_)
  · have hlt : k < l.length := by simpa using h
    obtain ⟨p, hp⟩ := get_lt hlt
    obtain ⟨x, hx⟩ := get_lt (show k < w.items.length by omega)
    clear h
    have hb := durF_bound ‹Plan w l› k
    have hs := take_snoc (prs_at hx hp)
    have hok := ‹Plan w l›.ok k x p hx hp
    repeat (first|refine pq_end rfl ?_|(refine zs rfl ?_ ?_;·repeat' constructor)|(refine zq rfl ?_ ?_;·repeat' constructor)|refine zw rfl ?_|refine zx rfl ?_|refine zb rfl ?_)
    (first|refine zsq rfl (q_idxm rfl rfl rfl rfl rfl (by omega) hp rfl) ?_|refine zqq rfl (q_idxm rfl rfl rfl rfl rfl (by omega) hp rfl) ?_)
    repeat (first|refine pq_end rfl ?_|(refine zs rfl ?_ ?_;·repeat' constructor)|(refine zq rfl ?_ ?_;·repeat' constructor)|refine zw rfl ?_|refine zx rfl ?_|refine zb rfl ?_)
    refine pw_cond rfl (fun h => ?_) (fun h => ?_)
    · have hon : p.on = true := h
      have hok := hok hon
      clear h
      repeat (first|refine pq_end rfl ?_|(refine zs rfl ?_ ?_;·repeat' constructor)|(refine zq rfl ?_ ?_;·repeat' constructor)|refine zw rfl ?_|refine zx rfl ?_|refine zb rfl ?_)
      refine pw_draw 9 [17, 18, 19, 20, 21, 22, 23, 24, 25] (by decide +kernel) ?_
      repeat (first|refine pq_end rfl ?_|(refine zs rfl ?_ ?_;·repeat' constructor)|(refine zq rfl ?_ ?_;·repeat' constructor)|refine zw rfl ?_|refine zx rfl ?_|refine zb rfl ?_)
      (first|refine zsq rfl (q_idxm rfl rfl rfl rfl rfl (by omega) hx rfl) ?_|refine zqq rfl (q_idxm rfl rfl rfl rfl rfl (by omega) hx rfl) ?_)
      repeat (first|refine pq_end rfl ?_|(refine zs rfl ?_ ?_;·repeat' constructor)|(refine zq rfl ?_ ?_;·repeat' constructor)|refine zw rfl ?_|refine zx rfl ?_|refine zb rfl ?_)
      (first|refine zsq rfl (q_callP rfl (end_ret x p hok) rfl (by repeat' constructor) rfl rfl) ?_|refine zqq rfl (q_callP rfl (end_ret x p hok) rfl (by repeat' constructor) rfl rfl) ?_)
      repeat (first|refine pq_end rfl ?_|(refine zs rfl ?_ ?_;·repeat' constructor)|(refine zq rfl ?_ ?_;·repeat' constructor)|refine zw rfl ?_|refine zx rfl ?_|refine zb rfl ?_)
      refine ⟨k + 1, hlt, by omega, rfl, rfl, ?_, rfl, rfl, ?_, rfl, trivial⟩
      · rw [hs, List.foldl_append]
        show _ = I (durF _ _)
        rw [durF, hon, if_pos rfl, imax]
        rfl
      · exact i64_next (by omega) (by omega)
    · have hon : p.on = false := h
      clear h
      repeat (first|refine pq_end rfl ?_|(refine zs rfl ?_ ?_;·repeat' constructor)|(refine zq rfl ?_ ?_;·repeat' constructor)|refine zw rfl ?_|refine zx rfl ?_|refine zb rfl ?_)
      refine ⟨k + 1, hlt, by omega, rfl, rfl, ?_, rfl, rfl, ?_, rfl, trivial⟩
      · rw [hs, List.foldl_append]
        show _ = I (durF _ _)
        rw [durF, hon]
        rfl
      · exact i64_next (by omega) (by omega)
  · have hge : k = l.length := by have := of_decide_eq_false h; omega
    subst hge
    repeat (first|refine pq_end rfl ?_|(refine zs rfl ?_ ?_;·repeat' constructor)|(refine zq rfl ?_ ?_;·repeat' constructor)|refine zw rfl ?_|refine zx rfl ?_|refine zb rfl ?_)
    refine end1i rfl rfl ?_
    rw [List.take_of_length_le]
    · rfl
    · simp [prs]; omega

theorem mul_bound {a b A B : Int} (h1 : 0 ≤ a) (h2 : a ≤ A) (h3 : 0 ≤ b) (h4 : b ≤ B) : 0 ≤ a * b ∧ a * b ≤ A * B :=
  ⟨Int.mul_nonneg h1 h3, Int.mul_le_mul h2 h4 h3 (by omega)⟩
def rentP (w : SWork) (n : Int) : Int := w.hire * n + w.late * imax 0 (n - w.due)
theorem rent_bound {w : SWork} (hw : Well w) {n : Int} (h : 0 ≤ n ∧ n ≤ 1000) : (0 ≤ w.hire * n ∧ w.hire * n ≤ 1000000000000) ∧ (0 ≤ imax 0 (n - w.due) ∧ imax 0 (n - w.due) ≤ 1000) ∧ (0 ≤ w.late * imax 0 (n - w.due) ∧ w.late * imax 0 (n - w.due) ≤ 1000000000000) := by
  have h1 := hw.hire
  have h2 := hw.late
  have h3 := hw.due
  have hm : 0 ≤ imax 0 (n - w.due) ∧ imax 0 (n - w.due) ≤ 1000 := by unfold imax; split <;> omega
  exact ⟨mul_bound (A := 1000000000) (B := 1000) h1.1 h1.2 h.1 h.2, hm, mul_bound (A := 1000000000) (B := 1000) h2.1 h2.2 hm.1 hm.2⟩
theorem rent_ret (w : SWork) (hw : Well w) (n : Int) (h : 0 ≤ n ∧ n ≤ 1000) : Ret Try.prog .shared 125 [.agg (eWork w), I n] (I (rentP w n)) := by
  obtain ⟨h1, h2, h3⟩ := rent_bound hw h
  have h4 := hw.due
  refine Ret.of_pwp layOk mixed Go.Proofs.Try.func125 rfl (by decide) rfl rfl ?_
  repeat (first|refine pq_end rfl ?_|(refine zs rfl ?_ ?_;·repeat' constructor)|(refine zq rfl ?_ ?_;·repeat' constructor)|refine zw rfl ?_|refine zx rfl ?_|refine zb rfl ?_)
  refine end1i rfl rfl ?_
  show _ = I (w.hire * n + w.late * imax 0 (n - w.due))
  have e1 : IntKind.i64.wrap (n - w.due) = n - w.due := wrap_i64 (by omega) (by omega)
  rw [e1]
  show PV.int .i64 (IntKind.i64.wrap (IntKind.i64.wrap (w.hire * n) + IntKind.i64.wrap (w.late * imax 0 (n - w.due)))) = _
  rw [wrap_i64 (n := w.hire * n) (by omega) (by omega), wrap_i64 (n := w.late * _) (by omega) (by omega), wrap_i64 (by omega) (by omega)]
end Go.Pv

/- Which items exclude each other; outages. -/
set_option maxHeartbeats 2000000
namespace Go.Pv
attribute [local irreducible] PWP POps PQuiet PSem XThen XBlock RetPost InlPost
open Go.Proofs

def nearS (a b : Str) (s : SSpace) : Bool := (decide (s.name = a) && s.next.any (· == b)) || (decide (s.name = b) && s.next.any (· == a))
def nearP (w : SWork) (a b : Str) : Int := if a = b then 0 else if w.spaces.any (nearS a b) then 1 else 2

theorem near_ret (w : SWork) (hw : Sane w) (a b : Str) : Ret Try.prog .shared 115 [.agg (eWork w), .str a, .str b] (I (nearP w a b)) := by
  have h3 := hw.spaces
  refine Ret.of_pwp layOk mixed Go.Proofs.Try.func115 rfl (by decide) rfl rfl ?_
  repeat (first|refine pq_end rfl ?_|(refine zs rfl ?_ ?_;·repeat' constructor)|(refine zq rfl ?_ ?_;·repeat' constructor)|refine zw rfl ?_|refine zx rfl ?_|refine zb rfl ?_)
  refine pw_cond rfl (fun h => ?_) (fun h => ?_)
  · have he := of_decide_eq_true h
    repeat (first|refine pq_end rfl ?_|(refine zs rfl ?_ ?_;·repeat' constructor)|(refine zq rfl ?_ ?_;·repeat' constructor)|refine zw rfl ?_|refine zx rfl ?_|refine zb rfl ?_)
    exact end1i rfl rfl (by rw [nearP, if_pos he])
  have hne := of_decide_eq_false h
  clear h
  repeat (first|refine pq_end rfl ?_|(refine zs rfl ?_ ?_;·repeat' constructor)|(refine zq rfl ?_ ?_;·repeat' constructor)|refine zw rfl ?_|refine zx rfl ?_|refine zb rfl ?_)
  refine pw_loop (Clear w.spaces (nearS a b)) (fun k => [(1, .str a), (2, .str b), (13, .sl (w.spaces.map eSpace)), (14, I w.spaces.length), (15, I k)]) (fun _ => []) (fun k => w.spaces.length - k) 0 .zero ⟨rfl, rfl, rfl, ?_, rfl, trivial⟩ ?_
  · show I ((w.spaces.map eSpace).length) = _
    simp
  intro k s hk
  repeat (first|refine pq_end rfl ?_|(refine zs rfl ?_ ?_;·repeat' constructor)|(refine zq rfl ?_ ?_;·repeat' constructor)|refine zw rfl ?_|refine zx rfl ?_|refine zb rfl ?_)
  refine pw_cond rfl (fun h => ?_) (fun h => ?_)
  · have hlt : k < w.spaces.length := by simpa using h
    obtain ⟨x, hx⟩ := get_lt hlt
    have hax := hw.next x (List.mem_of_getElem? hx)
    clear h
    repeat (first|refine pq_end rfl ?_|(refine zs rfl ?_ ?_;·repeat' constructor)|(refine zq rfl ?_ ?_;·repeat' constructor)|refine zw rfl ?_|refine zx rfl ?_|refine zb rfl ?_)
    (first|refine zsq rfl (q_idxm rfl rfl rfl rfl rfl (by omega) hx rfl) ?_|refine zqq rfl (q_idxm rfl rfl rfl rfl rfl (by omega) hx rfl) ?_)
    have yes : nearS a b x = true → PV.int .i64 1 = I (nearP w a b) := fun hy => by rw [nearP, if_neg hne, if_pos (any_of hx hy)]
    have no : nearS a b x = false → Clear w.spaces (nearS a b) (k + 1) := fun hy => hk.succ hx hy
    repeat (first|refine pq_end rfl ?_|(refine zs rfl ?_ ?_;·repeat' constructor)|(refine zq rfl ?_ ?_;·repeat' constructor)|refine zw rfl ?_|refine zx rfl ?_|refine zb rfl ?_)
    (first | refine ps_split rfl rfl (fun h => ?_) (fun h => ?_) | refine pq_split rfl rfl (fun h => ?_) (fun h => ?_))
    · have ha := of_decide_eq_true h
      clear h
      repeat (first|refine pq_end rfl ?_|(refine zs rfl ?_ ?_;·repeat' constructor)|(refine zq rfl ?_ ?_;·repeat' constructor)|refine zw rfl ?_|refine zx rfl ?_|refine zb rfl ?_)
      (first|refine zsq rfl (q_callP rfl (contains_ret x.next b (by omega)) rfl (by repeat' constructor) rfl rfl) ?_|refine zqq rfl (q_callP rfl (contains_ret x.next b (by omega)) rfl (by repeat' constructor) rfl rfl) ?_)
      repeat (first|refine pq_end rfl ?_|(refine zs rfl ?_ ?_;·repeat' constructor)|(refine zq rfl ?_ ?_;·repeat' constructor)|refine zw rfl ?_|refine zx rfl ?_|refine zb rfl ?_)
      (first | refine ps_split rfl rfl (fun h => ?_) (fun h => ?_) | refine pq_split rfl rfl (fun h => ?_) (fun h => ?_))
      · have hb : x.next.any (· == b) = true := h
        repeat (first|refine pq_end rfl ?_|(refine zs rfl ?_ ?_;·repeat' constructor)|(refine zq rfl ?_ ?_;·repeat' constructor)|refine zw rfl ?_|refine zx rfl ?_|refine zb rfl ?_)
        exact end1i rfl rfl (yes (by simp [nearS, ha, hb]))
      have hb : x.next.any (· == b) = false := h
      clear h
      repeat (first|refine pq_end rfl ?_|(refine zs rfl ?_ ?_;·repeat' constructor)|(refine zq rfl ?_ ?_;·repeat' constructor)|refine zw rfl ?_|refine zx rfl ?_|refine zb rfl ?_)
      (first | refine ps_split rfl rfl (fun h => ?_) (fun h => ?_) | refine pq_split rfl rfl (fun h => ?_) (fun h => ?_))
      · have hc := of_decide_eq_true h
        exact absurd (ha.symm.trans hc) hne
      have hc := of_decide_eq_false h
      clear h
      repeat (first|refine pq_end rfl ?_|(refine zs rfl ?_ ?_;·repeat' constructor)|(refine zq rfl ?_ ?_;·repeat' constructor)|refine zw rfl ?_|refine zx rfl ?_|refine zb rfl ?_)
      refine ⟨k + 1, no (by simp only [nearS, hb, hc, Bool.and_false, decide_false, Bool.false_and, Bool.or_false]), by omega, rfl, rfl, rfl, rfl, ?_, trivial⟩
      exact i64_next (by omega) (by omega)
    have ha := of_decide_eq_false h
    clear h
    repeat (first|refine pq_end rfl ?_|(refine zs rfl ?_ ?_;·repeat' constructor)|(refine zq rfl ?_ ?_;·repeat' constructor)|refine zw rfl ?_|refine zx rfl ?_|refine zb rfl ?_)
    (first | refine ps_split rfl rfl (fun h => ?_) (fun h => ?_) | refine pq_split rfl rfl (fun h => ?_) (fun h => ?_))
    · have hc := of_decide_eq_true h
      clear h
      repeat (first|refine pq_end rfl ?_|(refine zs rfl ?_ ?_;·repeat' constructor)|(refine zq rfl ?_ ?_;·repeat' constructor)|refine zw rfl ?_|refine zx rfl ?_|refine zb rfl ?_)
      (first|refine zsq rfl (q_callP rfl (contains_ret x.next a (by omega)) rfl (by repeat' constructor) rfl rfl) ?_|refine zqq rfl (q_callP rfl (contains_ret x.next a (by omega)) rfl (by repeat' constructor) rfl rfl) ?_)
      repeat (first|refine pq_end rfl ?_|(refine zs rfl ?_ ?_;·repeat' constructor)|(refine zq rfl ?_ ?_;·repeat' constructor)|refine zw rfl ?_|refine zx rfl ?_|refine zb rfl ?_)
      refine pw_cond rfl (fun h => ?_) (fun h => ?_)
      · have hb : x.next.any (· == a) = true := h
        repeat (first|refine pq_end rfl ?_|(refine zs rfl ?_ ?_;·repeat' constructor)|(refine zq rfl ?_ ?_;·repeat' constructor)|refine zw rfl ?_|refine zx rfl ?_|refine zb rfl ?_)
        exact end1i rfl rfl (yes (by simp [nearS, hc, hb]))
      have hb : x.next.any (· == a) = false := h
      clear h
      repeat (first|refine pq_end rfl ?_|(refine zs rfl ?_ ?_;·repeat' constructor)|(refine zq rfl ?_ ?_;·repeat' constructor)|refine zw rfl ?_|refine zx rfl ?_|refine zb rfl ?_)
      refine ⟨k + 1, no (by simp only [nearS, hb, ha, Bool.and_false, decide_false, Bool.false_and, Bool.or_false]), by omega, rfl, rfl, rfl, rfl, ?_, trivial⟩
      exact i64_next (by omega) (by omega)
    have hc := of_decide_eq_false h
    clear h
    repeat (first|refine pq_end rfl ?_|(refine zs rfl ?_ ?_;·repeat' constructor)|(refine zq rfl ?_ ?_;·repeat' constructor)|refine zw rfl ?_|refine zx rfl ?_|refine zb rfl ?_)
    refine ⟨k + 1, no (by simp only [nearS, ha, hc, decide_false, Bool.false_and, Bool.or_false]), by omega, rfl, rfl, rfl, rfl, ?_, trivial⟩
    exact i64_next (by omega) (by omega)
  · have hno := hk.any (by simpa using h)
    repeat (first|refine pq_end rfl ?_|(refine zs rfl ?_ ?_;·repeat' constructor)|(refine zq rfl ?_ ?_;·repeat' constructor)|refine zw rfl ?_|refine zx rfl ?_|refine zb rfl ?_)
    exact end1i rfl rfl (by rw [nearP, if_neg hne, hno]; rfl)

def exclK (a b : SItem) (x : SExcl) : Bool := (decide (x.a = a.kind) && decide (x.b = b.kind)) || (decide (x.a = b.kind) && decide (x.b = a.kind))
def exclB (w : SWork) (a b : SItem) (x : SExcl) : Bool := exclK a b x && decide (nearP w a.space b.space ≤ x.reach)

theorem excl1_ret (w : SWork) (hw : Sane w) (a b : SItem) (x : SExcl) : Ret Try.prog .shared 114 [.agg (eExcl x), .dref (eItem a) 0, .dref (eItem b) 0, .dref (eWork w) 0] (.bool (exclB w a b x)) := by
  refine Ret.of_pwp layOk mixed Go.Proofs.Try.func114 rfl (by decide) rfl rfl ?_
  repeat (first|refine pq_end rfl ?_|(refine zs rfl ?_ ?_;·repeat' constructor)|(refine zq rfl ?_ ?_;·repeat' constructor)|refine zw rfl ?_|refine zx rfl ?_|refine zb rfl ?_)
  refine ps_cut 100 [(1, .dref (eItem a) 0), (2, .dref (eItem b) 0), (3, .dref (eWork w) 0), (4, .ptr 4 1 0 0), (6, .bool (exclK a b x))] [(4, 1, ⟨117, 3, [eExcl x], 2⟩)] ?_ ?_
  · repeat' (first|refine pq_end rfl ?_|(refine zs rfl ?_ ?_;·repeat' constructor)|(refine zq rfl ?_ ?_;·repeat' constructor)|refine zw rfl ?_|refine zx rfl ?_|refine zb rfl ?_|refine ps_split rfl rfl (fun h => ?_) (fun h => ?_)|refine pq_split rfl rfl (fun h => ?_) (fun h => ?_))
    all_goals exact ⟨rfl, rfl, rfl, rfl, congrArg PV.bool (by simp_all [exclK]), rfl, trivial⟩
  intro s
  repeat (first|refine pq_end rfl ?_|(refine zs rfl ?_ ?_;·repeat' constructor)|(refine zq rfl ?_ ?_;·repeat' constructor)|refine zw rfl ?_|refine zx rfl ?_|refine zb rfl ?_)
  refine pw_draw 13 [33, 34, 35, 36, 37, 38, 39, 40, 41, 42, 43, 44, 5] (by decide +kernel) ?_
  repeat (first|refine pq_end rfl ?_|(refine zs rfl ?_ ?_;·repeat' constructor)|(refine zq rfl ?_ ?_;·repeat' constructor)|refine zw rfl ?_|refine zx rfl ?_|refine zb rfl ?_)
  (first | refine ps_split rfl rfl (fun h => ?_) (fun h => ?_) | refine pq_split rfl rfl (fun h => ?_) (fun h => ?_))
  · have hk : exclK a b x = true := h
    repeat (first|refine pq_end rfl ?_|(refine zs rfl ?_ ?_;·repeat' constructor)|(refine zq rfl ?_ ?_;·repeat' constructor)|refine zw rfl ?_|refine zx rfl ?_|refine zb rfl ?_)
    (first|refine zsq rfl (q_callP rfl (near_ret w hw a.space b.space) rfl (by repeat' constructor) rfl rfl) ?_|refine zqq rfl (q_callP rfl (near_ret w hw a.space b.space) rfl (by repeat' constructor) rfl rfl) ?_)
    repeat (first|refine pq_end rfl ?_|(refine zs rfl ?_ ?_;·repeat' constructor)|(refine zq rfl ?_ ?_;·repeat' constructor)|refine zw rfl ?_|refine zx rfl ?_|refine zb rfl ?_)
    exact end1b rfl rfl (by rw [exclB, hk]; rfl)
  · have hk : exclK a b x = false := h
    repeat (first|refine pq_end rfl ?_|(refine zs rfl ?_ ?_;·repeat' constructor)|(refine zq rfl ?_ ?_;·repeat' constructor)|refine zw rfl ?_|refine zx rfl ?_|refine zb rfl ?_)
    exact end1b rfl rfl (by rw [exclB, hk]; rfl)

theorem indexX_ret (l : List SExcl) (f : FuncId) (c0 c1 c2 : List PV) (p : SExcl → Bool) (hw : l.length ≤ 1000000) (hf : ∀ x, x ∈ l → Ret Try.prog .shared f (.agg (eExcl x) :: [.dref c0 0, .dref c1 0, .dref c2 0]) (.bool (p x))) : Ret Try.prog .shared 131 [.sl (l.map eExcl), .clo f [.dref c0 0, .dref c1 0, .dref c2 0]] (I (idx l p)) := by
  refine Ret.of_pwp layOk mixed Go.Proofs.Try.func131 rfl (by decide) rfl rfl ?_
  repeat (first|refine pq_end rfl ?_|(refine zs rfl ?_ ?_;·repeat' constructor)|(refine zq rfl ?_ ?_;·repeat' constructor)|refine zw rfl ?_|refine zx rfl ?_|refine zb rfl ?_)
  refine pw_loop (Clear l p) (fun k => [(0, .sl (l.map eExcl)), (1, .clo f [.dref c0 0, .dref c1 0, .dref c2 0]), (7, I l.length), (8, I k)]) (fun _ => []) (fun k => l.length - k) 0 .zero ⟨rfl, rfl, ?_, rfl, trivial⟩ ?_
  · show I ((l.map eExcl).length) = _
    simp
  intro k s hk
  repeat (first|refine pq_end rfl ?_|(refine zs rfl ?_ ?_;·repeat' constructor)|(refine zq rfl ?_ ?_;·repeat' constructor)|refine zw rfl ?_|refine zx rfl ?_|refine zb rfl ?_)
  refine pw_cond rfl (fun h => ?_) (fun h => ?_)
  · have hlt : k < l.length := by simpa using h
    obtain ⟨x, hx⟩ := get_lt hlt
    clear h
    repeat (first|refine pq_end rfl ?_|(refine zs rfl ?_ ?_;·repeat' constructor)|(refine zq rfl ?_ ?_;·repeat' constructor)|refine zw rfl ?_|refine zx rfl ?_|refine zb rfl ?_)
    (first|refine zsq rfl (q_idxm rfl rfl rfl rfl rfl (by omega) hx rfl) ?_|refine zqq rfl (q_idxm rfl rfl rfl rfl rfl (by omega) hx rfl) ?_)
    repeat (first|refine pq_end rfl ?_|(refine zs rfl ?_ ?_;·repeat' constructor)|(refine zq rfl ?_ ?_;·repeat' constructor)|refine zw rfl ?_|refine zx rfl ?_|refine zb rfl ?_)
    (first|refine zsq rfl (q_callP rfl (hf x (List.mem_of_getElem? hx)) rfl (by repeat' constructor) rfl rfl) ?_|refine zqq rfl (q_callP rfl (hf x (List.mem_of_getElem? hx)) rfl (by repeat' constructor) rfl rfl) ?_)
    repeat (first|refine pq_end rfl ?_|(refine zs rfl ?_ ?_;·repeat' constructor)|(refine zq rfl ?_ ?_;·repeat' constructor)|refine zw rfl ?_|refine zx rfl ?_|refine zb rfl ?_)
    refine pw_cond rfl (fun h => ?_) (fun h => ?_)
    · repeat (first|refine pq_end rfl ?_|(refine zs rfl ?_ ?_;·repeat' constructor)|(refine zq rfl ?_ ?_;·repeat' constructor)|refine zw rfl ?_|refine zx rfl ?_|refine zb rfl ?_)
      exact end1i rfl rfl (by rw [hk.found hx h])
    · repeat (first|refine pq_end rfl ?_|(refine zs rfl ?_ ?_;·repeat' constructor)|(refine zq rfl ?_ ?_;·repeat' constructor)|refine zw rfl ?_|refine zx rfl ?_|refine zb rfl ?_)
      refine ⟨k + 1, hk.succ hx h, by omega, rfl, rfl, rfl, ?_, trivial⟩
      exact i64_next (by omega) (by omega)
  · repeat (first|refine pq_end rfl ?_|(refine zs rfl ?_ ?_;·repeat' constructor)|(refine zq rfl ?_ ?_;·repeat' constructor)|refine zw rfl ?_|refine zx rfl ?_|refine zb rfl ?_)
    exact end1i rfl rfl (by rw [hk.none (by simpa using h)])
theorem containsX_ret (l : List SExcl) (f : FuncId) (c0 c1 c2 : List PV) (p : SExcl → Bool) (hw : l.length ≤ 1000000) (hf : ∀ x, x ∈ l → Ret Try.prog .shared f (.agg (eExcl x) :: [.dref c0 0, .dref c1 0, .dref c2 0]) (.bool (p x))) : Ret Try.prog .shared 113 [.sl (l.map eExcl), .clo f [.dref c0 0, .dref c1 0, .dref c2 0]] (.bool (l.any p)) := by
  refine Ret.of_pwp layOk mixed Go.Proofs.Try.func113 rfl (by decide) rfl rfl ?_
  repeat (first|refine pq_end rfl ?_|(refine zs rfl ?_ ?_;·repeat' constructor)|(refine zq rfl ?_ ?_;·repeat' constructor)|refine zw rfl ?_|refine zx rfl ?_|refine zb rfl ?_)
  (first|refine zsq rfl (q_callP rfl (indexX_ret l f c0 c1 c2 p hw hf) rfl (by repeat' constructor) rfl rfl) ?_|refine zqq rfl (q_callP rfl (indexX_ret l f c0 c1 c2 p hw hf) rfl (by repeat' constructor) rfl rfl) ?_)
  repeat (first|refine pq_end rfl ?_|(refine zs rfl ?_ ?_;·repeat' constructor)|(refine zq rfl ?_ ?_;·repeat' constructor)|refine zw rfl ?_|refine zx rfl ?_|refine zb rfl ?_)
  exact end1b rfl rfl (by rw [← idx_nonneg])

def exclP (w : SWork) (a b : SItem) : Bool := !(decide (a.name = b.name) || decide (a.kind < 0) || decide (b.kind < 0)) && w.excls.any (exclB w a b)
theorem excludes_ret (w : SWork) (hw : Sane w) (a b : SItem) : Ret Try.prog .shared 75 [.agg (eWork w), .agg (eItem a), .agg (eItem b)] (.bool (exclP w a b)) := by
  have h1 := hw.excls
  refine Ret.of_pwp layOk mixed Go.Proofs.Try.func75 rfl (by decide) rfl rfl ?_
  repeat (first|refine pq_end rfl ?_|(refine zs rfl ?_ ?_;·repeat' constructor)|(refine zq rfl ?_ ?_;·repeat' constructor)|refine zw rfl ?_|refine zx rfl ?_|refine zb rfl ?_)
  refine ps_cut 100 [(3, .ptr 3 1 0 0), (4, .ptr 4 1 0 0), (5, .ptr 5 1 0 0), (21, .bool (decide (a.name = b.name) || decide (a.kind < 0) || decide (b.kind < 0)))] [(3, 1, ⟨28, 9, [eWork w], 2⟩), (4, 1, ⟨57, 7, [eItem a], 2⟩), (5, 1, ⟨57, 7, [eItem b], 2⟩)] ?_ ?_
  · repeat' (first|refine pq_end rfl ?_|(refine zs rfl ?_ ?_;·repeat' constructor)|(refine zq rfl ?_ ?_;·repeat' constructor)|refine zw rfl ?_|refine zx rfl ?_|refine zb rfl ?_|refine ps_split rfl rfl (fun h => ?_) (fun h => ?_)|refine pq_split rfl rfl (fun h => ?_) (fun h => ?_))
    all_goals exact ⟨rfl, rfl, rfl, congrArg PV.bool (by simp_all <;> omega), rfl, rfl, rfl, trivial⟩
  intro s
  repeat (first|refine pq_end rfl ?_|(refine zs rfl ?_ ?_;·repeat' constructor)|(refine zq rfl ?_ ?_;·repeat' constructor)|refine zw rfl ?_|refine zx rfl ?_|refine zb rfl ?_)
  refine pw_cond rfl (fun h => ?_) (fun h => ?_)
  · have hk : (decide (a.name = b.name) || decide (a.kind < 0) || decide (b.kind < 0)) = true := h
    repeat (first|refine pq_end rfl ?_|(refine zs rfl ?_ ?_;·repeat' constructor)|(refine zq rfl ?_ ?_;·repeat' constructor)|refine zw rfl ?_|refine zx rfl ?_|refine zb rfl ?_)
    exact end1b rfl rfl (by rw [exclP, hk]; rfl)
  · have hk : (decide (a.name = b.name) || decide (a.kind < 0) || decide (b.kind < 0)) = false := h
    repeat (first|refine pq_end rfl ?_|(refine zs rfl ?_ ?_;·repeat' constructor)|(refine zq rfl ?_ ?_;·repeat' constructor)|refine zw rfl ?_|refine zx rfl ?_|refine zb rfl ?_)
    (first|refine zsq rfl (q_callP rfl (containsX_ret w.excls 114 (eItem a) (eItem b) (eWork w) (exclB w a b) (by omega) (fun x _ => excl1_ret w hw a b x)) rfl (by repeat' constructor) rfl rfl) ?_|refine zqq rfl (q_callP rfl (containsX_ret w.excls 114 (eItem a) (eItem b) (eWork w) (exclB w a b) (by omega) (fun x _ => excl1_ret w hw a b x)) rfl (by repeat' constructor) rfl rfl) ?_)
    repeat (first|refine pq_end rfl ?_|(refine zs rfl ?_ ?_;·repeat' constructor)|(refine zq rfl ?_ ?_;·repeat' constructor)|refine zw rfl ?_|refine zx rfl ?_|refine zb rfl ?_)
    exact end1b rfl rfl (by rw [exclP, hk]; rfl)

def apartP (w : SWork) (a b : SItem) : Bool := (a.crane && b.crane) || exclP w a b
theorem apart_ret (w : SWork) (hw : Sane w) {i k : Nat} {a b : SItem} (ha : w.items[i]? = some a) (hb : w.items[k]? = some b) : Ret Try.prog .shared 129 [.agg (eWork w), I i, I k] (.bool (apartP w a b)) := by
  refine Ret.of_pwp layOk mixed Go.Proofs.Try.func129 rfl (by decide) rfl rfl ?_
  ((repeat (first | refine ps_nil ?_ | refine pq_nil ?_ | refine x_norm ?_ | refine pw_seq ?_)); refine pw_region ?_)
  refine ps_run (o_box rfl rfl rfl (by repeat' constructor) rfl ?_)
  refine ps_v rfl trivial ?_
  refine ps_nil ?_
  refine x_norm ?_
  refine pw_ghost (Ghost.data (k := 3) (t := 3) rfl rfl rfl rfl) ?_
  refine pw_seq ?_
  refine pw_draw2 10 2 [9, 10, 11, 12, 13, 14, 15, 16, 17, 18, 7, 8] [5,6,7,8,9] (by decide +kernel) rfl ?_
  repeat (first|refine pq_end rfl ?_|(refine zs rfl ?_ ?_;·repeat' constructor)|(refine zq rfl ?_ ?_;·repeat' constructor)|refine zw rfl ?_|refine zx rfl ?_|refine zb rfl ?_)
  (first|refine zsq rfl (q_idxm rfl rfl rfl rfl rfl (by omega) ha rfl) ?_|refine zqq rfl (q_idxm rfl rfl rfl rfl rfl (by omega) ha rfl) ?_)
  repeat (first|refine pq_end rfl ?_|(refine zs rfl ?_ ?_;·repeat' constructor)|(refine zq rfl ?_ ?_;·repeat' constructor)|refine zw rfl ?_|refine zx rfl ?_|refine zb rfl ?_)
  (first|refine zsq rfl (q_idxm rfl rfl rfl rfl rfl (by omega) hb rfl) ?_|refine zqq rfl (q_idxm rfl rfl rfl rfl rfl (by omega) hb rfl) ?_)
  repeat (first|refine pq_end rfl ?_|(refine zs rfl ?_ ?_;·repeat' constructor)|(refine zq rfl ?_ ?_;·repeat' constructor)|refine zw rfl ?_|refine zx rfl ?_|refine zb rfl ?_)
  (first | refine ps_split rfl rfl (fun h => ?_) (fun h => ?_) | refine pq_split rfl rfl (fun h => ?_) (fun h => ?_))
  · have h1 : a.crane = true := h
    clear h
    repeat (first|refine pq_end rfl ?_|(refine zs rfl ?_ ?_;·repeat' constructor)|(refine zq rfl ?_ ?_;·repeat' constructor)|refine zw rfl ?_|refine zx rfl ?_|refine zb rfl ?_)
    (first | refine ps_split rfl rfl (fun h => ?_) (fun h => ?_) | refine pq_split rfl rfl (fun h => ?_) (fun h => ?_))
    · have h2 : b.crane = true := h
      repeat (first|refine pq_end rfl ?_|(refine zs rfl ?_ ?_;·repeat' constructor)|(refine zq rfl ?_ ?_;·repeat' constructor)|refine zw rfl ?_|refine zx rfl ?_|refine zb rfl ?_)
      exact end1b rfl rfl (by rw [apartP, h1, h2]; rfl)
    · have h2 : b.crane = false := h
      repeat (first|refine pq_end rfl ?_|(refine zs rfl ?_ ?_;·repeat' constructor)|(refine zq rfl ?_ ?_;·repeat' constructor)|refine zw rfl ?_|refine zx rfl ?_|refine zb rfl ?_)
      (first|refine zsq rfl (q_callP rfl (excludes_ret w hw a b) rfl (by repeat' constructor) rfl rfl) ?_|refine zqq rfl (q_callP rfl (excludes_ret w hw a b) rfl (by repeat' constructor) rfl rfl) ?_)
      repeat (first|refine pq_end rfl ?_|(refine zs rfl ?_ ?_;·repeat' constructor)|(refine zq rfl ?_ ?_;·repeat' constructor)|refine zw rfl ?_|refine zx rfl ?_|refine zb rfl ?_)
      exact end1b rfl rfl (by rw [apartP, h1, h2]; rfl)
  · have h1 : a.crane = false := h
    clear h
    repeat (first|refine pq_end rfl ?_|(refine zs rfl ?_ ?_;·repeat' constructor)|(refine zq rfl ?_ ?_;·repeat' constructor)|refine zw rfl ?_|refine zx rfl ?_|refine zb rfl ?_)
    (first|refine zsq rfl (q_callP rfl (excludes_ret w hw a b) rfl (by repeat' constructor) rfl rfl) ?_|refine zqq rfl (q_callP rfl (excludes_ret w hw a b) rfl (by repeat' constructor) rfl rfl) ?_)
    repeat (first|refine pq_end rfl ?_|(refine zs rfl ?_ ?_;·repeat' constructor)|(refine zq rfl ?_ ?_;·repeat' constructor)|refine zw rfl ?_|refine zx rfl ?_|refine zb rfl ?_)
    exact end1b rfl rfl (by rw [apartP, h1]; rfl)

def outB (x : SItem) (p : SPl) (o : SOut) : Bool := decide (p.day < o.to) && decide (o.frm < endP x p)
theorem stop1_ret (x : SItem) (p : SPl) (hp : PlOk x p) (o : SOut) : Ret Try.prog .shared 133 [.agg (eOut o), .dref (ePl p) 0, .dref (eItem x) 0] (.bool (outB x p o)) := by
  refine Ret.of_pwp layOk mixed Go.Proofs.Try.func133 rfl (by decide) rfl rfl ?_
  repeat (first|refine pq_end rfl ?_|(refine zs rfl ?_ ?_;·repeat' constructor)|(refine zq rfl ?_ ?_;·repeat' constructor)|refine zw rfl ?_|refine zx rfl ?_|refine zb rfl ?_)
  refine pw_draw 14 [5, 6, 7, 8, 9, 10, 11, 12, 13, 14, 15, 16, 17, 4] (by decide +kernel) ?_
  repeat (first|refine pq_end rfl ?_|(refine zs rfl ?_ ?_;·repeat' constructor)|(refine zq rfl ?_ ?_;·repeat' constructor)|refine zw rfl ?_|refine zx rfl ?_|refine zb rfl ?_)
  (first | refine ps_split rfl rfl (fun h => ?_) (fun h => ?_) | refine pq_split rfl rfl (fun h => ?_) (fun h => ?_))
  · have hk := of_decide_eq_true h
    repeat (first|refine pq_end rfl ?_|(refine zs rfl ?_ ?_;·repeat' constructor)|(refine zq rfl ?_ ?_;·repeat' constructor)|refine zw rfl ?_|refine zx rfl ?_|refine zb rfl ?_)
    (first|refine zsq rfl (q_callP rfl (end_ret x p hp) rfl (by repeat' constructor) rfl rfl) ?_|refine zqq rfl (q_callP rfl (end_ret x p hp) rfl (by repeat' constructor) rfl rfl) ?_)
    repeat (first|refine pq_end rfl ?_|(refine zs rfl ?_ ?_;·repeat' constructor)|(refine zq rfl ?_ ?_;·repeat' constructor)|refine zw rfl ?_|refine zx rfl ?_|refine zb rfl ?_)
    exact end1b rfl rfl (by rw [outB, decide_eq_true hk]; rfl)
  · have hk := of_decide_eq_false h
    repeat (first|refine pq_end rfl ?_|(refine zs rfl ?_ ?_;·repeat' constructor)|(refine zq rfl ?_ ?_;·repeat' constructor)|refine zw rfl ?_|refine zx rfl ?_|refine zb rfl ?_)
    exact end1b rfl rfl (by rw [outB, decide_eq_false hk]; rfl)
theorem indexO_ret (l : List SOut) (f : FuncId) (c0 c1 : List PV) (p : SOut → Bool) (hw : l.length ≤ 1000000) (hf : ∀ x, x ∈ l → Ret Try.prog .shared f (.agg (eOut x) :: [.dref c0 0, .dref c1 0]) (.bool (p x))) : Ret Try.prog .shared 134 [.sl (l.map eOut), .clo f [.dref c0 0, .dref c1 0]] (I (idx l p)) := by
  refine Ret.of_pwp layOk mixed Go.Proofs.Try.func134 rfl (by decide) rfl rfl ?_
  repeat (first|refine pq_end rfl ?_|(refine zs rfl ?_ ?_;·repeat' constructor)|(refine zq rfl ?_ ?_;·repeat' constructor)|refine zw rfl ?_|refine zx rfl ?_|refine zb rfl ?_)
  refine pw_loop (Clear l p) (fun k => [(0, .sl (l.map eOut)), (1, .clo f [.dref c0 0, .dref c1 0]), (7, I l.length), (8, I k)]) (fun _ => []) (fun k => l.length - k) 0 .zero ⟨rfl, rfl, ?_, rfl, trivial⟩ ?_
  · show I ((l.map eOut).length) = _
    simp
  intro k s hk
  repeat (first|refine pq_end rfl ?_|(refine zs rfl ?_ ?_;·repeat' constructor)|(refine zq rfl ?_ ?_;·repeat' constructor)|refine zw rfl ?_|refine zx rfl ?_|refine zb rfl ?_)
  refine pw_cond rfl (fun h => ?_) (fun h => ?_)
  · have hlt : k < l.length := by simpa using h
    obtain ⟨x, hx⟩ := get_lt hlt
    clear h
    repeat (first|refine pq_end rfl ?_|(refine zs rfl ?_ ?_;·repeat' constructor)|(refine zq rfl ?_ ?_;·repeat' constructor)|refine zw rfl ?_|refine zx rfl ?_|refine zb rfl ?_)
    (first|refine zsq rfl (q_idxm rfl rfl rfl rfl rfl (by omega) hx rfl) ?_|refine zqq rfl (q_idxm rfl rfl rfl rfl rfl (by omega) hx rfl) ?_)
    repeat (first|refine pq_end rfl ?_|(refine zs rfl ?_ ?_;·repeat' constructor)|(refine zq rfl ?_ ?_;·repeat' constructor)|refine zw rfl ?_|refine zx rfl ?_|refine zb rfl ?_)
    (first|refine zsq rfl (q_callP rfl (hf x (List.mem_of_getElem? hx)) rfl (by repeat' constructor) rfl rfl) ?_|refine zqq rfl (q_callP rfl (hf x (List.mem_of_getElem? hx)) rfl (by repeat' constructor) rfl rfl) ?_)
    repeat (first|refine pq_end rfl ?_|(refine zs rfl ?_ ?_;·repeat' constructor)|(refine zq rfl ?_ ?_;·repeat' constructor)|refine zw rfl ?_|refine zx rfl ?_|refine zb rfl ?_)
    refine pw_cond rfl (fun h => ?_) (fun h => ?_)
    · repeat (first|refine pq_end rfl ?_|(refine zs rfl ?_ ?_;·repeat' constructor)|(refine zq rfl ?_ ?_;·repeat' constructor)|refine zw rfl ?_|refine zx rfl ?_|refine zb rfl ?_)
      exact end1i rfl rfl (by rw [hk.found hx h])
    · repeat (first|refine pq_end rfl ?_|(refine zs rfl ?_ ?_;·repeat' constructor)|(refine zq rfl ?_ ?_;·repeat' constructor)|refine zw rfl ?_|refine zx rfl ?_|refine zb rfl ?_)
      refine ⟨k + 1, hk.succ hx h, by omega, rfl, rfl, rfl, ?_, trivial⟩
      exact i64_next (by omega) (by omega)
  · repeat (first|refine pq_end rfl ?_|(refine zs rfl ?_ ?_;·repeat' constructor)|(refine zq rfl ?_ ?_;·repeat' constructor)|refine zw rfl ?_|refine zx rfl ?_|refine zb rfl ?_)
    exact end1i rfl rfl (by rw [hk.none (by simpa using h)])
theorem containsO_ret (l : List SOut) (f : FuncId) (c0 c1 : List PV) (p : SOut → Bool) (hw : l.length ≤ 1000000) (hf : ∀ x, x ∈ l → Ret Try.prog .shared f (.agg (eOut x) :: [.dref c0 0, .dref c1 0]) (.bool (p x))) : Ret Try.prog .shared 132 [.sl (l.map eOut), .clo f [.dref c0 0, .dref c1 0]] (.bool (l.any p)) := by
  refine Ret.of_pwp layOk mixed Go.Proofs.Try.func132 rfl (by decide) rfl rfl ?_
  repeat (first|refine pq_end rfl ?_|(refine zs rfl ?_ ?_;·repeat' constructor)|(refine zq rfl ?_ ?_;·repeat' constructor)|refine zw rfl ?_|refine zx rfl ?_|refine zb rfl ?_)
  (first|refine zsq rfl (q_callP rfl (indexO_ret l f c0 c1 p hw hf) rfl (by repeat' constructor) rfl rfl) ?_|refine zqq rfl (q_callP rfl (indexO_ret l f c0 c1 p hw hf) rfl (by repeat' constructor) rfl rfl) ?_)
  repeat (first|refine pq_end rfl ?_|(refine zs rfl ?_ ?_;·repeat' constructor)|(refine zq rfl ?_ ?_;·repeat' constructor)|refine zw rfl ?_|refine zx rfl ?_|refine zb rfl ?_)
  exact end1b rfl rfl (by rw [← idx_nonneg])
def stopP (w : SWork) (x : SItem) (p : SPl) : Bool := x.crane && w.outs.any (outB x p)
theorem stopped_ret (w : SWork) (hw : Sane w) (x : SItem) (p : SPl) (hp : PlOk x p) : Ret Try.prog .shared 130 [.agg (eWork w), .agg (eItem x), .agg (ePl p)] (.bool (stopP w x p)) := by
  have h1 := hw.outs
  refine Ret.of_pwp layOk mixed Go.Proofs.Try.func130 rfl (by decide) rfl rfl ?_
  repeat (first|refine pq_end rfl ?_|(refine zs rfl ?_ ?_;·repeat' constructor)|(refine zq rfl ?_ ?_;·repeat' constructor)|refine zw rfl ?_|refine zx rfl ?_|refine zb rfl ?_)
  (first | refine ps_split rfl rfl (fun h => ?_) (fun h => ?_) | refine pq_split rfl rfl (fun h => ?_) (fun h => ?_))
  · have hk : x.crane = true := h
    repeat (first|refine pq_end rfl ?_|(refine zs rfl ?_ ?_;·repeat' constructor)|(refine zq rfl ?_ ?_;·repeat' constructor)|refine zw rfl ?_|refine zx rfl ?_|refine zb rfl ?_)
    (first|refine zsq rfl (q_callP rfl (containsO_ret w.outs 133 (ePl p) (eItem x) (outB x p) (by omega) (fun o _ => stop1_ret x p hp o)) rfl (by repeat' constructor) rfl rfl) ?_|refine zqq rfl (q_callP rfl (containsO_ret w.outs 133 (ePl p) (eItem x) (outB x p) (by omega) (fun o _ => stop1_ret x p hp o)) rfl (by repeat' constructor) rfl rfl) ?_)
    repeat (first|refine pq_end rfl ?_|(refine zs rfl ?_ ?_;·repeat' constructor)|(refine zq rfl ?_ ?_;·repeat' constructor)|refine zw rfl ?_|refine zx rfl ?_|refine zb rfl ?_)
    exact end1b rfl rfl (by rw [stopP, hk]; rfl)
  · have hk : x.crane = false := h
    repeat (first|refine pq_end rfl ?_|(refine zs rfl ?_ ?_;·repeat' constructor)|(refine zq rfl ?_ ?_;·repeat' constructor)|refine zw rfl ?_|refine zx rfl ?_|refine zb rfl ?_)
    exact end1b rfl rfl (by rw [stopP, hk]; rfl)
end Go.Pv

/- Wages, costs, and whether two slots meet. -/
set_option maxHeartbeats 2000000
namespace Go.Pv
attribute [local irreducible] PWP POps PQuiet PSem XThen XBlock RetPost InlPost
open Go.Proofs

def rateOf (w : SWork) (x : SItem) : Int := match w.trades[(idx w.trades (·.name == x.trade)).toNat]? with | some t => t.rate | none => 0
def wageP (w : SWork) (x : SItem) (k : Int) : Int := (modeAt x k).days * (modeAt x k).crew * rateOf w x
theorem wage_bound {w : SWork} (hw : Well w) {x : SItem} {p : SPl} (hp : PlOk x p) : (0 ≤ (modeAt x p.mode).days * (modeAt x p.mode).crew ∧ (modeAt x p.mode).days * (modeAt x p.mode).crew ≤ 60000) ∧ 0 ≤ wageP w x p.mode ∧ wageP w x p.mode ≤ 60000000000 := by
  have h1 := mul_bound (A := 60) (B := 1000) (by have := hp.days; omega) hp.days.2 hp.crew.1 hp.crew.2
  have hr : 0 ≤ rateOf w x ∧ rateOf w x ≤ 1000000 := by
    unfold rateOf
    split
    · rename_i t ht
      exact (hw.trade t (List.mem_of_getElem? ht)).2
    · omega
  exact ⟨h1, mul_bound (A := 60000) (B := 1000000) h1.1 h1.2 hr.1 hr.2⟩

theorem wages_ret (w : SWork) (hw : Sane w) (hv : Well w) {i : Nat} {x : SItem} (hx : w.items[i]? = some x) (p : SPl) (hp : PlOk x p) : Ret Try.prog .shared 126 [.agg (eWork w), I i, I p.mode] (I (wageP w x p.mode)) := by
  have hxm := List.mem_of_getElem? hx
  have ht0 := (hv.item x hxm).trade
  have ht1 := hw.trades
  have hm := hp.mode
  have hlo := hp.lo
  obtain ⟨b1, b2⟩ := wage_bound hv hp
  obtain ⟨t, ht, _⟩ := idx_lt ht0
  have hrate : rateOf w x = t.rate := by rw [rateOf, ht]
  obtain ⟨j, hj⟩ : ∃ j : Nat, idx w.trades (·.name == x.trade) = j := ⟨_, (Int.toNat_of_nonneg ht0).symm⟩
  rw [hj, Int.toNat_natCast] at ht
  refine Ret.of_pwp layOk mixed Go.Proofs.Try.func126 rfl (by decide) rfl rfl ?_
  repeat (first|refine pq_end rfl ?_|(refine zs rfl ?_ ?_;·repeat' constructor)|(refine zq rfl ?_ ?_;·repeat' constructor)|refine zw rfl ?_|refine zx rfl ?_|refine zb rfl ?_)
  (first|refine zsq rfl (q_idxm rfl rfl rfl rfl rfl (by omega) hx rfl) ?_|refine zqq rfl (q_idxm rfl rfl rfl rfl rfl (by omega) hx rfl) ?_)
  repeat (first|refine pq_end rfl ?_|(refine zs rfl ?_ ?_;·repeat' constructor)|(refine zq rfl ?_ ?_;·repeat' constructor)|refine zw rfl ?_|refine zx rfl ?_|refine zb rfl ?_)
  refine pw_draw2 9 1 [14, 15, 16, 17, 18, 19, 20, 21, 22, 8] [] (by decide +kernel) rfl ?_
  repeat (first|refine pq_end rfl ?_|(refine zs rfl ?_ ?_;·repeat' constructor)|(refine zq rfl ?_ ?_;·repeat' constructor)|refine zw rfl ?_|refine zx rfl ?_|refine zb rfl ?_)
  (first|refine zsq rfl (q_call rfl (tradeNames_ret w (by omega)) rfl (by repeat' constructor) rfl) ?_|refine zqq rfl (q_call rfl (tradeNames_ret w (by omega)) rfl (by repeat' constructor) rfl) ?_)
  repeat (first|refine pq_end rfl ?_|(refine zs rfl ?_ ?_;·repeat' constructor)|(refine zq rfl ?_ ?_;·repeat' constructor)|refine zw rfl ?_|refine zx rfl ?_|refine zb rfl ?_)
  (first|refine zsq rfl (q_callP rfl (index_ret (w.trades.map (·.name)) x.trade (by simp; omega)) rfl (by repeat' constructor) rfl rfl) ?_|refine zqq rfl (q_callP rfl (index_ret (w.trades.map (·.name)) x.trade (by simp; omega)) rfl (by repeat' constructor) rfl rfl) ?_)
  have him : idx (w.trades.map (·.name)) (· == x.trade) = j := by rw [idx_map]; exact hj
  rw [him]
  repeat (first|refine pq_end rfl ?_|(refine zs rfl ?_ ?_;·repeat' constructor)|(refine zq rfl ?_ ?_;·repeat' constructor)|refine zw rfl ?_|refine zx rfl ?_|refine zb rfl ?_)
  (first|refine zsq rfl (q_idxm (n := (j : Int)) rfl rfl rfl rfl rfl (by omega) ht rfl) ?_|refine zqq rfl (q_idxm (n := (j : Int)) rfl rfl rfl rfl rfl (by omega) ht rfl) ?_)
  repeat (first|refine pq_end rfl ?_|(refine zs rfl ?_ ?_;·repeat' constructor)|(refine zq rfl ?_ ?_;·repeat' constructor)|refine zw rfl ?_|refine zx rfl ?_|refine zb rfl ?_)
  refine pw_draw 17 [23, 24, 25, 26, 27, 28, 29, 30, 31, 32, 33, 34, 35, 36, 37, 38, 6] (by decide +kernel) ?_
  repeat (first|refine pq_end rfl ?_|(refine zs rfl ?_ ?_;·repeat' constructor)|(refine zq rfl ?_ ?_;·repeat' constructor)|refine zw rfl ?_|refine zx rfl ?_|refine zb rfl ?_)
  (first|refine zsq rfl (q_idxm rfl rfl rfl rfl rfl (by omega) hm rfl) ?_|refine zqq rfl (q_idxm rfl rfl rfl rfl rfl (by omega) hm rfl) ?_)
  repeat (first|refine pq_end rfl ?_|(refine zs rfl ?_ ?_;·repeat' constructor)|(refine zq rfl ?_ ?_;·repeat' constructor)|refine zw rfl ?_|refine zx rfl ?_|refine zb rfl ?_)
  (first|refine zsq rfl (q_idxm rfl rfl rfl rfl rfl (by omega) hm rfl) ?_|refine zqq rfl (q_idxm rfl rfl rfl rfl rfl (by omega) hm rfl) ?_)
  repeat (first|refine pq_end rfl ?_|(refine zs rfl ?_ ?_;·repeat' constructor)|(refine zq rfl ?_ ?_;·repeat' constructor)|refine zw rfl ?_|refine zx rfl ?_|refine zb rfl ?_)
  refine end1i rfl rfl ?_
  show PV.int .i64 (IntKind.i64.wrap (IntKind.i64.wrap ((modeAt x p.mode).days * (modeAt x p.mode).crew) * t.rate)) = _
  rw [wrap_i64 (n := (modeAt x p.mode).days * _) (by omega) (by omega), ← hrate]
  show PV.int .i64 (IntKind.i64.wrap (wageP w x p.mode)) = _
  rw [wrap_i64 (by omega) (by omega)]

def costF (w : SWork) (n : Int) (q : SItem × SPl) : Int := if q.2.on then n + wageP w q.1 q.2.mode else n
def costP (w : SWork) (l : List SPl) : Int := (prs w l).foldl (costF w) (rentP w (durP w l))
theorem costF_bound {w : SWork} (hv : Well w) {l : List SPl} (h : Plan w l) (k : Nat) (hk : k ≤ l.length) : 0 ≤ ((prs w l).take k).foldl (costF w) (rentP w (durP w l)) ∧ ((prs w l).take k).foldl (costF w) (rentP w (durP w l)) ≤ 2000000000000 + 60000000000 * k := by
  induction k with
  | zero =>
    have hd := durP_bound h
    obtain ⟨h1, h2, h3⟩ := rent_bound hv (n := durP w l) (by omega)
    simp only [List.take_zero, List.foldl_nil, rentP]
    omega
  | succ k ih =>
    have ih := ih (by omega)
    obtain ⟨p, hp⟩ := get_lt (show k < l.length by omega)
    obtain ⟨x, hx⟩ := get_lt (show k < w.items.length by have := h.len; omega)
    rw [take_snoc (prs_at hx hp), List.foldl_append]
    generalize List.foldl (costF w) _ ((prs w l).take k) = n at ih ⊢
    show 0 ≤ costF w n (x, p) ∧ costF w n (x, p) ≤ _
    unfold costF
    cases hon : p.on with
    | false => simp [hon]; omega
    | true =>
      have := (wage_bound hv (h.ok k x p hx hp hon)).2
      simp [hon]; omega
theorem cost_ret (w : SWork) (hw : Sane w) (hv : Well w) (l : List SPl) (h : Plan w l) : Ret Try.prog .shared 87 [.agg (eWork w), .sl (l.map ePl)] (I (costP w l)) := by
  have hl := h.len
  have hn := hv.n40
  have hml : (l.map ePl).length = l.length := by simp
  have hd := durP_bound h
  refine Ret.of_pwp layOk mixed Go.Proofs.Try.func87 rfl (by decide) rfl rfl ?_
  repeat (first|refine pq_end rfl ?_|(refine zs rfl ?_ ?_;·repeat' constructor)|(refine zq rfl ?_ ?_;·repeat' constructor)|refine zw rfl ?_|refine zx rfl ?_|refine zb rfl ?_)
  refine pw_draw 6 [8, 9, 10, 11, 12, 5] (by decide +kernel) ?_
  repeat (first|refine pq_end rfl ?_|(refine zs rfl ?_ ?_;·repeat' constructor)|(refine zq rfl ?_ ?_;·repeat' constructor)|refine zw rfl ?_|refine zx rfl ?_|refine zb rfl ?_)
  (first|refine zsq rfl (q_callP rfl (duration_ret w l h (by omega)) rfl (by repeat' constructor) rfl rfl) ?_|refine zqq rfl (q_callP rfl (duration_ret w l h (by omega)) rfl (by repeat' constructor) rfl rfl) ?_)
  repeat (first|refine pq_end rfl ?_|(refine zs rfl ?_ ?_;·repeat' constructor)|(refine zq rfl ?_ ?_;·repeat' constructor)|refine zw rfl ?_|refine zx rfl ?_|refine zb rfl ?_)
  (first|refine zsq rfl (q_callP rfl (rent_ret w hv (durP w l) (by omega)) rfl (by repeat' constructor) rfl rfl) ?_|refine zqq rfl (q_callP rfl (rent_ret w hv (durP w l) (by omega)) rfl (by repeat' constructor) rfl rfl) ?_)
  repeat (first|refine pq_end rfl ?_|(refine zs rfl ?_ ?_;·repeat' constructor)|(refine zq rfl ?_ ?_;·repeat' constructor)|refine zw rfl ?_|refine zx rfl ?_|refine zb rfl ?_)
  refine pw_loop (fun k => k ≤ l.length) (fun k => [(1, .sl (l.map ePl)), (2, .ptr 2 1 0 0), (5, I (((prs w l).take k).foldl (costF w) (rentP w (durP w l)))), (13, .sl (l.map ePl)), (14, I l.length), (15, I k)]) (fun _ => [(2, 1, ⟨28, 9, [eWork w], 2⟩)]) (fun k => l.length - k) 0 (Nat.zero_le _) ⟨rfl, rfl, rfl, rfl, ?_, rfl, rfl, trivial⟩ ?_
  · show I ((l.map ePl).length) = _
    rw [hml]
  intro k s hk
  repeat (first|refine pq_end rfl ?_|(refine zs rfl ?_ ?_;·repeat' constructor)|(refine zq rfl ?_ ?_;·repeat' constructor)|refine zw rfl ?_|refine zx rfl ?_|refine zb rfl ?_)
  refine pw_cond rfl (fun h => ?_) (fun h => ?_)
  · have hlt : k < l.length := by simpa using h
    obtain ⟨p, hp⟩ := get_lt hlt
    obtain ⟨x, hx⟩ := get_lt (show k < w.items.length by omega)
    clear h
    have hb := costF_bound hv ‹Plan w l› (k + 1) hlt
    have hs := take_snoc (prs_at hx hp)
    have hok := ‹Plan w l›.ok k x p hx hp
    rw [hs, List.foldl_append] at hb
    repeat (first|refine pq_end rfl ?_|(refine zs rfl ?_ ?_;·repeat' constructor)|(refine zq rfl ?_ ?_;·repeat' constructor)|refine zw rfl ?_|refine zx rfl ?_|refine zb rfl ?_)
    (first|refine zsq rfl (q_idxm rfl rfl rfl rfl rfl (by omega) hp rfl) ?_|refine zqq rfl (q_idxm rfl rfl rfl rfl rfl (by omega) hp rfl) ?_)
    repeat (first|refine pq_end rfl ?_|(refine zs rfl ?_ ?_;·repeat' constructor)|(refine zq rfl ?_ ?_;·repeat' constructor)|refine zw rfl ?_|refine zx rfl ?_|refine zb rfl ?_)
    refine pw_cond rfl (fun h => ?_) (fun h => ?_)
    · have hon : p.on = true := h
      have hok := hok hon
      clear h
      repeat (first|refine pq_end rfl ?_|(refine zs rfl ?_ ?_;·repeat' constructor)|(refine zq rfl ?_ ?_;·repeat' constructor)|refine zw rfl ?_|refine zx rfl ?_|refine zb rfl ?_)
      (first|refine zsq rfl (q_callP rfl (wages_ret w hw hv hx p hok) rfl (by repeat' constructor) rfl rfl) ?_|refine zqq rfl (q_callP rfl (wages_ret w hw hv hx p hok) rfl (by repeat' constructor) rfl rfl) ?_)
      repeat (first|refine pq_end rfl ?_|(refine zs rfl ?_ ?_;·repeat' constructor)|(refine zq rfl ?_ ?_;·repeat' constructor)|refine zw rfl ?_|refine zx rfl ?_|refine zb rfl ?_)
      refine ⟨k + 1, hlt, by omega, rfl, rfl, ?_, rfl, rfl, ?_, rfl, trivial⟩
      · rw [hs, List.foldl_append]
        generalize List.foldl (costF w) _ ((prs w l).take k) = n at hb ⊢
        replace hb : 0 ≤ costF w n (x, p) ∧ costF w n (x, p) ≤ _ := hb
        show PV.int .i64 (IntKind.i64.wrap (n + wageP w x p.mode)) = I (costF w n (x, p))
        have he : costF w n (x, p) = n + wageP w x p.mode := by simp [costF, hon]
        rw [he] at hb ⊢
        rw [wrap_i64 (by omega) (by omega)]
      · exact i64_next (by omega) (by omega)
    · have hon : p.on = false := h
      clear h
      repeat (first|refine pq_end rfl ?_|(refine zs rfl ?_ ?_;·repeat' constructor)|(refine zq rfl ?_ ?_;·repeat' constructor)|refine zw rfl ?_|refine zx rfl ?_|refine zb rfl ?_)
      refine ⟨k + 1, hlt, by omega, rfl, rfl, ?_, rfl, rfl, ?_, rfl, trivial⟩
      · rw [hs, List.foldl_append]
        show _ = I (costF w _ (x, p))
        simp [costF, hon]
        rfl
      · exact i64_next (by omega) (by omega)
  · have hge : k = l.length := by have := of_decide_eq_false h; omega
    subst hge
    repeat (first|refine pq_end rfl ?_|(refine zs rfl ?_ ?_;·repeat' constructor)|(refine zq rfl ?_ ?_;·repeat' constructor)|refine zw rfl ?_|refine zx rfl ?_|refine zb rfl ?_)
    refine end1i rfl rfl ?_
    rw [List.take_of_length_le]
    · rfl
    · simp [prs]; omega

def meetP (x : SItem) (p : SPl) (y : SItem) (q : SPl) : Bool := (p.on && q.on) && (decide (p.day < endP y q) && decide (q.day < endP x p))
theorem meet_ret (w : SWork) {l : List SPl} (h : Plan w l) {i k : Nat} {x y : SItem} {p q : SPl} (hx : w.items[i]? = some x) (hy : w.items[k]? = some y) (hp : l[i]? = some p) (hq : l[k]? = some q) : Ret Try.prog .shared 128 [.agg (eWork w), .sl (l.map ePl), I i, I k] (.bool (meetP x p y q)) := by
  have o1 := h.ok i x p hx hp
  have o2 := h.ok k y q hy hq
  refine Ret.of_pwp layOk mixed Go.Proofs.Try.func128 rfl (by decide) rfl rfl ?_
  repeat (first|refine pq_end rfl ?_|(refine zs rfl ?_ ?_;·repeat' constructor)|(refine zq rfl ?_ ?_;·repeat' constructor)|refine zw rfl ?_|refine zx rfl ?_|refine zb rfl ?_)
  refine pw_draw 49 [9, 10, 11, 12, 13, 14, 15, 16, 17, 18, 19, 20, 21, 22, 23, 24, 25, 26, 27, 28, 29, 30, 31, 32, 33, 34, 35, 36, 37, 38, 39, 40, 41, 42, 43, 44, 45, 46, 47, 48, 49, 50, 51, 52, 53, 54, 55, 56, 8] (by decide +kernel) ?_
  repeat (first|refine pq_end rfl ?_|(refine zs rfl ?_ ?_;·repeat' constructor)|(refine zq rfl ?_ ?_;·repeat' constructor)|refine zw rfl ?_|refine zx rfl ?_|refine zb rfl ?_)
  (first|refine zsq rfl (q_idxm rfl rfl rfl rfl rfl (by omega) hp rfl) ?_|refine zqq rfl (q_idxm rfl rfl rfl rfl rfl (by omega) hp rfl) ?_)
  repeat (first|refine pq_end rfl ?_|(refine zs rfl ?_ ?_;·repeat' constructor)|(refine zq rfl ?_ ?_;·repeat' constructor)|refine zw rfl ?_|refine zx rfl ?_|refine zb rfl ?_)
  (first | refine ps_split rfl rfl (fun h => ?_) (fun h => ?_) | refine pq_split rfl rfl (fun h => ?_) (fun h => ?_))
  · have h1 : p.on = true := h
    clear h
    repeat (first|refine pq_end rfl ?_|(refine zs rfl ?_ ?_;·repeat' constructor)|(refine zq rfl ?_ ?_;·repeat' constructor)|refine zw rfl ?_|refine zx rfl ?_|refine zb rfl ?_)
    (first|refine zsq rfl (q_idxm rfl rfl rfl rfl rfl (by omega) hq rfl) ?_|refine zqq rfl (q_idxm rfl rfl rfl rfl rfl (by omega) hq rfl) ?_)
    repeat (first|refine pq_end rfl ?_|(refine zs rfl ?_ ?_;·repeat' constructor)|(refine zq rfl ?_ ?_;·repeat' constructor)|refine zw rfl ?_|refine zx rfl ?_|refine zb rfl ?_)
    (first | refine ps_split rfl rfl (fun h => ?_) (fun h => ?_) | refine pq_split rfl rfl (fun h => ?_) (fun h => ?_))
    · have h2 : q.on = true := h
      clear h
      repeat (first|refine pq_end rfl ?_|(refine zs rfl ?_ ?_;·repeat' constructor)|(refine zq rfl ?_ ?_;·repeat' constructor)|refine zw rfl ?_|refine zx rfl ?_|refine zb rfl ?_)
      (first|refine zsq rfl (q_idxm rfl rfl rfl rfl rfl (by omega) hp rfl) ?_|refine zqq rfl (q_idxm rfl rfl rfl rfl rfl (by omega) hp rfl) ?_)
      repeat (first|refine pq_end rfl ?_|(refine zs rfl ?_ ?_;·repeat' constructor)|(refine zq rfl ?_ ?_;·repeat' constructor)|refine zw rfl ?_|refine zx rfl ?_|refine zb rfl ?_)
      (first|refine zsq rfl (q_idxm rfl rfl rfl rfl rfl (by omega) hq rfl) ?_|refine zqq rfl (q_idxm rfl rfl rfl rfl rfl (by omega) hq rfl) ?_)
      repeat (first|refine pq_end rfl ?_|(refine zs rfl ?_ ?_;·repeat' constructor)|(refine zq rfl ?_ ?_;·repeat' constructor)|refine zw rfl ?_|refine zx rfl ?_|refine zb rfl ?_)
      (first|refine zsq rfl (q_idxm rfl rfl rfl rfl rfl (by omega) hy rfl) ?_|refine zqq rfl (q_idxm rfl rfl rfl rfl rfl (by omega) hy rfl) ?_)
      repeat (first|refine pq_end rfl ?_|(refine zs rfl ?_ ?_;·repeat' constructor)|(refine zq rfl ?_ ?_;·repeat' constructor)|refine zw rfl ?_|refine zx rfl ?_|refine zb rfl ?_)
      (first|refine zsq rfl (q_callP rfl (end_ret y q (o2 h2)) rfl (by repeat' constructor) rfl rfl) ?_|refine zqq rfl (q_callP rfl (end_ret y q (o2 h2)) rfl (by repeat' constructor) rfl rfl) ?_)
      repeat (first|refine pq_end rfl ?_|(refine zs rfl ?_ ?_;·repeat' constructor)|(refine zq rfl ?_ ?_;·repeat' constructor)|refine zw rfl ?_|refine zx rfl ?_|refine zb rfl ?_)
      (first | refine ps_split rfl rfl (fun h => ?_) (fun h => ?_) | refine pq_split rfl rfl (fun h => ?_) (fun h => ?_))
      · have h3 := h
        clear h
        repeat (first|refine pq_end rfl ?_|(refine zs rfl ?_ ?_;·repeat' constructor)|(refine zq rfl ?_ ?_;·repeat' constructor)|refine zw rfl ?_|refine zx rfl ?_|refine zb rfl ?_)
        (first|refine zsq rfl (q_idxm rfl rfl rfl rfl rfl (by omega) hq rfl) ?_|refine zqq rfl (q_idxm rfl rfl rfl rfl rfl (by omega) hq rfl) ?_)
        repeat (first|refine pq_end rfl ?_|(refine zs rfl ?_ ?_;·repeat' constructor)|(refine zq rfl ?_ ?_;·repeat' constructor)|refine zw rfl ?_|refine zx rfl ?_|refine zb rfl ?_)
        (first|refine zsq rfl (q_idxm rfl rfl rfl rfl rfl (by omega) hp rfl) ?_|refine zqq rfl (q_idxm rfl rfl rfl rfl rfl (by omega) hp rfl) ?_)
        repeat (first|refine pq_end rfl ?_|(refine zs rfl ?_ ?_;·repeat' constructor)|(refine zq rfl ?_ ?_;·repeat' constructor)|refine zw rfl ?_|refine zx rfl ?_|refine zb rfl ?_)
        (first|refine zsq rfl (q_idxm rfl rfl rfl rfl rfl (by omega) hx rfl) ?_|refine zqq rfl (q_idxm rfl rfl rfl rfl rfl (by omega) hx rfl) ?_)
        repeat (first|refine pq_end rfl ?_|(refine zs rfl ?_ ?_;·repeat' constructor)|(refine zq rfl ?_ ?_;·repeat' constructor)|refine zw rfl ?_|refine zx rfl ?_|refine zb rfl ?_)
        (first|refine zsq rfl (q_callP rfl (end_ret x p (o1 h1)) rfl (by repeat' constructor) rfl rfl) ?_|refine zqq rfl (q_callP rfl (end_ret x p (o1 h1)) rfl (by repeat' constructor) rfl rfl) ?_)
        repeat (first|refine pq_end rfl ?_|(refine zs rfl ?_ ?_;·repeat' constructor)|(refine zq rfl ?_ ?_;·repeat' constructor)|refine zw rfl ?_|refine zx rfl ?_|refine zb rfl ?_)
        exact end1b rfl rfl (by rw [meetP, h1, h2, h3]; rfl)
      · have h3 := h
        repeat (first|refine pq_end rfl ?_|(refine zs rfl ?_ ?_;·repeat' constructor)|(refine zq rfl ?_ ?_;·repeat' constructor)|refine zw rfl ?_|refine zx rfl ?_|refine zb rfl ?_)
        exact end1b rfl rfl (by rw [meetP, h1, h2, h3]; rfl)
    · have h2 : q.on = false := h
      repeat (first|refine pq_end rfl ?_|(refine zs rfl ?_ ?_;·repeat' constructor)|(refine zq rfl ?_ ?_;·repeat' constructor)|refine zw rfl ?_|refine zx rfl ?_|refine zb rfl ?_)
      exact end1b rfl rfl (by rw [meetP, h1, h2]; rfl)
  · have h1 : p.on = false := h
    repeat (first|refine pq_end rfl ?_|(refine zs rfl ?_ ?_;·repeat' constructor)|(refine zq rfl ?_ ?_;·repeat' constructor)|refine zw rfl ?_|refine zx rfl ?_|refine zb rfl ?_)
    exact end1b rfl rfl (by rw [meetP, h1]; rfl)
end Go.Pv

/- The breaches, kind by kind. -/
set_option maxHeartbeats 2000000
namespace Go.Pv
attribute [local irreducible] PWP POps PQuiet PSem XThen XBlock RetPost InlPost
open Go.Proofs

structure SBr where
  a : Str
  b : Str
  r : Int
  deriving DecidableEq
def eBr (x : SBr) : List PV := [.str x.a, .str x.b, I x.r]
/-- Slots that the items can have, all laid. -/
structure Full (w : SWork) (l : List SPl) : Prop extends Plan w l where
  on : ∀ (i : Nat) p, l[i]? = some p → p.on = true
theorem Full.at_ {w : SWork} {l : List SPl} (h : Full w l) {i : Nat} {x : SItem} {p : SPl} (hx : w.items[i]? = some x) (hp : l[i]? = some p) : PlOk x p := h.ok i x p hx hp (h.on i p hp)

def slP (l : List SPl) (k : Int) : SPl := l.getD k.toNat ⟨0, 0, false⟩
def itP (w : SWork) (k : Int) : SItem := w.items.getD k.toNat ⟨[], [], [], [], 0, false, []⟩
theorem slP_at {l : List SPl} {k : Nat} {p : SPl} (h : l[k]? = some p) : slP l k = p := by rw [slP, Int.toNat_natCast, List.getD_eq_getElem?_getD, h]; rfl
theorem itP_at {w : SWork} {k : Nat} {x : SItem} (h : w.items[k]? = some x) : itP w k = x := by rw [itP, Int.toNat_natCast, List.getD_eq_getElem?_getD, h]; rfl
theorem flatMap_len {α β : Type} {f : α → List β} {c : Nat} (hf : ∀ x, (f x).length ≤ c) : ∀ l : List α, (l.flatMap f).length ≤ l.length * c
  | [] => by simp
  | a :: l => by
    have := flatMap_len hf l
    have := hf a
    simp only [List.flatMap_cons, List.length_append, List.length_cons, Nat.add_mul, Nat.one_mul]
    omega
theorem range_flatMap {β : Type} (f : Nat → List β) (k : Nat) : (List.range (k + 1)).flatMap f = (List.range k).flatMap f ++ f k := by
  rw [List.range_succ, List.flatMap_append]; simp

theorem als_snoc {α : Type} (e : α → List PV) (k g : Nat) (l : List α) (a : α) : PV.als k (g + l.length + 1) 0 (l.map e ++ [e a]).length = PV.als k (g + (l ++ [a]).length) 0 ((l ++ [a]).map e).length := by simp [Nat.add_assoc]
theorem cont_snoc {α : Type} (e : α → List PV) (g T sz kd : Nat) (l : List α) (a : α) : (g + l.length + 1, some (Cont.mk T sz (l.map e ++ [e a]) kd)) = (g + (l ++ [a]).length, some (Cont.mk T sz ((l ++ [a]).map e) kd)) := by simp [Nat.add_assoc]

def earlyAt (w : SWork) (l : List SPl) (i : Nat) (k : Int) : List SBr := if (slP l i).day < endP (itP w k) (slP l k) then [⟨(itP w k).name, (itP w i).name, 10⟩] else []
def earlyN (w : SWork) (l : List SPl) (n : Nat) : List SBr := (List.range n).flatMap fun i => ((bef w).getD i []).flatMap (earlyAt w l i)
def earlyP (w : SWork) (l : List SPl) : List SBr := earlyN w l w.items.length
def earlyJ (w : SWork) (l : List SPl) (k : Nat) (row : List Int) (j : Nat) : List SBr := earlyN w l k ++ (row.take j).flatMap (earlyAt w l k)
theorem earlyAt_len (w : SWork) (l : List SPl) (i : Nat) (k : Int) : (earlyAt w l i k).length ≤ 1 := by unfold earlyAt; split <;> simp
theorem earlyN_len (w : SWork) (hw : Sane w) (l : List SPl) (n : Nat) : (earlyN w l n).length ≤ n * 100000 := by
  have := flatMap_len (f := fun i => ((bef w).getD i []).flatMap (earlyAt w l i)) (c := 100000) (fun i => by
    have h1 := flatMap_len (earlyAt_len w l i) ((bef w).getD i [])
    have h2 : ((bef w).getD i []).length ≤ 100000 := by
      rw [List.getD_eq_getElem?_getD, bef, List.getElem?_map]
      cases hx : w.items[i]? with
      | none => simp
      | some x => have := hw.after x (List.mem_of_getElem? hx); simp [aft]; omega
    omega) (List.range n)
  rw [List.length_range] at this
  exact this
theorem earlyJ_len (w : SWork) (hw : Sane w) (l : List SPl) (n : Nat) (row : List Int) (hr : row.length ≤ 100000) (j : Nat) : (earlyJ w l n row j).length ≤ (n + 1) * 100000 := by
  have h1 := earlyN_len w hw l n
  have h2 := flatMap_len (earlyAt_len w l n) (row.take j)
  have h3 : (row.take j).length ≤ 100000 := by rw [List.length_take]; omega
  rw [earlyJ, List.length_append]
  omega

theorem early_ret (w : SWork) (hw : Sane w) (hv : Well w) (l : List SPl) (hf : Full w l) : Ret Try.prog .shared 88 [.agg (eWork w), .sl (l.map ePl)] (.sl ((earlyP w l).map eBr)) := by
  have h1 := hw.items
  have hn := hv.n40
  have hl := hf.len
  have hbl : (bef w).length = w.items.length := by simp [bef]
  have hml : ((bef w).map eL).length = w.items.length := by rw [List.length_map, hbl]
  refine Ret.of_pwp layOk mixed Go.Proofs.Try.func88 rfl (by decide) rfl rfl ?_
  ((repeat (first | refine ps_nil ?_ | refine pq_nil ?_ | refine x_norm ?_ | refine pw_seq ?_)); refine pw_region ?_)
  refine ps_run (o_box rfl rfl rfl (by repeat' constructor) rfl ?_)
  refine ps_v rfl trivial ?_
  ((repeat (first | refine ps_nil ?_ | refine pq_nil ?_ | refine x_norm ?_ | refine pw_seq ?_)); refine pw_region ?_)
  (first | refine ps_run (o_nilm 42 3 0 rfl rfl ?_) | refine ps_run (o_nila 42 3 0 rfl rfl ?_))
  repeat (first|refine pq_end rfl ?_|(refine zs rfl ?_ ?_;·repeat' constructor)|(refine zq rfl ?_ ?_;·repeat' constructor)|refine zw rfl ?_|refine zx rfl ?_|refine zb rfl ?_)
  (first|refine zsq rfl (q_call rfl (before_ret w h1 hw.after) rfl (by repeat' constructor) rfl) ?_|refine zqq rfl (q_call rfl (before_ret w h1 hw.after) rfl (by repeat' constructor) rfl) ?_)
  repeat (first|refine pq_end rfl ?_|(refine zs rfl ?_ ?_;·repeat' constructor)|(refine zq rfl ?_ ?_;·repeat' constructor)|refine zw rfl ?_|refine zx rfl ?_|refine zb rfl ?_)
  refine pw_loop (fun k => k ≤ w.items.length) (fun k => [(1, .sl (l.map ePl)), (2, .ptr 2 1 0 0), (5, .als 5 (1 + (earlyN w l k).length) 0 ((earlyN w l k).map eBr).length), (11, .sl ((bef w).map eL)), (12, I w.items.length), (13, I k)])
    (fun k => [(2, 1, ⟨28, 9, [eWork w], 2⟩), (5, 1 + (earlyN w l k).length, ⟨42, 3, (earlyN w l k).map eBr, 0⟩)]) (fun k => w.items.length - k) 0 (Nat.zero_le _) ⟨rfl, rfl, rfl, rfl, ?_, rfl, rfl, rfl, trivial⟩ ?_
  · show I (((bef w).map eL).length) = _
    rw [hml]
  intro k s hk
  repeat (first|refine pq_end rfl ?_|(refine zs rfl ?_ ?_;·repeat' constructor)|(refine zq rfl ?_ ?_;·repeat' constructor)|refine zw rfl ?_|refine zx rfl ?_|refine zb rfl ?_)
  refine pw_cond rfl (fun h => ?_) (fun h => ?_)
  · have hlt : k < w.items.length := by simpa using h
    clear h
    obtain ⟨x, hx⟩ := get_lt hlt
    obtain ⟨p, hp⟩ := get_lt (show k < l.length by omega)
    have hax := hw.after x (List.mem_of_getElem? hx)
    have hbx : (bef w)[k]? = some (aft w x) := by rw [bef, List.getElem?_map, hx]; rfl
    have hal : (aft w x).length ≤ 100000 := by simp [aft]; omega
    have e0 : earlyJ w l k (aft w x) 0 = earlyN w l k := by simp [earlyJ]
    have hsucc : earlyN w l (k + 1) = earlyJ w l k (aft w x) (aft w x).length := by rw [earlyJ, List.take_length, earlyN, range_flatMap, List.getD_eq_getElem?_getD, hbx]; rfl
    repeat (first|refine pq_end rfl ?_|(refine zs rfl ?_ ?_;·repeat' constructor)|(refine zq rfl ?_ ?_;·repeat' constructor)|refine zw rfl ?_|refine zx rfl ?_|refine zb rfl ?_)
    (first|refine zsq rfl (q_idxm rfl rfl rfl rfl rfl (by omega) hbx rfl) ?_|refine zqq rfl (q_idxm rfl rfl rfl rfl rfl (by omega) hbx rfl) ?_)
    repeat (first|refine pq_end rfl ?_|(refine zs rfl ?_ ?_;·repeat' constructor)|(refine zq rfl ?_ ?_;·repeat' constructor)|refine zw rfl ?_|refine zx rfl ?_|refine zb rfl ?_)
    refine pw_loop (fun j => j ≤ (aft w x).length) (fun j => [(1, .sl (l.map ePl)), (2, .ptr 2 1 0 0), (5, .als 5 (1 + (earlyJ w l k (aft w x) j).length) 0 ((earlyJ w l k (aft w x) j).map eBr).length), (6, I k), (11, .sl ((bef w).map eL)), (12, I w.items.length), (13, I k), (18, .sl ((aft w x).map eI)), (19, I (aft w x).length), (20, I j)])
      (fun j => [(2, 1, ⟨28, 9, [eWork w], 2⟩), (5, 1 + (earlyJ w l k (aft w x) j).length, ⟨42, 3, (earlyJ w l k (aft w x) j).map eBr, 0⟩)]) (fun j => (aft w x).length - j) 0 (Nat.zero_le _) ⟨rfl, rfl, ?_, rfl, rfl, rfl, rfl, rfl, ?_, rfl, rfl, ?_, trivial⟩ ?_
    · rw [e0]; rfl
    · show I (((aft w x).map eI).length) = _
      simp
    · rw [e0]; rfl
    intro j s' hj
    repeat (first|refine pq_end rfl ?_|(refine zs rfl ?_ ?_;·repeat' constructor)|(refine zq rfl ?_ ?_;·repeat' constructor)|refine zw rfl ?_|refine zx rfl ?_|refine zb rfl ?_)
    refine pw_cond rfl (fun h => ?_) (fun h => ?_)
    · have hlt' : j < (aft w x).length := by simpa using h
      clear h
      obtain ⟨nm, hnm⟩ := get_lt (show j < x.after.length by simpa [aft] using hlt')
      obtain ⟨jn, y, hy, hyn, hidx⟩ := known_at hv.good (List.mem_of_getElem? hx) (List.mem_of_getElem? hnm)
      have hz : (aft w x)[j]? = some (jn : Int) := by rw [aft, List.getElem?_map, hnm]; exact congrArg some hidx
      have hjl := (List.getElem?_eq_some_iff.1 hy).1
      obtain ⟨q, hq⟩ := get_lt (show jn < l.length by omega)
      have hb := earlyJ_len w hw l k (aft w x) hal j
      have hstep : earlyJ w l k (aft w x) (j + 1) = earlyJ w l k (aft w x) j ++ earlyAt w l k jn := by rw [earlyJ, take_snoc hz, List.flatMap_append, earlyJ, List.append_assoc]; simp
      have hat : earlyAt w l k jn = if p.day < endP y q then [⟨y.name, x.name, 10⟩] else [] := by rw [earlyAt, slP_at hp, slP_at hq, itP_at hy, itP_at hx]
      repeat (first|refine pq_end rfl ?_|(refine zs rfl ?_ ?_;·repeat' constructor)|(refine zq rfl ?_ ?_;·repeat' constructor)|refine zw rfl ?_|refine zx rfl ?_|refine zb rfl ?_)
      (first|refine zsq rfl (q_idxm rfl rfl rfl rfl rfl (by omega) hz rfl) ?_|refine zqq rfl (q_idxm rfl rfl rfl rfl rfl (by omega) hz rfl) ?_)
      repeat (first|refine pq_end rfl ?_|(refine zs rfl ?_ ?_;·repeat' constructor)|(refine zq rfl ?_ ?_;·repeat' constructor)|refine zw rfl ?_|refine zx rfl ?_|refine zb rfl ?_)
      refine pw_draw 16 [24, 25, 26, 27, 28, 29, 30, 31, 32, 33, 34, 35, 36, 37, 38, 39] (by decide +kernel) ?_
      repeat (first|refine pq_end rfl ?_|(refine zs rfl ?_ ?_;·repeat' constructor)|(refine zq rfl ?_ ?_;·repeat' constructor)|refine zw rfl ?_|refine zx rfl ?_|refine zb rfl ?_)
      (first|refine zsq rfl (q_idxm (n := (jn : Int)) rfl rfl rfl rfl rfl (by omega) hq rfl) ?_|refine zqq rfl (q_idxm (n := (jn : Int)) rfl rfl rfl rfl rfl (by omega) hq rfl) ?_)
      repeat (first|refine pq_end rfl ?_|(refine zs rfl ?_ ?_;·repeat' constructor)|(refine zq rfl ?_ ?_;·repeat' constructor)|refine zw rfl ?_|refine zx rfl ?_|refine zb rfl ?_)
      (first|refine zsq rfl (q_idxm (n := (jn : Int)) rfl rfl rfl rfl rfl (by omega) hy rfl) ?_|refine zqq rfl (q_idxm (n := (jn : Int)) rfl rfl rfl rfl rfl (by omega) hy rfl) ?_)
      repeat (first|refine pq_end rfl ?_|(refine zs rfl ?_ ?_;·repeat' constructor)|(refine zq rfl ?_ ?_;·repeat' constructor)|refine zw rfl ?_|refine zx rfl ?_|refine zb rfl ?_)
      (first|refine zsq rfl (q_callP rfl (end_ret y q (hf.at_ hy hq)) rfl (by repeat' constructor) rfl rfl) ?_|refine zqq rfl (q_callP rfl (end_ret y q (hf.at_ hy hq)) rfl (by repeat' constructor) rfl rfl) ?_)
      repeat (first|refine pq_end rfl ?_|(refine zs rfl ?_ ?_;·repeat' constructor)|(refine zq rfl ?_ ?_;·repeat' constructor)|refine zw rfl ?_|refine zx rfl ?_|refine zb rfl ?_)
      (first|refine zsq rfl (q_idxm rfl rfl rfl rfl rfl (by omega) hp rfl) ?_|refine zqq rfl (q_idxm rfl rfl rfl rfl rfl (by omega) hp rfl) ?_)
      repeat (first|refine pq_end rfl ?_|(refine zs rfl ?_ ?_;·repeat' constructor)|(refine zq rfl ?_ ?_;·repeat' constructor)|refine zw rfl ?_|refine zx rfl ?_|refine zb rfl ?_)
      refine pw_cond rfl (fun h => ?_) (fun h => ?_)
      · have hc := of_decide_eq_true h
        clear h
        have he : earlyJ w l k (aft w x) (j + 1) = earlyJ w l k (aft w x) j ++ [⟨y.name, x.name, 10⟩] := by rw [hstep, hat, if_pos hc]
        repeat (first|refine pq_end rfl ?_|(refine zs rfl ?_ ?_;·repeat' constructor)|(refine zq rfl ?_ ?_;·repeat' constructor)|refine zw rfl ?_|refine zx rfl ?_|refine zb rfl ?_)
        refine pw_draw 15 [40, 41, 42, 43, 44, 45, 46, 47, 48, 49, 50, 51, 52, 53, 54] (by decide +kernel) ?_
        repeat (first|refine pq_end rfl ?_|(refine zs rfl ?_ ?_;·repeat' constructor)|(refine zq rfl ?_ ?_;·repeat' constructor)|refine zw rfl ?_|refine zx rfl ?_|refine zb rfl ?_)
        (first|refine zsq rfl (q_idxm (n := (jn : Int)) rfl rfl rfl rfl rfl (by omega) hy rfl) ?_|refine zqq rfl (q_idxm (n := (jn : Int)) rfl rfl rfl rfl rfl (by omega) hy rfl) ?_)
        repeat (first|refine pq_end rfl ?_|(refine zs rfl ?_ ?_;·repeat' constructor)|(refine zq rfl ?_ ?_;·repeat' constructor)|refine zw rfl ?_|refine zx rfl ?_|refine zb rfl ?_)
        (first|refine zsq rfl (q_idxm rfl rfl rfl rfl rfl (by omega) hx rfl) ?_|refine zqq rfl (q_idxm rfl rfl rfl rfl rfl (by omega) hx rfl) ?_)
        repeat (first|refine pq_end rfl ?_|(refine zs rfl ?_ ?_;·repeat' constructor)|(refine zq rfl ?_ ?_;·repeat' constructor)|refine zw rfl ?_|refine zx rfl ?_|refine zb rfl ?_)
        (first|refine zsq rfl (q_slit rfl rfl rfl rfl rfl rfl rfl rfl rfl rfl (by repeat' constructor) rfl) ?_|refine zqq rfl (q_slit rfl rfl rfl rfl rfl rfl rfl rfl rfl rfl (by repeat' constructor) rfl) ?_)
        repeat (first|refine pq_end rfl ?_|(refine zs rfl ?_ ?_;·repeat' constructor)|(refine zq rfl ?_ ?_;·repeat' constructor)|refine zw rfl ?_|refine zx rfl ?_|refine zb rfl ?_)
        refine ps_run (o_app 0 rfl rfl rfl rfl rfl rfl rfl rfl rfl rfl rfl (by repeat' constructor) (by intro row hr; first | (simp at hr; subst hr; rfl) | simp at hr) rfl rfl (by simp; omega) (by simp; omega) ?_)
        repeat (first|refine pq_end rfl ?_|(refine zs rfl ?_ ?_;·repeat' constructor)|(refine zq rfl ?_ ?_;·repeat' constructor)|refine zw rfl ?_|refine zx rfl ?_|refine zb rfl ?_)
        refine ⟨j + 1, hlt', by omega, rfl, rfl, ?_, rfl, rfl, rfl, rfl, rfl, rfl, ?_, rfl, ?_, trivial⟩
        · rw [he]; exact als_snoc eBr 5 1 (earlyJ w l k (aft w x) j) ⟨y.name, x.name, 10⟩
        · exact i64_next (by omega) (by omega)
        · rw [he]; exact cont_snoc eBr 1 42 3 0 (earlyJ w l k (aft w x) j) ⟨y.name, x.name, 10⟩
      · have hc := of_decide_eq_false h
        clear h
        have he : earlyJ w l k (aft w x) (j + 1) = earlyJ w l k (aft w x) j := by rw [hstep, hat, if_neg hc, List.append_nil]
        repeat (first|refine pq_end rfl ?_|(refine zs rfl ?_ ?_;·repeat' constructor)|(refine zq rfl ?_ ?_;·repeat' constructor)|refine zw rfl ?_|refine zx rfl ?_|refine zb rfl ?_)
        refine ⟨j + 1, hlt', by omega, rfl, rfl, ?_, rfl, rfl, rfl, rfl, rfl, rfl, ?_, rfl, ?_, trivial⟩
        · rw [he]; rfl
        · exact i64_next (by omega) (by omega)
        · rw [he]; rfl
    · have hge : j = (aft w x).length := by have := of_decide_eq_false h; omega
      subst hge
      clear h
      repeat (first|refine pq_end rfl ?_|(refine zs rfl ?_ ?_;·repeat' constructor)|(refine zq rfl ?_ ?_;·repeat' constructor)|refine zw rfl ?_|refine zx rfl ?_|refine zb rfl ?_)
      refine ⟨k + 1, hlt, by omega, rfl, rfl, ?_, rfl, rfl, ?_, rfl, ?_, trivial⟩
      · rw [hsucc]; rfl
      · exact i64_next (by omega) (by omega)
      · rw [hsucc]; rfl
  · have hge : k = w.items.length := by have := of_decide_eq_false h; omega
    subst hge
    repeat (first|refine pq_end rfl ?_|(refine zs rfl ?_ ?_;·repeat' constructor)|(refine zq rfl ?_ ?_;·repeat' constructor)|refine zw rfl ?_|refine zx rfl ?_|refine zb rfl ?_)
    exact end1 rfl rfl rfl ⟨rfl, rfl, rfl⟩ rfl
end Go.Pv

/- The breaches, kind by kind, continued. -/
set_option maxHeartbeats 2000000
namespace Go.Pv
attribute [local irreducible] PWP POps PQuiet PSem XThen XBlock RetPost InlPost
open Go.Proofs

/-- One breach at most for each place. -/
def atN (f : Nat → List SBr) (n : Nat) : List SBr := (List.range n).flatMap f
theorem atN_succ (f : Nat → List SBr) (n : Nat) : atN f (n + 1) = atN f n ++ f n := range_flatMap f n
theorem atN_len {f : Nat → List SBr} {c : Nat} (h : ∀ i, (f i).length ≤ c) (n : Nat) : (atN f n).length ≤ n * c := by
  have := flatMap_len h (List.range n)
  rw [List.length_range] at this
  exact this

def lateAt (w : SWork) (l : List SPl) (i : Nat) : List SBr := if w.last < endP (itP w i) (slP l i) then [⟨(itP w i).name, [], 16⟩] else []
def lateP (w : SWork) (l : List SPl) : List SBr := atN (lateAt w l) w.items.length
def haltAt (w : SWork) (l : List SPl) (i : Nat) : List SBr := if stopP w (itP w i) (slP l i) = true then [⟨(itP w i).name, [], 18⟩] else []
def haltP (w : SWork) (l : List SPl) : List SBr := atN (haltAt w l) w.items.length
theorem lateAt_len (w : SWork) (l : List SPl) (i : Nat) : (lateAt w l i).length ≤ 1 := by unfold lateAt; split <;> simp
theorem haltAt_len (w : SWork) (l : List SPl) (i : Nat) : (haltAt w l i).length ≤ 1 := by unfold haltAt; split <;> simp

theorem late_ret (w : SWork) (hv : Well w) (l : List SPl) (hf : Full w l) : Ret Try.prog .shared 92 [.agg (eWork w), .sl (l.map ePl)] (.sl ((lateP w l).map eBr)) := by
  have hn := hv.n40
  have hl := hf.len
  have hml : (l.map ePl).length = w.items.length := by simp [hl]
  refine Ret.of_pwp layOk mixed Go.Proofs.Try.func92 rfl (by decide) rfl rfl ?_
  ((repeat (first | refine ps_nil ?_ | refine pq_nil ?_ | refine x_norm ?_ | refine pw_seq ?_)); refine pw_region ?_)
  refine ps_run (o_box rfl rfl rfl (by repeat' constructor) rfl ?_)
  refine ps_v rfl trivial ?_
  ((repeat (first | refine ps_nil ?_ | refine pq_nil ?_ | refine x_norm ?_ | refine pw_seq ?_)); refine pw_region ?_)
  (first | refine ps_run (o_nilm 42 3 0 rfl rfl ?_) | refine ps_run (o_nila 42 3 0 rfl rfl ?_))
  repeat (first|refine pq_end rfl ?_|(refine zs rfl ?_ ?_;·repeat' constructor)|(refine zq rfl ?_ ?_;·repeat' constructor)|refine zw rfl ?_|refine zx rfl ?_|refine zb rfl ?_)
  refine pw_loop (fun k => k ≤ w.items.length) (fun k => [(1, .sl (l.map ePl)), (2, .ptr 2 1 0 0), (5, .als 5 (1 + (atN (lateAt w l) k).length) 0 ((atN (lateAt w l) k).map eBr).length), (8, .sl (l.map ePl)), (9, I w.items.length), (10, I k)])
    (fun k => [(2, 1, ⟨28, 9, [eWork w], 2⟩), (5, 1 + (atN (lateAt w l) k).length, ⟨42, 3, (atN (lateAt w l) k).map eBr, 0⟩)]) (fun k => w.items.length - k) 0 (Nat.zero_le _) ⟨rfl, rfl, rfl, rfl, ?_, rfl, rfl, rfl, trivial⟩ ?_
  · show I ((l.map ePl).length) = _
    rw [hml]
  intro k s hk
  repeat (first|refine pq_end rfl ?_|(refine zs rfl ?_ ?_;·repeat' constructor)|(refine zq rfl ?_ ?_;·repeat' constructor)|refine zw rfl ?_|refine zx rfl ?_|refine zb rfl ?_)
  refine pw_cond rfl (fun h => ?_) (fun h => ?_)
  · have hlt : k < w.items.length := by simpa using h
    clear h
    obtain ⟨x, hx⟩ := get_lt hlt
    obtain ⟨p, hp⟩ := get_lt (show k < l.length by omega)
    have hb := atN_len (lateAt_len w l) k
    have hat : lateAt w l k = if w.last < endP x p then [⟨x.name, [], 16⟩] else [] := by rw [lateAt, slP_at hp, itP_at hx]
    repeat (first|refine pq_end rfl ?_|(refine zs rfl ?_ ?_;·repeat' constructor)|(refine zq rfl ?_ ?_;·repeat' constructor)|refine zw rfl ?_|refine zx rfl ?_|refine zb rfl ?_)
    (first|refine zsq rfl (q_idxm rfl rfl rfl rfl rfl (by omega) hp rfl) ?_|refine zqq rfl (q_idxm rfl rfl rfl rfl rfl (by omega) hp rfl) ?_)
    repeat (first|refine pq_end rfl ?_|(refine zs rfl ?_ ?_;·repeat' constructor)|(refine zq rfl ?_ ?_;·repeat' constructor)|refine zw rfl ?_|refine zx rfl ?_|refine zb rfl ?_)
    refine pw_draw 10 [15, 16, 17, 18, 19, 20, 21, 22, 23, 24] (by decide +kernel) ?_
    repeat (first|refine pq_end rfl ?_|(refine zs rfl ?_ ?_;·repeat' constructor)|(refine zq rfl ?_ ?_;·repeat' constructor)|refine zw rfl ?_|refine zx rfl ?_|refine zb rfl ?_)
    (first|refine zsq rfl (q_idxm rfl rfl rfl rfl rfl (by omega) hx rfl) ?_|refine zqq rfl (q_idxm rfl rfl rfl rfl rfl (by omega) hx rfl) ?_)
    repeat (first|refine pq_end rfl ?_|(refine zs rfl ?_ ?_;·repeat' constructor)|(refine zq rfl ?_ ?_;·repeat' constructor)|refine zw rfl ?_|refine zx rfl ?_|refine zb rfl ?_)
    (first|refine zsq rfl (q_callP rfl (end_ret x p (hf.at_ hx hp)) rfl (by repeat' constructor) rfl rfl) ?_|refine zqq rfl (q_callP rfl (end_ret x p (hf.at_ hx hp)) rfl (by repeat' constructor) rfl rfl) ?_)
    repeat (first|refine pq_end rfl ?_|(refine zs rfl ?_ ?_;·repeat' constructor)|(refine zq rfl ?_ ?_;·repeat' constructor)|refine zw rfl ?_|refine zx rfl ?_|refine zb rfl ?_)
    refine pw_cond rfl (fun h => ?_) (fun h => ?_)
    · have hc := of_decide_eq_true h
      clear h
      have he : atN (lateAt w l) (k + 1) = atN (lateAt w l) k ++ [⟨x.name, [], 16⟩] := by rw [atN_succ, hat, if_pos hc]
      repeat (first|refine pq_end rfl ?_|(refine zs rfl ?_ ?_;·repeat' constructor)|(refine zq rfl ?_ ?_;·repeat' constructor)|refine zw rfl ?_|refine zx rfl ?_|refine zb rfl ?_)
      (first|refine zsq rfl (q_idxm rfl rfl rfl rfl rfl (by omega) hx rfl) ?_|refine zqq rfl (q_idxm rfl rfl rfl rfl rfl (by omega) hx rfl) ?_)
      repeat (first|refine pq_end rfl ?_|(refine zs rfl ?_ ?_;·repeat' constructor)|(refine zq rfl ?_ ?_;·repeat' constructor)|refine zw rfl ?_|refine zx rfl ?_|refine zb rfl ?_)
      (first|refine zsq rfl (q_slit rfl rfl rfl rfl rfl rfl rfl rfl rfl rfl (by repeat' constructor) rfl) ?_|refine zqq rfl (q_slit rfl rfl rfl rfl rfl rfl rfl rfl rfl rfl (by repeat' constructor) rfl) ?_)
      repeat (first|refine pq_end rfl ?_|(refine zs rfl ?_ ?_;·repeat' constructor)|(refine zq rfl ?_ ?_;·repeat' constructor)|refine zw rfl ?_|refine zx rfl ?_|refine zb rfl ?_)
      refine ps_run (o_app 0 rfl rfl rfl rfl rfl rfl rfl rfl rfl rfl rfl (by repeat' constructor) (by intro row hr; first | (simp at hr; subst hr; rfl) | simp at hr) rfl rfl (by simp; omega) (by simp; omega) ?_)
      repeat (first|refine pq_end rfl ?_|(refine zs rfl ?_ ?_;·repeat' constructor)|(refine zq rfl ?_ ?_;·repeat' constructor)|refine zw rfl ?_|refine zx rfl ?_|refine zb rfl ?_)
      refine ⟨k + 1, hlt, by omega, rfl, rfl, ?_, rfl, rfl, ?_, rfl, ?_, trivial⟩
      · rw [he]; exact als_snoc eBr 5 1 (atN (lateAt w l) k) ⟨x.name, [], 16⟩
      · exact i64_next (by omega) (by omega)
      · rw [he]; exact cont_snoc eBr 1 42 3 0 (atN (lateAt w l) k) ⟨x.name, [], 16⟩
    · have hc := of_decide_eq_false h
      clear h
      have he : atN (lateAt w l) (k + 1) = atN (lateAt w l) k := by rw [atN_succ, hat, if_neg hc, List.append_nil]
      repeat (first|refine pq_end rfl ?_|(refine zs rfl ?_ ?_;·repeat' constructor)|(refine zq rfl ?_ ?_;·repeat' constructor)|refine zw rfl ?_|refine zx rfl ?_|refine zb rfl ?_)
      refine ⟨k + 1, hlt, by omega, rfl, rfl, ?_, rfl, rfl, ?_, rfl, ?_, trivial⟩
      · rw [he]; rfl
      · exact i64_next (by omega) (by omega)
      · rw [he]; rfl
  · have hge : k = w.items.length := by have := of_decide_eq_false h; omega
    subst hge
    repeat (first|refine pq_end rfl ?_|(refine zs rfl ?_ ?_;·repeat' constructor)|(refine zq rfl ?_ ?_;·repeat' constructor)|refine zw rfl ?_|refine zx rfl ?_|refine zb rfl ?_)
    exact end1 rfl rfl rfl ⟨rfl, rfl, rfl⟩ rfl

theorem halted_ret (w : SWork) (hw : Sane w) (hv : Well w) (l : List SPl) (hf : Full w l) : Ret Try.prog .shared 91 [.agg (eWork w), .sl (l.map ePl)] (.sl ((haltP w l).map eBr)) := by
  have hn := hv.n40
  have hl := hf.len
  have hml : (l.map ePl).length = w.items.length := by simp [hl]
  refine Ret.of_pwp layOk mixed Go.Proofs.Try.func91 rfl (by decide) rfl rfl ?_
  ((repeat (first | refine ps_nil ?_ | refine pq_nil ?_ | refine x_norm ?_ | refine pw_seq ?_)); refine pw_region ?_)
  refine ps_run (o_box rfl rfl rfl (by repeat' constructor) rfl ?_)
  refine ps_v rfl trivial ?_
  ((repeat (first | refine ps_nil ?_ | refine pq_nil ?_ | refine x_norm ?_ | refine pw_seq ?_)); refine pw_region ?_)
  (first | refine ps_run (o_nilm 42 3 0 rfl rfl ?_) | refine ps_run (o_nila 42 3 0 rfl rfl ?_))
  repeat (first|refine pq_end rfl ?_|(refine zs rfl ?_ ?_;·repeat' constructor)|(refine zq rfl ?_ ?_;·repeat' constructor)|refine zw rfl ?_|refine zx rfl ?_|refine zb rfl ?_)
  refine pw_loop (fun k => k ≤ w.items.length) (fun k => [(1, .sl (l.map ePl)), (2, .ptr 2 1 0 0), (5, .als 5 (1 + (atN (haltAt w l) k).length) 0 ((atN (haltAt w l) k).map eBr).length), (8, .sl (l.map ePl)), (9, I w.items.length), (10, I k)])
    (fun k => [(2, 1, ⟨28, 9, [eWork w], 2⟩), (5, 1 + (atN (haltAt w l) k).length, ⟨42, 3, (atN (haltAt w l) k).map eBr, 0⟩)]) (fun k => w.items.length - k) 0 (Nat.zero_le _) ⟨rfl, rfl, rfl, rfl, ?_, rfl, rfl, rfl, trivial⟩ ?_
  · show I ((l.map ePl).length) = _
    rw [hml]
  intro k s hk
  repeat (first|refine pq_end rfl ?_|(refine zs rfl ?_ ?_;·repeat' constructor)|(refine zq rfl ?_ ?_;·repeat' constructor)|refine zw rfl ?_|refine zx rfl ?_|refine zb rfl ?_)
  refine pw_cond rfl (fun h => ?_) (fun h => ?_)
  · have hlt : k < w.items.length := by simpa using h
    clear h
    obtain ⟨x, hx⟩ := get_lt hlt
    obtain ⟨p, hp⟩ := get_lt (show k < l.length by omega)
    have hb := atN_len (haltAt_len w l) k
    have hat : haltAt w l k = if stopP w x p = true then [⟨x.name, [], 18⟩] else [] := by rw [haltAt, slP_at hp, itP_at hx]
    repeat (first|refine pq_end rfl ?_|(refine zs rfl ?_ ?_;·repeat' constructor)|(refine zq rfl ?_ ?_;·repeat' constructor)|refine zw rfl ?_|refine zx rfl ?_|refine zb rfl ?_)
    (first|refine zsq rfl (q_idxm rfl rfl rfl rfl rfl (by omega) hp rfl) ?_|refine zqq rfl (q_idxm rfl rfl rfl rfl rfl (by omega) hp rfl) ?_)
    repeat (first|refine pq_end rfl ?_|(refine zs rfl ?_ ?_;·repeat' constructor)|(refine zq rfl ?_ ?_;·repeat' constructor)|refine zw rfl ?_|refine zx rfl ?_|refine zb rfl ?_)
    refine pw_draw 8 [15, 16, 17, 18, 19, 20, 21, 22] (by decide +kernel) ?_
    repeat (first|refine pq_end rfl ?_|(refine zs rfl ?_ ?_;·repeat' constructor)|(refine zq rfl ?_ ?_;·repeat' constructor)|refine zw rfl ?_|refine zx rfl ?_|refine zb rfl ?_)
    (first|refine zsq rfl (q_idxm rfl rfl rfl rfl rfl (by omega) hx rfl) ?_|refine zqq rfl (q_idxm rfl rfl rfl rfl rfl (by omega) hx rfl) ?_)
    repeat (first|refine pq_end rfl ?_|(refine zs rfl ?_ ?_;·repeat' constructor)|(refine zq rfl ?_ ?_;·repeat' constructor)|refine zw rfl ?_|refine zx rfl ?_|refine zb rfl ?_)
    (first|refine zsq rfl (q_callP rfl (stopped_ret w hw x p (hf.at_ hx hp)) rfl (by repeat' constructor) rfl rfl) ?_|refine zqq rfl (q_callP rfl (stopped_ret w hw x p (hf.at_ hx hp)) rfl (by repeat' constructor) rfl rfl) ?_)
    repeat (first|refine pq_end rfl ?_|(refine zs rfl ?_ ?_;·repeat' constructor)|(refine zq rfl ?_ ?_;·repeat' constructor)|refine zw rfl ?_|refine zx rfl ?_|refine zb rfl ?_)
    refine pw_cond rfl (fun h => ?_) (fun h => ?_)
    · have hc : stopP w x p = true := h
      clear h
      have he : atN (haltAt w l) (k + 1) = atN (haltAt w l) k ++ [⟨x.name, [], 18⟩] := by rw [atN_succ, hat, if_pos hc]
      repeat (first|refine pq_end rfl ?_|(refine zs rfl ?_ ?_;·repeat' constructor)|(refine zq rfl ?_ ?_;·repeat' constructor)|refine zw rfl ?_|refine zx rfl ?_|refine zb rfl ?_)
      (first|refine zsq rfl (q_idxm rfl rfl rfl rfl rfl (by omega) hx rfl) ?_|refine zqq rfl (q_idxm rfl rfl rfl rfl rfl (by omega) hx rfl) ?_)
      repeat (first|refine pq_end rfl ?_|(refine zs rfl ?_ ?_;·repeat' constructor)|(refine zq rfl ?_ ?_;·repeat' constructor)|refine zw rfl ?_|refine zx rfl ?_|refine zb rfl ?_)
      (first|refine zsq rfl (q_slit rfl rfl rfl rfl rfl rfl rfl rfl rfl rfl (by repeat' constructor) rfl) ?_|refine zqq rfl (q_slit rfl rfl rfl rfl rfl rfl rfl rfl rfl rfl (by repeat' constructor) rfl) ?_)
      repeat (first|refine pq_end rfl ?_|(refine zs rfl ?_ ?_;·repeat' constructor)|(refine zq rfl ?_ ?_;·repeat' constructor)|refine zw rfl ?_|refine zx rfl ?_|refine zb rfl ?_)
      refine ps_run (o_app 0 rfl rfl rfl rfl rfl rfl rfl rfl rfl rfl rfl (by repeat' constructor) (by intro row hr; first | (simp at hr; subst hr; rfl) | simp at hr) rfl rfl (by simp; omega) (by simp; omega) ?_)
      repeat (first|refine pq_end rfl ?_|(refine zs rfl ?_ ?_;·repeat' constructor)|(refine zq rfl ?_ ?_;·repeat' constructor)|refine zw rfl ?_|refine zx rfl ?_|refine zb rfl ?_)
      refine ⟨k + 1, hlt, by omega, rfl, rfl, ?_, rfl, rfl, ?_, rfl, ?_, trivial⟩
      · rw [he]; exact als_snoc eBr 5 1 (atN (haltAt w l) k) ⟨x.name, [], 18⟩
      · exact i64_next (by omega) (by omega)
      · rw [he]; exact cont_snoc eBr 1 42 3 0 (atN (haltAt w l) k) ⟨x.name, [], 18⟩
    · have hc : ¬ stopP w x p = true := by rw [show stopP w x p = false from h]; simp
      clear h
      have he : atN (haltAt w l) (k + 1) = atN (haltAt w l) k := by rw [atN_succ, hat, if_neg hc, List.append_nil]
      repeat (first|refine pq_end rfl ?_|(refine zs rfl ?_ ?_;·repeat' constructor)|(refine zq rfl ?_ ?_;·repeat' constructor)|refine zw rfl ?_|refine zx rfl ?_|refine zb rfl ?_)
      refine ⟨k + 1, hlt, by omega, rfl, rfl, ?_, rfl, rfl, ?_, rfl, ?_, trivial⟩
      · rw [he]; rfl
      · exact i64_next (by omega) (by omega)
      · rw [he]; rfl
  · have hge : k = w.items.length := by have := of_decide_eq_false h; omega
    subst hge
    repeat (first|refine pq_end rfl ?_|(refine zs rfl ?_ ?_;·repeat' constructor)|(refine zq rfl ?_ ?_;·repeat' constructor)|refine zw rfl ?_|refine zx rfl ?_|refine zb rfl ?_)
    exact end1 rfl rfl rfl ⟨rfl, rfl, rfl⟩ rfl

def clashAt (w : SWork) (l : List SPl) (i k : Nat) : List SBr := if (meetP (itP w i) (slP l i) (itP w k) (slP l k) && apartP w (itP w i) (itP w k)) = true then [⟨(itP w i).name, (itP w k).name, 17⟩] else []
def clashRow (w : SWork) (l : List SPl) (i j : Nat) : List SBr := (List.range' (i + 1) j).flatMap (clashAt w l i)
def clashP (w : SWork) (l : List SPl) : List SBr := atN (fun i => clashRow w l i (w.items.length - (i + 1))) w.items.length
theorem clashAt_len (w : SWork) (l : List SPl) (i k : Nat) : (clashAt w l i k).length ≤ 1 := by unfold clashAt; split <;> simp
theorem clashRow_len (w : SWork) (l : List SPl) (i j : Nat) : (clashRow w l i j).length ≤ j := by
  have := flatMap_len (clashAt_len w l i) (List.range' (i + 1) j)
  simpa [clashRow] using this
theorem clashRow_succ (w : SWork) (l : List SPl) (i j : Nat) : clashRow w l i (j + 1) = clashRow w l i j ++ clashAt w l i (i + 1 + j) := by
  rw [clashRow, List.range'_1_concat, List.flatMap_append, clashRow]; simp
def clashJ (w : SWork) (l : List SPl) (i j : Nat) : List SBr := atN (fun i => clashRow w l i (w.items.length - (i + 1))) i ++ clashRow w l i j

theorem clashing_ret (w : SWork) (hw : Sane w) (hv : Well w) (l : List SPl) (hf : Full w l) : Ret Try.prog .shared 90 [.agg (eWork w), .sl (l.map ePl)] (.sl ((clashP w l).map eBr)) := by
  have hn := hv.n40
  have hl := hf.len
  have hml : (l.map ePl).length = w.items.length := by simp [hl]
  have hlen : ∀ n, (atN (fun i => clashRow w l i (w.items.length - (i + 1))) n).length ≤ n * 40 := fun n => atN_len (fun i => by have := clashRow_len w l i (w.items.length - (i + 1)); omega) n
  refine Ret.of_pwp layOk mixed Go.Proofs.Try.func90 rfl (by decide) rfl rfl ?_
  ((repeat (first | refine ps_nil ?_ | refine pq_nil ?_ | refine x_norm ?_ | refine pw_seq ?_)); refine pw_region ?_)
  refine ps_run (o_box rfl rfl rfl (by repeat' constructor) rfl ?_)
  refine ps_v rfl trivial ?_
  ((repeat (first | refine ps_nil ?_ | refine pq_nil ?_ | refine x_norm ?_ | refine pw_seq ?_)); refine pw_region ?_)
  (first | refine ps_run (o_nilm 42 3 0 rfl rfl ?_) | refine ps_run (o_nila 42 3 0 rfl rfl ?_))
  repeat (first|refine pq_end rfl ?_|(refine zs rfl ?_ ?_;·repeat' constructor)|(refine zq rfl ?_ ?_;·repeat' constructor)|refine zw rfl ?_|refine zx rfl ?_|refine zb rfl ?_)
  refine pw_loop (fun k => k ≤ w.items.length) (fun k => [(1, .sl (l.map ePl)), (2, .ptr 2 1 0 0), (5, .als 5 (1 + (clashJ w l k 0).length) 0 ((clashJ w l k 0).map eBr).length), (9, I w.items.length), (10, I k)])
    (fun k => [(2, 1, ⟨28, 9, [eWork w], 2⟩), (5, 1 + (clashJ w l k 0).length, ⟨42, 3, (clashJ w l k 0).map eBr, 0⟩)]) (fun k => w.items.length - k) 0 (Nat.zero_le _) ⟨rfl, rfl, rfl, ?_, rfl, rfl, rfl, trivial⟩ ?_
  · show I ((l.map ePl).length) = _
    rw [hml]
  intro k s hk
  repeat (first|refine pq_end rfl ?_|(refine zs rfl ?_ ?_;·repeat' constructor)|(refine zq rfl ?_ ?_;·repeat' constructor)|refine zw rfl ?_|refine zx rfl ?_|refine zb rfl ?_)
  refine pw_cond rfl (fun h => ?_) (fun h => ?_)
  · have hlt : k < w.items.length := by simpa using h
    clear h
    obtain ⟨x, hx⟩ := get_lt hlt
    obtain ⟨p, hp⟩ := get_lt (show k < l.length by omega)
    have hsucc : clashJ w l (k + 1) 0 = clashJ w l k (w.items.length - (k + 1)) := by rw [clashJ, atN_succ, clashJ]; simp [clashRow]
    repeat (first|refine pq_end rfl ?_|(refine zs rfl ?_ ?_;·repeat' constructor)|(refine zq rfl ?_ ?_;·repeat' constructor)|refine zw rfl ?_|refine zx rfl ?_|refine zb rfl ?_)
    refine pw_loop (fun j => k + 1 + j ≤ w.items.length) (fun j => [(1, .sl (l.map ePl)), (2, .ptr 2 1 0 0), (5, .als 5 (1 + (clashJ w l k j).length) 0 ((clashJ w l k j).map eBr).length), (6, I k), (7, I ((k + 1 + j : Nat) : Int)), (9, I w.items.length), (10, I k)])
      (fun j => [(2, 1, ⟨28, 9, [eWork w], 2⟩), (5, 1 + (clashJ w l k j).length, ⟨42, 3, (clashJ w l k j).map eBr, 0⟩)]) (fun j => w.items.length - j) 0 (by omega) ⟨rfl, rfl, rfl, rfl, ?_, rfl, rfl, rfl, rfl, trivial⟩ ?_
    · exact (i64_next (by omega) (by omega)).trans (congrArg I (by omega))
    intro j s' hj
    repeat (first|refine pq_end rfl ?_|(refine zs rfl ?_ ?_;·repeat' constructor)|(refine zq rfl ?_ ?_;·repeat' constructor)|refine zw rfl ?_|refine zx rfl ?_|refine zb rfl ?_)
    refine pw_cond rfl (fun h => ?_) (fun h => ?_)
    · have hlt' : k + 1 + j < w.items.length := by have := of_decide_eq_true h; rw [hml] at this; omega
      clear h
      obtain ⟨y, hy⟩ := get_lt hlt'
      obtain ⟨q, hq⟩ := get_lt (show k + 1 + j < l.length by omega)
      have hb : (clashJ w l k j).length ≤ 40 * 40 + 40 := by
        have h1 := hlen k
        have h2 := clashRow_len w l k j
        rw [clashJ, List.length_append]; omega
      have hstep : clashJ w l k (j + 1) = clashJ w l k j ++ clashAt w l k (k + 1 + j) := by rw [clashJ, clashRow_succ, clashJ, List.append_assoc]
      have hat : clashAt w l k (k + 1 + j) = if (meetP x p y q && apartP w x y) = true then [⟨x.name, y.name, 17⟩] else [] := by rw [clashAt, slP_at hp, slP_at hq, itP_at hx, itP_at hy]
      have hno : (meetP x p y q && apartP w x y) = false → clashJ w l k (j + 1) = clashJ w l k j := fun h => by rw [hstep, hat, if_neg (by rw [h]; simp), List.append_nil]
      have hnext : PV.int .i64 (IntKind.i64.wrap (((k + 1 + j : Nat) : Int) + 1)) = I ((k + 1 + (j + 1) : Nat) : Int) := (i64_next (by omega) (by omega)).trans (congrArg I (by omega))
      repeat (first|refine pq_end rfl ?_|(refine zs rfl ?_ ?_;·repeat' constructor)|(refine zq rfl ?_ ?_;·repeat' constructor)|refine zw rfl ?_|refine zx rfl ?_|refine zb rfl ?_)
      (first|refine zsq rfl (q_callP rfl (meet_ret w hf.toPlan hx hy hp hq) rfl (by repeat' constructor) rfl rfl) ?_|refine zqq rfl (q_callP rfl (meet_ret w hf.toPlan hx hy hp hq) rfl (by repeat' constructor) rfl rfl) ?_)
      repeat (first|refine pq_end rfl ?_|(refine zs rfl ?_ ?_;·repeat' constructor)|(refine zq rfl ?_ ?_;·repeat' constructor)|refine zw rfl ?_|refine zx rfl ?_|refine zb rfl ?_)
      (first | refine ps_split rfl rfl (fun h => ?_) (fun h => ?_) | refine pq_split rfl rfl (fun h => ?_) (fun h => ?_))
      · have hm : meetP x p y q = true := h
        clear h
        repeat (first|refine pq_end rfl ?_|(refine zs rfl ?_ ?_;·repeat' constructor)|(refine zq rfl ?_ ?_;·repeat' constructor)|refine zw rfl ?_|refine zx rfl ?_|refine zb rfl ?_)
        (first|refine zsq rfl (q_callP rfl (apart_ret w hw hx hy) rfl (by repeat' constructor) rfl rfl) ?_|refine zqq rfl (q_callP rfl (apart_ret w hw hx hy) rfl (by repeat' constructor) rfl rfl) ?_)
        repeat (first|refine pq_end rfl ?_|(refine zs rfl ?_ ?_;·repeat' constructor)|(refine zq rfl ?_ ?_;·repeat' constructor)|refine zw rfl ?_|refine zx rfl ?_|refine zb rfl ?_)
        refine pw_cond rfl (fun h => ?_) (fun h => ?_)
        · have ha : apartP w x y = true := h
          clear h
          have he : clashJ w l k (j + 1) = clashJ w l k j ++ [⟨x.name, y.name, 17⟩] := by rw [hstep, hat, hm, ha]; rfl
          repeat (first|refine pq_end rfl ?_|(refine zs rfl ?_ ?_;·repeat' constructor)|(refine zq rfl ?_ ?_;·repeat' constructor)|refine zw rfl ?_|refine zx rfl ?_|refine zb rfl ?_)
          refine pw_draw 15 [32, 33, 34, 35, 36, 37, 38, 39, 40, 41, 42, 43, 44, 45, 46] (by decide +kernel) ?_
          repeat (first|refine pq_end rfl ?_|(refine zs rfl ?_ ?_;·repeat' constructor)|(refine zq rfl ?_ ?_;·repeat' constructor)|refine zw rfl ?_|refine zx rfl ?_|refine zb rfl ?_)
          (first|refine zsq rfl (q_idxm rfl rfl rfl rfl rfl (by omega) hx rfl) ?_|refine zqq rfl (q_idxm rfl rfl rfl rfl rfl (by omega) hx rfl) ?_)
          repeat (first|refine pq_end rfl ?_|(refine zs rfl ?_ ?_;·repeat' constructor)|(refine zq rfl ?_ ?_;·repeat' constructor)|refine zw rfl ?_|refine zx rfl ?_|refine zb rfl ?_)
          (first|refine zsq rfl (q_idxm (n := (((k+1+j:Nat):Int) : Int)) rfl rfl rfl rfl rfl (by omega) hy rfl) ?_|refine zqq rfl (q_idxm (n := (((k+1+j:Nat):Int) : Int)) rfl rfl rfl rfl rfl (by omega) hy rfl) ?_)
          repeat (first|refine pq_end rfl ?_|(refine zs rfl ?_ ?_;·repeat' constructor)|(refine zq rfl ?_ ?_;·repeat' constructor)|refine zw rfl ?_|refine zx rfl ?_|refine zb rfl ?_)
          (first|refine zsq rfl (q_slit rfl rfl rfl rfl rfl rfl rfl rfl rfl rfl (by repeat' constructor) rfl) ?_|refine zqq rfl (q_slit rfl rfl rfl rfl rfl rfl rfl rfl rfl rfl (by repeat' constructor) rfl) ?_)
          repeat (first|refine pq_end rfl ?_|(refine zs rfl ?_ ?_;·repeat' constructor)|(refine zq rfl ?_ ?_;·repeat' constructor)|refine zw rfl ?_|refine zx rfl ?_|refine zb rfl ?_)
          refine ps_run (o_app 0 rfl rfl rfl rfl rfl rfl rfl rfl rfl rfl rfl (by repeat' constructor) (by intro row hr; first | (simp at hr; subst hr; rfl) | simp at hr) rfl rfl (by simp; omega) (by simp; omega) ?_)
          repeat (first|refine pq_end rfl ?_|(refine zs rfl ?_ ?_;·repeat' constructor)|(refine zq rfl ?_ ?_;·repeat' constructor)|refine zw rfl ?_|refine zx rfl ?_|refine zb rfl ?_)
          refine ⟨j + 1, hlt', by omega, rfl, rfl, ?_, rfl, hnext, rfl, rfl, rfl, ?_, trivial⟩
          · rw [he]; exact als_snoc eBr 5 1 (clashJ w l k j) ⟨x.name, y.name, 17⟩
          · rw [he]; exact cont_snoc eBr 1 42 3 0 (clashJ w l k j) ⟨x.name, y.name, 17⟩
        · have ha : apartP w x y = false := h
          clear h
          have he := hno (by rw [ha, Bool.and_false])
          repeat (first|refine pq_end rfl ?_|(refine zs rfl ?_ ?_;·repeat' constructor)|(refine zq rfl ?_ ?_;·repeat' constructor)|refine zw rfl ?_|refine zx rfl ?_|refine zb rfl ?_)
          refine ⟨j + 1, hlt', by omega, rfl, rfl, ?_, rfl, hnext, rfl, rfl, rfl, ?_, trivial⟩
          · rw [he]; rfl
          · rw [he]; rfl
      · have hm : meetP x p y q = false := h
        clear h
        have he := hno (by rw [hm, Bool.false_and])
        repeat (first|refine pq_end rfl ?_|(refine zs rfl ?_ ?_;·repeat' constructor)|(refine zq rfl ?_ ?_;·repeat' constructor)|refine zw rfl ?_|refine zx rfl ?_|refine zb rfl ?_)
        refine ⟨j + 1, hlt', by omega, rfl, rfl, ?_, rfl, hnext, rfl, rfl, rfl, ?_, trivial⟩
        · rw [he]; rfl
        · rw [he]; rfl
    · have hge : j = w.items.length - (k + 1) := by have := of_decide_eq_false h; rw [hml] at this; omega
      subst hge
      clear h
      repeat (first|refine pq_end rfl ?_|(refine zs rfl ?_ ?_;·repeat' constructor)|(refine zq rfl ?_ ?_;·repeat' constructor)|refine zw rfl ?_|refine zx rfl ?_|refine zb rfl ?_)
      refine ⟨k + 1, hlt, by omega, rfl, rfl, ?_, rfl, ?_, rfl, ?_, trivial⟩
      · rw [hsucc]; rfl
      · exact i64_next (by omega) (by omega)
      · rw [hsucc]; rfl
  · have hge : k = w.items.length := by have := of_decide_eq_false h; omega
    subst hge
    have hfin : clashJ w l w.items.length 0 = clashP w l := by rw [clashJ, clashP]; simp [clashRow]
    rw [hfin]
    repeat (first|refine pq_end rfl ?_|(refine zs rfl ?_ ?_;·repeat' constructor)|(refine zq rfl ?_ ?_;·repeat' constructor)|refine zw rfl ?_|refine zx rfl ?_|refine zb rfl ?_)
    exact end1 rfl rfl rfl ⟨rfl, rfl, rfl⟩ rfl
end Go.Pv

/- The people at work on each day. -/
set_option maxHeartbeats 2000000
namespace Go.Pv
attribute [local irreducible] PWP POps PQuiet PSem XThen XBlock RetPost InlPost
open Go.Proofs

def aget : List (Int × Int) → Int → Int
  | [], _ => 0
  | (d, c) :: m, k => if d = k then c else aget m k
def aput (k v : Int) : List (Int × Int) → List (Int × Int)
  | [] => [(k, v)]
  | (d, c) :: m => if d = k then (d, v) :: m else (d, c) :: aput k v m
def eKV (e : Int × Int) : List PV := [I e.1, I e.2]

theorem mval_cons (z key : PV) (row : List PV) (rows : List (List PV)) : mval z key (row :: rows) = bif mhd key row then row.getD 1 z else mval z key rows := by
  unfold mval
  cases h : mhd key row with
  | true => simp [mix, h]
  | false =>
    simp only [mix, h, cond_false]
    cases mix key rows <;> simp
theorem mput_cons (key v : PV) (row : List PV) (rows : List (List PV)) : mput key v (row :: rows) = bif mhd key row then row.set 1 v :: rows else row :: mput key v rows := by
  unfold mput
  cases h : mhd key row with
  | true => simp [mix, h]
  | false =>
    simp only [mix, h, cond_false]
    cases hm : mix key rows with
    | none => simp
    | some i =>
      have hi := mix_lt hm
      simp [List.getElem?_eq_getElem hi]
theorem mval_kv (d : Int) : ∀ m : List (Int × Int), mval (I 0) (I d) (m.map eKV) = I (aget m d)
  | [] => rfl
  | (e, c) :: m => by
    rw [List.map_cons, mval_cons, mval_kv d m]
    have : mhd (I d) (eKV (e, c)) = decide (e = d) := rfl
    rw [this, aget]
    by_cases h : e = d
    · rw [if_pos h, decide_eq_true h]; rfl
    · rw [if_neg h, decide_eq_false h]; rfl
theorem mput_kv (d v : Int) : ∀ m : List (Int × Int), mput (I d) (I v) (m.map eKV) = (aput d v m).map eKV
  | [] => rfl
  | (e, c) :: m => by
    rw [List.map_cons, mput_cons, mput_kv d v m]
    have : mhd (I d) (eKV (e, c)) = decide (e = d) := rfl
    rw [this, aput]
    by_cases h : e = d
    · rw [if_pos h, decide_eq_true h]; rfl
    · rw [if_neg h, decide_eq_false h]; rfl
theorem keyed_kv (m : List (Int × Int)) : keyed (.int .i64) (m.map eKV) = true := by
  induction m with
  | nil => rfl
  | cons e m ih => rw [List.map_cons]; exact ih
theorem zone3 : zone Try.prog 3 = true := by kernel_rfl

def addM (m : List (Int × Int)) (d c : Int) : List (Int × Int) := aput d (aget m d + c) m
def BndM (m : List (Int × Int)) (B : Int) : Prop := ∀ e ∈ m, 0 ≤ e.2 ∧ e.2 ≤ B
theorem BndM.get {m : List (Int × Int)} {B : Int} (h : BndM m B) (hB : 0 ≤ B) (d : Int) : 0 ≤ aget m d ∧ aget m d ≤ B := by
  induction m with
  | nil => exact ⟨Int.le_refl _, hB⟩
  | cons e m ih =>
    obtain ⟨a, c⟩ := e
    unfold aget
    split
    · exact h (a, c) (by simp)
    · exact ih fun e he => h e (by simp [he])
theorem BndM.put {m : List (Int × Int)} {B : Int} (h : BndM m B) {d v : Int} (hv : 0 ≤ v ∧ v ≤ B) : BndM (aput d v m) B := by
  induction m with
  | nil => intro e he; simp [aput] at he; subst he; exact hv
  | cons e m ih =>
    obtain ⟨a, c⟩ := e
    have ih := ih fun e he => h e (by simp [he])
    unfold aput
    split
    · intro e he
      rcases List.mem_cons.1 he with rfl | he
      · exact hv
      · exact h e (by simp [he])
    · intro e he
      rcases List.mem_cons.1 he with rfl | he
      · exact h _ (by simp)
      · exact ih e he
theorem BndM.add {m : List (Int × Int)} {B : Int} (h : BndM m B) (hB : 0 ≤ B) {d c : Int} (hc : 0 ≤ c ∧ c ≤ 1000) : BndM (addM m d c) (B + 1000) := by
  have := h.get hB d
  exact BndM.put (fun e he => by have := h e he; omega) (by omega)
def pplJ (m : List (Int × Int)) (d c : Int) (j : Nat) : List (Int × Int) := (List.range j).foldl (fun m i => addM m (d + (i : Nat)) c) m
theorem pplJ_succ (m : List (Int × Int)) (d c : Int) (j : Nat) : pplJ m d c (j + 1) = addM (pplJ m d c j) (d + j) c := by
  rw [pplJ, List.range_succ, List.foldl_append]; rfl
theorem pplJ_bound {m : List (Int × Int)} {B : Int} (h : BndM m B) (hB : 0 ≤ B) {d c : Int} (hc : 0 ≤ c ∧ c ≤ 1000) (j : Nat) : BndM (pplJ m d c j) (B + 1000 * j) := by
  induction j with
  | zero => simpa [pplJ] using h
  | succ j ih =>
    rw [pplJ_succ]
    have := ih.add (by omega) (d := d + j) hc
    intro e he
    have := this e he
    omega
def peopleF (t : Str) (m : List (Int × Int)) (q : SItem × SPl) : List (Int × Int) :=
  if q.2.on && decide (q.1.trade = t) then pplJ m q.2.day (modeAt q.1 q.2.mode).crew (modeAt q.1 q.2.mode).days.toNat else m
def peopleK (w : SWork) (l : List SPl) (t : Str) (k : Nat) : List (Int × Int) := ((prs w l).take k).foldl (peopleF t) []
def peopleP (w : SWork) (l : List SPl) (t : Str) : List (Int × Int) := (prs w l).foldl (peopleF t) []
theorem peopleK_succ {w : SWork} {l : List SPl} {t : Str} {k : Nat} {x : SItem} {p : SPl} (hx : w.items[k]? = some x) (hp : l[k]? = some p) : peopleK w l t (k + 1) = peopleF t (peopleK w l t k) (x, p) := by
  rw [peopleK, take_snoc (prs_at hx hp), List.foldl_append]; rfl
theorem peopleK_bound {w : SWork} {l : List SPl} (h : Plan w l) (t : Str) (k : Nat) (hk : k ≤ l.length) : BndM (peopleK w l t k) (60000 * k) := by
  induction k with
  | zero => intro e he; simp [peopleK] at he
  | succ k ih =>
    have ih := ih (by omega)
    obtain ⟨p, hp⟩ := get_lt (show k < l.length by omega)
    obtain ⟨x, hx⟩ := get_lt (show k < w.items.length by have := h.len; omega)
    rw [peopleK_succ hx hp]
    unfold peopleF
    split
    · rename_i hc
      simp only [Bool.and_eq_true] at hc
      have hok := h.ok k x p hx hp hc.1
      have h1 := hok.crew
      have h2 := hok.days
      have := pplJ_bound ih (by omega) (d := p.day) h1 (modeAt x p.mode).days.toNat
      intro e he
      have := this e he
      omega
    · intro e he
      have := ih e he
      omega

theorem people_ret (w : SWork) (hn : w.items.length ≤ 40) (l : List SPl) (hf : Plan w l) (t : Str) : Ret Try.prog .shared 127 [.agg (eWork w), .sl (l.map ePl), .str t] (.mapd ((peopleP w l t).map eKV)) := by
  have hl := hf.len
  have hml : (l.map ePl).length = l.length := by simp
  refine Ret.of_pwp layOk mixed Go.Proofs.Try.func127 rfl (by decide) rfl rfl ?_
  repeat (first|refine pq_end rfl ?_|(refine zs rfl ?_ ?_;·repeat' constructor)|(refine zq rfl ?_ ?_;·repeat' constructor)|refine zw rfl ?_|refine zx rfl ?_|refine zb rfl ?_)
  refine ps_run (o_mkmap rfl ?_)
  repeat (first|refine pq_end rfl ?_|(refine zs rfl ?_ ?_;·repeat' constructor)|(refine zq rfl ?_ ?_;·repeat' constructor)|refine zw rfl ?_|refine zx rfl ?_|refine zb rfl ?_)
  refine pw_loop (fun k => k ≤ l.length) (fun k => [(1, .sl (l.map ePl)), (2, .str t), (3, .ptr 3 1 0 0), (7, .mp 12 1), (13, .sl (l.map ePl)), (14, I l.length), (15, I k)])
    (fun k => [(3, 1, ⟨28, 9, [eWork w], 2⟩), (12, 1, ⟨155, 0, (peopleK w l t k).map eKV, 0⟩)]) (fun k => l.length - k) 0 (Nat.zero_le _) ⟨rfl, rfl, rfl, rfl, rfl, ?_, rfl, rfl, rfl, trivial⟩ ?_
  · show I ((l.map ePl).length) = _
    rw [hml]
  intro k s hk
  repeat (first|refine pq_end rfl ?_|(refine zs rfl ?_ ?_;·repeat' constructor)|(refine zq rfl ?_ ?_;·repeat' constructor)|refine zw rfl ?_|refine zx rfl ?_|refine zb rfl ?_)
  refine pw_cond rfl (fun h => ?_) (fun h => ?_)
  · have hlt : k < l.length := by simpa using h
    clear h
    obtain ⟨p, hp⟩ := get_lt hlt
    obtain ⟨x, hx⟩ := get_lt (show k < w.items.length by omega)
    have hok := hf.ok k x p hx hp
    have hsk := peopleK_succ (t := t) hx hp
    have hno : (p.on && decide (x.trade = t)) = false → peopleK w l t (k + 1) = peopleK w l t k := fun h => by rw [hsk, peopleF, h]; rfl
    have hbk := peopleK_bound hf t k hk
    repeat (first|refine pq_end rfl ?_|(refine zs rfl ?_ ?_;·repeat' constructor)|(refine zq rfl ?_ ?_;·repeat' constructor)|refine zw rfl ?_|refine zx rfl ?_|refine zb rfl ?_)
    (first|refine zsq rfl (q_idxm rfl rfl rfl rfl rfl (by omega) hp rfl) ?_|refine zqq rfl (q_idxm rfl rfl rfl rfl rfl (by omega) hp rfl) ?_)
    repeat (first|refine pq_end rfl ?_|(refine zs rfl ?_ ?_;·repeat' constructor)|(refine zq rfl ?_ ?_;·repeat' constructor)|refine zw rfl ?_|refine zx rfl ?_|refine zb rfl ?_)
    (first|refine zsq rfl (q_idxm rfl rfl rfl rfl rfl (by omega) hx rfl) ?_|refine zqq rfl (q_idxm rfl rfl rfl rfl rfl (by omega) hx rfl) ?_)
    repeat (first|refine pq_end rfl ?_|(refine zs rfl ?_ ?_;·repeat' constructor)|(refine zq rfl ?_ ?_;·repeat' constructor)|refine zw rfl ?_|refine zx rfl ?_|refine zb rfl ?_)
    (first | refine ps_split rfl rfl (fun h => ?_) (fun h => ?_) | refine pq_split rfl rfl (fun h => ?_) (fun h => ?_))
    · have hon : p.on = false := by simpa using h
      clear h
      have he := hno (by rw [hon]; rfl)
      repeat (first|refine pq_end rfl ?_|(refine zs rfl ?_ ?_;·repeat' constructor)|(refine zq rfl ?_ ?_;·repeat' constructor)|refine zw rfl ?_|refine zx rfl ?_|refine zb rfl ?_)
      refine ⟨k + 1, hlt, by omega, rfl, rfl, rfl, rfl, rfl, rfl, ?_, rfl, ?_, trivial⟩
      · exact i64_next (by omega) (by omega)
      · rw [he]; rfl
    have hon : p.on = true := by simpa using h
    have hok := hok hon
    clear h
    repeat (first|refine pq_end rfl ?_|(refine zs rfl ?_ ?_;·repeat' constructor)|(refine zq rfl ?_ ?_;·repeat' constructor)|refine zw rfl ?_|refine zx rfl ?_|refine zb rfl ?_)
    refine pw_cond rfl (fun h => ?_) (fun h => ?_)
    · have ht : ¬ x.trade = t := by simpa using h
      clear h
      have he := hno (by rw [decide_eq_false ht, Bool.and_false])
      repeat (first|refine pq_end rfl ?_|(refine zs rfl ?_ ?_;·repeat' constructor)|(refine zq rfl ?_ ?_;·repeat' constructor)|refine zw rfl ?_|refine zx rfl ?_|refine zb rfl ?_)
      refine ⟨k + 1, hlt, by omega, rfl, rfl, rfl, rfl, rfl, rfl, ?_, rfl, ?_, trivial⟩
      · exact i64_next (by omega) (by omega)
      · rw [he]; rfl
    have ht : x.trade = t := by simpa using h
    clear h
    have h1 := hok.day
    have h2 := hok.days
    have h3 := hok.crew
    have hm := hok.mode
    have hlo := hok.lo
    have he : peopleK w l t (k + 1) = pplJ (peopleK w l t k) p.day (modeAt x p.mode).crew (modeAt x p.mode).days.toNat := by rw [hsk, peopleF, hon, decide_eq_true ht]; rfl
    repeat (first|refine pq_end rfl ?_|(refine zs rfl ?_ ?_;·repeat' constructor)|(refine zq rfl ?_ ?_;·repeat' constructor)|refine zw rfl ?_|refine zx rfl ?_|refine zb rfl ?_)
    refine pw_loop (fun j => j ≤ (modeAt x p.mode).days.toNat) (fun j => [(1, .sl (l.map ePl)), (2, .str t), (3, .ptr 3 1 0 0), (7, .mp 12 1), (9, .ptr 9 ((s.own 9).1 + 1) 0 0), (10, .ptr 10 ((s.own 10).1 + 1) 0 0), (11, I (p.day + j)), (13, .sl (l.map ePl)), (14, I l.length), (15, I k)])
      (fun j => [(3, 1, ⟨28, 9, [eWork w], 2⟩), (9, (s.own 9).1 + 1, ⟨128, 3, [ePl p], 2⟩), (10, (s.own 10).1 + 1, ⟨57, 7, [eItem x], 2⟩), (12, 1, ⟨155, 0, (pplJ (peopleK w l t k) p.day (modeAt x p.mode).crew j).map eKV, 0⟩)]) (fun j => (modeAt x p.mode).days.toNat - j) 0 (Nat.zero_le _)
      ⟨rfl, rfl, rfl, rfl, rfl, rfl, ?_, rfl, rfl, rfl, rfl, rfl, rfl, rfl, trivial⟩ ?_
    · show I p.day = I (p.day + ((0 : Nat) : Int))
      simp
    intro j s' hj
    have hbj := pplJ_bound hbk (by omega) (d := p.day) h3 j
    repeat (first|refine pq_end rfl ?_|(refine zs rfl ?_ ?_;·repeat' constructor)|(refine zq rfl ?_ ?_;·repeat' constructor)|refine zw rfl ?_|refine zx rfl ?_|refine zb rfl ?_)
    (first|refine zsq rfl (q_callP rfl (end_ret x p hok) rfl (by repeat' constructor) rfl rfl) ?_|refine zqq rfl (q_callP rfl (end_ret x p hok) rfl (by repeat' constructor) rfl rfl) ?_)
    repeat (first|refine pq_end rfl ?_|(refine zs rfl ?_ ?_;·repeat' constructor)|(refine zq rfl ?_ ?_;·repeat' constructor)|refine zw rfl ?_|refine zx rfl ?_|refine zb rfl ?_)
    refine pw_cond rfl (fun h => ?_) (fun h => ?_)
    · have hlt' : j < (modeAt x p.mode).days.toNat := by have := of_decide_eq_true h; rw [endP] at this; omega
      clear h
      have hg := hbj.get (by omega) (p.day + j)
      repeat (first|refine pq_end rfl ?_|(refine zs rfl ?_ ?_;·repeat' constructor)|(refine zq rfl ?_ ?_;·repeat' constructor)|refine zw rfl ?_|refine zx rfl ?_|refine zb rfl ?_)
      refine pw_draw 11 [43, 44, 45, 46, 47, 48, 49, 50, 51, 52, 53] (by decide +kernel) ?_
      repeat (first|refine pq_end rfl ?_|(refine zs rfl ?_ ?_;·repeat' constructor)|(refine zq rfl ?_ ?_;·repeat' constructor)|refine zw rfl ?_|refine zx rfl ?_|refine zb rfl ?_)
      refine pq_q (q_look rfl rfl rfl rfl rfl zone3 rfl rfl rfl rfl rfl (keyed_kv _)) ?_
      rw [show mval (PV.int .i64 0) (PV.int .i64 (p.day + j)) ((pplJ (peopleK w l t k) p.day (modeAt x p.mode).crew j).map eKV) = I (aget (pplJ (peopleK w l t k) p.day (modeAt x p.mode).crew j) (p.day + j)) from mval_kv _ _]
      repeat (first|refine pq_end rfl ?_|(refine zs rfl ?_ ?_;·repeat' constructor)|(refine zq rfl ?_ ?_;·repeat' constructor)|refine zw rfl ?_|refine zx rfl ?_|refine zb rfl ?_)
      (first|refine zsq rfl (q_idxm rfl rfl rfl rfl rfl (by omega) hm rfl) ?_|refine zqq rfl (q_idxm rfl rfl rfl rfl rfl (by omega) hm rfl) ?_)
      repeat (first|refine pq_end rfl ?_|(refine zs rfl ?_ ?_;·repeat' constructor)|(refine zq rfl ?_ ?_;·repeat' constructor)|refine zw rfl ?_|refine zx rfl ?_|refine zb rfl ?_)
      refine ps_run0 (o_mset 0 rfl rfl rfl rfl rfl rfl rfl rfl rfl (keyed_kv _) rfl rfl ?_)
      repeat (first|refine pq_end rfl ?_|(refine zs rfl ?_ ?_;·repeat' constructor)|(refine zq rfl ?_ ?_;·repeat' constructor)|refine zw rfl ?_|refine zx rfl ?_|refine zb rfl ?_)
      refine ⟨j + 1, hlt', by omega, rfl, rfl, rfl, rfl, rfl, rfl, ?_, rfl, rfl, rfl, rfl, rfl, rfl, ?_, trivial⟩
      · exact (i64_next (by omega) (by omega)).trans (congrArg I (by omega))
      · rw [pplJ_succ, addM, ← mput_kv]
        refine Eq.trans (b := (1, some (Cont.mk 155 0 (mput (I (p.day + j)) (PV.int .i64 (IntKind.i64.wrap (aget (pplJ (peopleK w l t k) p.day (modeAt x p.mode).crew j) (p.day + j) + (modeAt x p.mode).crew))) ((pplJ (peopleK w l t k) p.day (modeAt x p.mode).crew j).map eKV)) 0))) rfl ?_
        rw [wrap_i64 (by omega) (by omega)]
    · have hge : j = (modeAt x p.mode).days.toNat := by have := of_decide_eq_false h; rw [endP] at this; omega
      subst hge
      clear h
      repeat (first|refine pq_end rfl ?_|(refine zs rfl ?_ ?_;·repeat' constructor)|(refine zq rfl ?_ ?_;·repeat' constructor)|refine zw rfl ?_|refine zx rfl ?_|refine zb rfl ?_)
      refine ⟨k + 1, hlt, by omega, rfl, rfl, rfl, rfl, rfl, rfl, ?_, rfl, ?_, trivial⟩
      · exact i64_next (by omega) (by omega)
      · rw [he]; rfl
  · have hge : k = l.length := by have := of_decide_eq_false h; omega
    subst hge
    have hfin : peopleK w l t l.length = peopleP w l t := by
      rw [peopleK, List.take_of_length_le, peopleP]
      simp [prs]; omega
    repeat (first|refine pq_end rfl ?_|(refine zs rfl ?_ ?_;·repeat' constructor)|(refine zq rfl ?_ ?_;·repeat' constructor)|refine zw rfl ?_|refine zx rfl ?_|refine zb rfl ?_)
    exact end1 rfl rfl rfl rfl (by rw [hfin])
end Go.Pv

/- Breaches, plans and their cost. -/
set_option maxHeartbeats 2000000
namespace Go.Pv
attribute [local irreducible] PWP POps PQuiet PSem XThen XBlock RetPost InlPost
open Go.Proofs

/-- A nil slice in a register, as an empty site of its own. -/
theorem Ghost.nilreg {s : St} {k gk t : Nat} {oc : Option Cont} (T : TypeId) (sz kd : Nat) (ho : s.own k = (gk, oc)) (hr : s.reg t = .nil) : Ghost s ((s.setOwn k (gk + 1) (some ⟨T, sz, [], kd⟩)).putR t (.als k (gk + 1) 0 0)) := by
  intro C a w hX ⟨γ, h⟩
  have ht : Turn C γ s w w k none := ⟨rfl, rfl, rfl, Nat.le_refl _, fun b _ => .inl rfl, fun b hb => by cases hb⟩
  have h1 := ht.sim h (c := ⟨T, sz, [], kd⟩) (.none_ rfl)
  have hfin : s.fin k ⟨T, sz, [], kd⟩ = s.setOwn k (gk + 1) (some ⟨T, sz, [], kd⟩) := by rw [St.fin, ho]
  rw [hfin] at h1
  refine ⟨_, h1.defers, h1.size, fun r => ?_, h1.sites, h1.inj, h1.base, h1.below, h1.top, h1.kept⟩
  show Rep _ (bif Nat.beq r t then _ else s.reg r) _
  by_cases hrt : r = t
  · subst hrt
    have hv := h.regs r
    rw [hr] at hv
    rw [hv.nil_inv]
    simp only [Nat.beq_refl, cond_true]
    refine .als ?_ fun _ l hl => ?_
    · show _ ≤ ((s.setOwn k (gk + 1) (some ⟨T, sz, [], kd⟩)).own k).1
      rw [setOwn_same]; exact Nat.le_refl _
    · have hl : (((s.setOwn k (gk + 1) (some ⟨T, sz, [], kd⟩)).own k).2.map fun c => (⟨upg γ k none k, c.ty, c.sz, c.rows.length⟩ : SLoc)) = some l := hl
      rw [setOwn_same, upg_same] at hl
      have hl := Option.some.inj hl
      subst hl
      exact .inl ⟨rfl, rfl, rfl, rfl⟩
  · rw [nbeq_ne hrt]; exact h1.regs r

def mostF (a : Int) (e : Int × Int) : Int := imax a e.2
def mostP (m : List (Int × Int)) : Int := m.foldl mostF 0
theorem imax_comm (a b c : Int) : imax (imax a b) c = imax (imax a c) b := by unfold imax; (repeat' split) <;> omega
theorem most_erase : ∀ (m : List (Int × Int)) (a : Int) (i : Nat) (e : Int × Int), m[i]? = some e → (m.eraseIdx i).foldl mostF (mostF a e) = m.foldl mostF a
  | [], _, _, _, h => by simp at h
  | q :: m, a, 0, e, h => by simp at h; subst h; rfl
  | q :: m, a, i + 1, e, h => by
    rw [List.eraseIdx_cons_succ, List.foldl_cons, List.foldl_cons, ← most_erase m (mostF a q) i e (by simpa using h)]
    congr 1
    exact imax_comm _ _ _

def crowdAt (w : SWork) (l : List SPl) (i : Nat) : List SBr := match w.trades[i]? with | some t => if t.crew < mostP (peopleP w l t.name) then [⟨t.name, [], 23⟩] else [] | none => []
def crowdP (w : SWork) (l : List SPl) : List SBr := atN (crowdAt w l) w.trades.length
theorem crowdAt_len (w : SWork) (l : List SPl) (i : Nat) : (crowdAt w l i).length ≤ 1 := by
  unfold crowdAt
  split
  · split <;> simp
  · simp

theorem crowded_ret (w : SWork) (hv : Well w) (l : List SPl) (hf : Full w l) : Ret Try.prog .shared 89 [.agg (eWork w), .sl (l.map ePl)] (.sl ((crowdP w l).map eBr)) := by
  have hn := hv.n40
  have ht6 := hv.t6
  have hl := hf.len
  refine Ret.of_pwp layOk mixed Go.Proofs.Try.func89 rfl (by decide) rfl rfl ?_
  ((repeat (first | refine ps_nil ?_ | refine pq_nil ?_ | refine x_norm ?_ | refine pw_seq ?_)); refine pw_region ?_)
  refine ps_run (o_box rfl rfl rfl (by repeat' constructor) rfl ?_)
  refine ps_v rfl trivial ?_
  ((repeat (first | refine ps_nil ?_ | refine pq_nil ?_ | refine x_norm ?_ | refine pw_seq ?_)); refine pw_region ?_)
  (first | refine ps_run (o_nilm 42 3 0 rfl rfl ?_) | refine ps_run (o_nila 42 3 0 rfl rfl ?_))
  repeat (first|refine pq_end rfl ?_|(refine zs rfl ?_ ?_;·repeat' constructor)|(refine zq rfl ?_ ?_;·repeat' constructor)|refine zw rfl ?_|refine zx rfl ?_|refine zb rfl ?_)
  refine pw_loop (fun k => k ≤ w.trades.length) (fun k => [(1, .sl (l.map ePl)), (2, .ptr 2 1 0 0), (5, .als 5 (1 + (atN (crowdAt w l) k).length) 0 ((atN (crowdAt w l) k).map eBr).length), (12, .sl (w.trades.map eTrade)), (13, I w.trades.length), (14, I k)])
    (fun k => [(2, 1, ⟨28, 9, [eWork w], 2⟩), (5, 1 + (atN (crowdAt w l) k).length, ⟨42, 3, (atN (crowdAt w l) k).map eBr, 0⟩)]) (fun k => w.trades.length - k) 0 (Nat.zero_le _) ⟨rfl, rfl, rfl, rfl, ?_, rfl, rfl, rfl, trivial⟩ ?_
  · show I ((w.trades.map eTrade).length) = _
    simp
  intro k s hk
  repeat (first|refine pq_end rfl ?_|(refine zs rfl ?_ ?_;·repeat' constructor)|(refine zq rfl ?_ ?_;·repeat' constructor)|refine zw rfl ?_|refine zx rfl ?_|refine zb rfl ?_)
  refine pw_cond rfl (fun h => ?_) (fun h => ?_)
  · have hlt : k < w.trades.length := by simpa using h
    clear h
    obtain ⟨t, ht⟩ := get_lt hlt
    have hb := atN_len (crowdAt_len w l) k
    have hat : crowdAt w l k = if t.crew < mostP (peopleP w l t.name) then [⟨t.name, [], 23⟩] else [] := by rw [crowdAt, ht]
    repeat (first|refine pq_end rfl ?_|(refine zs rfl ?_ ?_;·repeat' constructor)|(refine zq rfl ?_ ?_;·repeat' constructor)|refine zw rfl ?_|refine zx rfl ?_|refine zb rfl ?_)
    (first|refine zsq rfl (q_idxm rfl rfl rfl rfl rfl (by omega) ht rfl) ?_|refine zqq rfl (q_idxm rfl rfl rfl rfl rfl (by omega) ht rfl) ?_)
    repeat (first|refine pq_end rfl ?_|(refine zs rfl ?_ ?_;·repeat' constructor)|(refine zq rfl ?_ ?_;·repeat' constructor)|refine zw rfl ?_|refine zx rfl ?_|refine zb rfl ?_)
    (first|refine zsq rfl (q_call rfl (people_ret w hn l hf.toPlan t.name) rfl (by repeat' constructor) rfl) ?_|refine zqq rfl (q_call rfl (people_ret w hn l hf.toPlan t.name) rfl (by repeat' constructor) rfl) ?_)
    refine ps_run (o_range rfl rfl rfl rfl ?_)
    repeat (first|refine pq_end rfl ?_|(refine zs rfl ?_ ?_;·repeat' constructor)|(refine zq rfl ?_ ?_;·repeat' constructor)|refine zw rfl ?_|refine zx rfl ?_|refine zb rfl ?_)
    refine pw_loop (fun q : PV × List (Int × Int) × Int => q.2.1.foldl mostF q.2.2 = mostP (peopleP w l t.name)) (fun q => [(1, .sl (l.map ePl)), (2, .ptr 2 1 0 0), (5, .als 5 (1 + (atN (crowdAt w l) k).length) 0 ((atN (crowdAt w l) k).map eBr).length), (7, .ptr 7 ((s.own 7).1 + 1) 0 0), (8, I q.2.2), (12, .sl (w.trades.map eTrade)), (13, I w.trades.length), (14, I k), (23, .mi 23 ((s.own 23).1 + 1))])
      (fun q => [(2, 1, ⟨28, 9, [eWork w], 2⟩), (5, 1 + (atN (crowdAt w l) k).length, ⟨42, 3, (atN (crowdAt w l) k).map eBr, 0⟩), (7, (s.own 7).1 + 1, ⟨86, 3, [eTrade t], 2⟩), (23, (s.own 23).1 + 1, ⟨155, 0, [q.1 :: q.2.1.map (fun e => PV.agg (eKV e))], 3⟩)]) (fun q => q.2.1.length) (.nil, peopleP w l t.name, 0) rfl
      ⟨rfl, rfl, rfl, rfl, rfl, rfl, rfl, rfl, rfl, rfl, rfl, rfl, ?_, trivial⟩ ?_
    · show ((s.own 23).1 + 1, some (Cont.mk 155 0 [PV.nil :: ((peopleP w l t.name).map eKV).map PV.agg] 3)) = _
      rw [List.map_map]; rfl
    rintro ⟨last, rem, most⟩ s' hrem
    ((repeat (first | refine ps_nil ?_ | refine pq_nil ?_ | refine x_norm ?_ | refine pw_seq ?_)); refine pw_region ?_)
    refine ps_run (o_next rfl rfl (fun h0 => ?_) (fun i ck cv hi => ?_))
    · have hnil : rem = [] := by simpa using h0
      subst hnil
      have hmost : most = mostP (peopleP w l t.name) := hrem
      repeat (first|refine pq_end rfl ?_|(refine zs rfl ?_ ?_;·repeat' constructor)|(refine zq rfl ?_ ?_;·repeat' constructor)|refine zw rfl ?_|refine zx rfl ?_|refine zb rfl ?_)
      refine pw_cond rfl (fun h => ?_) (fun h => ?_)
      · have hc : t.crew < most := of_decide_eq_true h
        clear h
        have he : atN (crowdAt w l) (k + 1) = atN (crowdAt w l) k ++ [⟨t.name, [], 23⟩] := by rw [atN_succ, hat, if_pos (by omega)]
        repeat (first|refine pq_end rfl ?_|(refine zs rfl ?_ ?_;·repeat' constructor)|(refine zq rfl ?_ ?_;·repeat' constructor)|refine zw rfl ?_|refine zx rfl ?_|refine zb rfl ?_)
        (first|refine zsq rfl (q_slit rfl rfl rfl rfl rfl rfl rfl rfl rfl rfl (by repeat' constructor) rfl) ?_|refine zqq rfl (q_slit rfl rfl rfl rfl rfl rfl rfl rfl rfl rfl (by repeat' constructor) rfl) ?_)
        repeat (first|refine pq_end rfl ?_|(refine zs rfl ?_ ?_;·repeat' constructor)|(refine zq rfl ?_ ?_;·repeat' constructor)|refine zw rfl ?_|refine zx rfl ?_|refine zb rfl ?_)
        refine ps_run (o_app 0 rfl rfl rfl rfl rfl rfl rfl rfl rfl rfl rfl (by repeat' constructor) (by intro row hr; first | (simp at hr; subst hr; rfl) | simp at hr) rfl rfl (by simp; omega) (by simp; omega) ?_)
        repeat (first|refine pq_end rfl ?_|(refine zs rfl ?_ ?_;·repeat' constructor)|(refine zq rfl ?_ ?_;·repeat' constructor)|refine zw rfl ?_|refine zx rfl ?_|refine zb rfl ?_)
        refine ⟨k + 1, hlt, by omega, rfl, rfl, ?_, rfl, rfl, ?_, rfl, ?_, trivial⟩
        · rw [he]; exact als_snoc eBr 5 1 (atN (crowdAt w l) k) ⟨t.name, [], 23⟩
        · exact i64_next (by omega) (by omega)
        · rw [he]; exact cont_snoc eBr 1 42 3 0 (atN (crowdAt w l) k) ⟨t.name, [], 23⟩
      · have hc : ¬ t.crew < most := of_decide_eq_false h
        clear h
        have he : atN (crowdAt w l) (k + 1) = atN (crowdAt w l) k := by rw [atN_succ, hat, if_neg (by omega), List.append_nil]
        repeat (first|refine pq_end rfl ?_|(refine zs rfl ?_ ?_;·repeat' constructor)|(refine zq rfl ?_ ?_;·repeat' constructor)|refine zw rfl ?_|refine zx rfl ?_|refine zb rfl ?_)
        refine ⟨k + 1, hlt, by omega, rfl, rfl, ?_, rfl, rfl, ?_, rfl, ?_, trivial⟩
        · rw [he]; rfl
        · exact i64_next (by omega) (by omega)
        · rw [he]; rfl
    · obtain ⟨e, hei, hee⟩ : ∃ e, rem[i]? = some e ∧ eKV e = [ck, cv] := by
        rw [List.getElem?_map] at hi
        cases hq : rem[i]? with
        | none => rw [hq] at hi; simp at hi
        | some e => rw [hq] at hi; simp at hi; exact ⟨e, rfl, hi⟩
      have h1 : ck = I e.1 := by simp [eKV] at hee; exact hee.1.symm
      have h2 : cv = I e.2 := by simp [eKV] at hee; exact hee.2.symm
      subst h1; subst h2
      have hlen := (List.getElem?_eq_some_iff.1 hei).1
      repeat (first|refine pq_end rfl ?_|(refine zs rfl ?_ ?_;·repeat' constructor)|(refine zq rfl ?_ ?_;·repeat' constructor)|refine zw rfl ?_|refine zx rfl ?_|refine zb rfl ?_)
      refine ps_q (q_entry rfl rfl) ?_
      repeat (first|refine pq_end rfl ?_|(refine zs rfl ?_ ?_;·repeat' constructor)|(refine zq rfl ?_ ?_;·repeat' constructor)|refine zw rfl ?_|refine zx rfl ?_|refine zb rfl ?_)
      refine ⟨(.agg [I e.1, I e.2], rem.eraseIdx i, mostF most e), ?_, ?_, rfl, rfl, rfl, rfl, rfl, rfl, rfl, rfl, rfl, rfl, rfl, rfl, ?_, trivial⟩
      · rw [← hrem]; exact most_erase rem most i e hei
      · show (rem.eraseIdx i).length < rem.length
        rw [List.length_eraseIdx, if_pos hlen]; omega
      · refine Eq.trans (b := ((s.own 23).1 + 1, some (Cont.mk 155 0 [PV.agg [I e.1, I e.2] :: (rem.map (fun e => PV.agg (eKV e))).eraseIdx i] 3))) rfl ?_
        rw [← Go.ChangeMaps.map_eraseIdx]
  · have hge : k = w.trades.length := by have := of_decide_eq_false h; omega
    subst hge
    repeat (first|refine pq_end rfl ?_|(refine zs rfl ?_ ?_;·repeat' constructor)|(refine zq rfl ?_ ?_;·repeat' constructor)|refine zw rfl ?_|refine zx rfl ?_|refine zb rfl ?_)
    exact end1 rfl rfl rfl ⟨rfl, rfl, rfl⟩ rfl
def cols : List FuncId := [88, 89, 90, 91, 92]
def eClo (f : FuncId) : List PV := [.clo f []]
theorem collectors_ret : Ret Try.prog .shared 44 [] (.sl (cols.map eClo)) := by
  refine Ret.of_pwp layOk mixed Go.Proofs.Try.func44 rfl (by decide) rfl rfl ?_
  repeat (first|refine pq_end rfl ?_|(refine zs rfl ?_ ?_;·repeat' constructor)|(refine zq rfl ?_ ?_;·repeat' constructor)|refine zw rfl ?_|refine zx rfl ?_|refine zb rfl ?_)
  (first|refine zsq rfl (q_slit rfl rfl rfl rfl rfl rfl rfl rfl rfl rfl (by repeat' constructor) rfl) ?_|refine zqq rfl (q_slit rfl rfl rfl rfl rfl rfl rfl rfl rfl rfl (by repeat' constructor) rfl) ?_)
  repeat (first|refine pq_end rfl ?_|(refine zs rfl ?_ ?_;·repeat' constructor)|(refine zq rfl ?_ ?_;·repeat' constructor)|refine zw rfl ?_|refine zx rfl ?_|refine zb rfl ?_)
  exact end1 rfl rfl rfl trivial rfl

def partsP (w : SWork) (l : List SPl) : List (List SBr) := [earlyP w l, crowdP w l, clashP w l, haltP w l, lateP w l]
def breachP (w : SWork) (l : List SPl) : List SBr := (partsP w l).flatten
theorem parts_ret (w : SWork) (hw : Sane w) (hv : Well w) (l : List SPl) (hf : Full w l) (k : Nat) (f : FuncId) (p : List SBr) (h1 : cols[k]? = some f) (h2 : (partsP w l)[k]? = some p) : Ret Try.prog .shared f [.agg (eWork w), .sl (l.map ePl)] (.sl (p.map eBr)) := by
  match k, h1, h2 with
  | 0, h1, h2 => simp [cols] at h1; simp [partsP] at h2; subst h1; subst h2; exact early_ret w hw hv l hf
  | 1, h1, h2 => simp [cols] at h1; simp [partsP] at h2; subst h1; subst h2; exact crowded_ret w hv l hf
  | 2, h1, h2 => simp [cols] at h1; simp [partsP] at h2; subst h1; subst h2; exact clashing_ret w hw hv l hf
  | 3, h1, h2 => simp [cols] at h1; simp [partsP] at h2; subst h1; subst h2; exact halted_ret w hw hv l hf
  | 4, h1, h2 => simp [cols] at h1; simp [partsP] at h2; subst h1; subst h2; exact late_ret w hv l hf
  | k + 5, h1, _ => simp [cols] at h1
theorem parts_len (w : SWork) (hw : Sane w) (hv : Well w) (l : List SPl) : ∀ p ∈ partsP w l, p.length ≤ 4000000 := by
  have hn := hv.n40
  have ht := hv.t6
  have h1 := earlyN_len w hw l w.items.length
  have h2 := atN_len (crowdAt_len w l) w.trades.length
  have h3 := atN_len (f := fun i => clashRow w l i (w.items.length - (i + 1))) (c := 40) (fun i => by have := clashRow_len w l i (w.items.length - (i + 1)); omega) w.items.length
  have h4 := atN_len (haltAt_len w l) w.items.length
  have h5 := atN_len (lateAt_len w l) w.items.length
  intro p hp
  simp only [partsP, List.mem_cons, List.not_mem_nil, or_false] at hp
  rcases hp with rfl | rfl | rfl | rfl | rfl
  · rw [earlyP]; omega
  · rw [crowdP]; omega
  · rw [clashP]; omega
  · rw [haltP]; omega
  · rw [lateP]; omega
theorem flatten_len {α : Type} {c : Nat} : ∀ {l : List (List α)}, (∀ p ∈ l, p.length ≤ c) → l.flatten.length ≤ l.length * c
  | [], _ => by simp
  | a :: l, h => by
    have := flatten_len (l := l) fun p hp => h p (by simp [hp])
    have := h a (by simp)
    simp only [List.flatten_cons, List.length_append, List.length_cons, Nat.add_mul, Nat.one_mul]
    omega

theorem nodup_cover {α : Type} [DecidableEq α] : ∀ (A B : List α), A.Nodup → (∀ x ∈ A, x ∈ B) → B.length ≤ A.length → ∀ y ∈ B, y ∈ A
  | [], B, _, _, hl, y, hy => by
    have : B = [] := List.eq_nil_of_length_eq_zero (by simpa using hl)
    rw [this] at hy; exact hy
  | a :: A, B, hn, hs, hl, y, hy => by
    by_cases hya : y = a
    · simp [hya]
    · rw [List.nodup_cons] at hn
      have haB : a ∈ B := hs a (by simp)
      have := nodup_cover A (B.erase a) hn.2 (fun x hx => (List.mem_erase_of_ne (fun e => hn.1 (by rw [← e]; exact hx))).2 (hs x (by simp [hx]))) (by rw [List.length_erase_of_mem haB]; simp at hl; omega) y ((List.mem_erase_of_ne hya).2 hy)
      simp [this]

theorem full_of {w : SWork} {s : List SSlot} (h : slE w s = 0) : Well w ∧ Full w (placed w s) := by
  unfold slE at h
  have hw : workE w = 0 := by
    by_cases hz : workE w = 0
    · exact hz
    · rw [if_neg hz] at h; exact absurd h hz
  rw [if_pos hw] at h
  have hv := well_of hw
  have hlen : s.length = w.items.length := by
    unfold slotsE at h
    exact (ite_zero h (by omega)).1
  have hat := fun k sl => slot_of (k := k) (sl := sl) h
  -- every item has a slot
  have hnod : (s.map (·.item)).Nodup := by
    rw [List.nodup_iff_pairwise_ne, List.pairwise_iff_getElem]
    intro i j hi hj hij he
    simp only [List.getElem_map] at he
    have hi' : i < s.length := by simpa using hi
    have hj' : j < s.length := by simpa using hj
    have := (hat j _ (List.getElem?_eq_getElem hj')).2.1
    rw [List.any_eq_false] at this
    refine this s[i] ?_ (by simp [he])
    rw [List.mem_take_iff_getElem]
    exact ⟨i, by omega, rfl⟩
  have hcov := nodup_cover (s.map (·.item)) (w.items.map (·.name)) hnod (fun n hn => by
    obtain ⟨sl, hsl, rfl⟩ := List.mem_map.1 hn
    obtain ⟨k, hk, rfl⟩ := List.getElem_of_mem hsl
    obtain ⟨x, hx, hxn⟩ := idx_lt (hat k _ (List.getElem?_eq_getElem hk)).1
    exact List.mem_map.2 ⟨x, List.mem_of_getElem? hx, by simpa using hxn⟩) (by simp; omega)
  have hpl : ∀ x ∈ w.items, ∃ (k : Nat) (sl : SSlot), s[k]? = some sl ∧ sl.item = x.name ∧ pl s x.name = ⟨sl.mode, sl.day, true⟩ := by
    intro x hx
    obtain ⟨sl, hsl, hn⟩ := List.mem_map.1 (hcov x.name (List.mem_map.2 ⟨x, hx, rfl⟩))
    cases hf : s.find? (·.item == x.name) with
    | none =>
      rw [List.find?_eq_none] at hf
      exact absurd (by simp [hn]) (hf sl hsl)
    | some a =>
      obtain ⟨k, hk, hka⟩ := List.getElem_of_mem (List.mem_of_find?_eq_some hf)
      exact ⟨k, a, by rw [List.getElem?_eq_getElem hk, hka], by simpa using List.find?_some hf, by rw [pl, hf]⟩
  have main : ∀ (i : Nat) x p, w.items[i]? = some x → (placed w s)[i]? = some p → p.on = true ∧ PlOk x p := by
    intro i x p hx hp
    rw [placed, List.getElem?_map, hx] at hp
    have hp : pl s x.name = p := by simpa using hp
    obtain ⟨k, sl, hk, hn, he⟩ := hpl x (List.mem_of_getElem? hx)
    rw [he] at hp
    subst hp
    obtain ⟨g1, _, g3, g4⟩ := hat k sl hk
    have hmo : modesOf w sl = x.modes.length := by
      have := hv.good.uniq i x hx
      rw [modesOf, hn, this, Int.toNat_natCast, hx]
    rw [hmo] at g3
    exact ⟨rfl, plOk_of hv (List.mem_of_getElem? hx) g3.1 (by show sl.mode < _; omega) g4⟩
  refine ⟨hv, ⟨⟨by simp [placed], fun i x p hx hp _ => (main i x p hx hp).2⟩, fun i p hp => ?_⟩⟩
  have hi : i < w.items.length := by have := (List.getElem?_eq_some_iff.1 hp).1; simpa [placed] using this
  exact (main i _ p (List.getElem?_eq_getElem hi) hp).1

def breachR (w : SWork) (s : List SSlot) : PV := if slE w s = 0 then .tup [.sl ((breachP w (placed w s)).map eBr), I 0] else .tup [.nil, I (slE w s)]
theorem breaches_ret (w : SWork) (hw : Sane w) (s : List SSlot) : Ret Try.prog .shared 13 [.agg (eWork w), .sl (s.map eSlot)] (breachR w s) := by
  have h43 := slotsErr_ret w hw s
  by_cases hz : slE w s = 0
  · obtain ⟨hv, hf⟩ := full_of hz
    rw [slotsR, if_pos hz] at h43
    have hpl := parts_len w hw hv (placed w s)
    have hcl : cols.length = 5 := rfl
    have hpn : (partsP w (placed w s)).length = 5 := rfl
    refine Ret.of_pwp layOk mixed Go.Proofs.Try.func13 rfl (by decide) rfl rfl ?_
    repeat (first|refine pq_end rfl ?_|(refine zs rfl ?_ ?_;·repeat' constructor)|(refine zq rfl ?_ ?_;·repeat' constructor)|refine zw rfl ?_|refine zx rfl ?_|refine zb rfl ?_)
    (first|refine zsq rfl (q_call rfl (h43) rfl (by repeat' constructor) rfl) ?_|refine zqq rfl (q_call rfl (h43) rfl (by repeat' constructor) rfl) ?_)
    repeat (first|refine pq_end rfl ?_|(refine zs rfl ?_ ?_;·repeat' constructor)|(refine zq rfl ?_ ?_;·repeat' constructor)|refine zw rfl ?_|refine zx rfl ?_|refine zb rfl ?_)
    (first|refine zsq rfl (q_call rfl (collectors_ret) rfl (by repeat' constructor) rfl) ?_|refine zqq rfl (q_call rfl (collectors_ret) rfl (by repeat' constructor) rfl) ?_)
    repeat (first|refine pq_end rfl ?_|(refine zs rfl ?_ ?_;·repeat' constructor)|(refine zq rfl ?_ ?_;·repeat' constructor)|refine zw rfl ?_|refine zx rfl ?_|refine zb rfl ?_)
    refine pw_ghost (Ghost.nilreg (k := 8) (t := 8) 42 3 1 rfl rfl) ?_
    refine pw_loop (fun k => k ≤ 5) (fun k => [(2, .ptr 2 1 0 0), (6, .sl ((placed w s).map ePl)), (8, .als 8 (1 + k) 0 (((partsP w (placed w s)).take k).flatten.map eBr).length), (20, .sl (cols.map eClo)), (21, I 5), (22, I k)])
      (fun k => [(2, 1, ⟨28, 9, [eWork w], 2⟩), (8, 1 + k, ⟨42, 3, ((partsP w (placed w s)).take k).flatten.map eBr, 1⟩)]) (fun k => 5 - k) 0 (Nat.zero_le _) ⟨rfl, rfl, rfl, rfl, rfl, rfl, rfl, rfl, trivial⟩ ?_
    intro k st hk
    repeat (first|refine pq_end rfl ?_|(refine zs rfl ?_ ?_;·repeat' constructor)|(refine zq rfl ?_ ?_;·repeat' constructor)|refine zw rfl ?_|refine zx rfl ?_|refine zb rfl ?_)
    refine pw_cond rfl (fun h => ?_) (fun h => ?_)
    · have hlt : k < 5 := by have := of_decide_eq_true h; omega
      clear h
      obtain ⟨f, hfc⟩ := get_lt (show k < cols.length by omega)
      obtain ⟨p, hp⟩ := get_lt (show k < (partsP w (placed w s)).length by omega)
      have hbp := hpl p (List.mem_of_getElem? hp)
      have hbk := flatten_len (l := (partsP w (placed w s)).take k) (c := 4000000) fun q hq => hpl q (List.mem_of_mem_take hq)
      have htl : ((partsP w (placed w s)).take k).length = k := by rw [List.length_take]; omega
      have he : ((partsP w (placed w s)).take (k + 1)).flatten.map eBr = ((partsP w (placed w s)).take k).flatten.map eBr ++ p.map eBr := by rw [take_snoc hp, List.flatten_append, List.map_append]; simp
      rw [htl] at hbk
      repeat (first|refine pq_end rfl ?_|(refine zs rfl ?_ ?_;·repeat' constructor)|(refine zq rfl ?_ ?_;·repeat' constructor)|refine zw rfl ?_|refine zx rfl ?_|refine zb rfl ?_)
      (first|refine zsq rfl (q_idxm rfl rfl rfl rfl rfl (by omega) hfc rfl) ?_|refine zqq rfl (q_idxm rfl rfl rfl rfl rfl (by omega) hfc rfl) ?_)
      repeat (first|refine pq_end rfl ?_|(refine zs rfl ?_ ?_;·repeat' constructor)|(refine zq rfl ?_ ?_;·repeat' constructor)|refine zw rfl ?_|refine zx rfl ?_|refine zb rfl ?_)
      (first|refine zsq rfl (q_call rfl (parts_ret w hw hv (placed w s) hf k f p hfc hp) rfl (by repeat' constructor) rfl) ?_|refine zqq rfl (q_call rfl (parts_ret w hw hv (placed w s) hf k f p hfc hp) rfl (by repeat' constructor) rfl) ?_)
      repeat (first|refine pq_end rfl ?_|(refine zs rfl ?_ ?_;·repeat' constructor)|(refine zq rfl ?_ ?_;·repeat' constructor)|refine zw rfl ?_|refine zx rfl ?_|refine zb rfl ?_)
      refine ps_run (o_app 1 rfl rfl rfl rfl rfl rfl rfl rfl rfl rfl rfl (by repeat' constructor) (by intro row hr; obtain ⟨b, _, rfl⟩ := List.mem_map.1 hr; rfl) rfl rfl (by simp only [List.length_map]; show _ * 40 ≤ _; omega) (by simp only [List.length_map]; omega) ?_)
      repeat (first|refine pq_end rfl ?_|(refine zs rfl ?_ ?_;·repeat' constructor)|(refine zq rfl ?_ ?_;·repeat' constructor)|refine zw rfl ?_|refine zx rfl ?_|refine zb rfl ?_)
      refine ⟨k + 1, hlt, by omega, rfl, rfl, ?_, rfl, rfl, ?_, rfl, ?_, trivial⟩
      · rw [he]; rfl
      · exact i64_next (by omega) (by omega)
      · rw [he]; rfl
    · have hge : k = 5 := by have := of_decide_eq_false h; omega
      subst hge
      repeat (first|refine pq_end rfl ?_|(refine zs rfl ?_ ?_;·repeat' constructor)|(refine zq rfl ?_ ?_;·repeat' constructor)|refine zw rfl ?_|refine zx rfl ?_|refine zb rfl ?_)
      exact end2 rfl rfl rfl rfl rfl ⟨rfl, rfl, rfl⟩ trivial (by rw [breachR, if_pos hz]; rfl)
  · rw [slotsR, if_neg hz] at h43
    refine Ret.of_pwp layOk mixed Go.Proofs.Try.func13 rfl (by decide) rfl rfl ?_
    repeat (first|refine pq_end rfl ?_|(refine zs rfl ?_ ?_;·repeat' constructor)|(refine zq rfl ?_ ?_;·repeat' constructor)|refine zw rfl ?_|refine zx rfl ?_|refine zb rfl ?_)
    (first|refine zsq rfl (q_call rfl (h43) rfl (by repeat' constructor) rfl) ?_|refine zqq rfl (q_call rfl (h43) rfl (by repeat' constructor) rfl) ?_)
    repeat (first|refine pq_end rfl ?_|(refine zs rfl ?_ ?_;·repeat' constructor)|(refine zq rfl ?_ ?_;·repeat' constructor)|refine zw rfl ?_|refine zx rfl ?_|refine zb rfl ?_)
    refine pw_cond rfl (fun h => ?_) (fun h => ?_)
    · repeat (first|refine pq_end rfl ?_|(refine zs rfl ?_ ?_;·repeat' constructor)|(refine zq rfl ?_ ?_;·repeat' constructor)|refine zw rfl ?_|refine zx rfl ?_|refine zb rfl ?_)
      exact end2 rfl rfl rfl rfl rfl trivial trivial (by rw [breachR, if_neg hz])
    · exact absurd (by simpa using h) hz

def firstR : List SBr → Int
  | [] => 0
  | b :: _ => b.r
def planE (w : SWork) (s : List SSlot) : Int := if slE w s = 0 then firstR (breachP w (placed w s)) else slE w s
def planR (w : SWork) (s : List SSlot) : PV := if planE w s = 0 then .tup [.sl ((placed w s).map ePl), I 0] else .tup [.nil, I (planE w s)]
theorem atN_r {f : Nat → List SBr} (h : ∀ i, ∀ b ∈ f i, b.r ≠ 0) (n : Nat) : ∀ b ∈ atN f n, b.r ≠ 0 := fun b hb => by
  obtain ⟨i, _, hi⟩ := List.mem_flatMap.1 hb
  exact h i b hi
theorem breach_r {w : SWork} {l : List SPl} : ∀ b ∈ breachP w l, b.r ≠ 0 := by
  intro b hb
  obtain ⟨p, hp, hbp⟩ := List.mem_flatten.1 hb
  simp only [partsP, List.mem_cons, List.not_mem_nil, or_false] at hp
  rcases hp with rfl | rfl | rfl | rfl | rfl
  · obtain ⟨i, _, hi⟩ := List.mem_flatMap.1 hbp
    obtain ⟨k, _, hk⟩ := List.mem_flatMap.1 hi
    unfold earlyAt at hk
    split at hk
    · simp at hk; subst hk; simp
    · simp at hk
  · refine atN_r (fun i b hb => ?_) _ b hbp
    unfold crowdAt at hb
    split at hb
    · split at hb
      · simp at hb; subst hb; simp
      · simp at hb
    · simp at hb
  · refine atN_r (fun i b hb => ?_) _ b hbp
    obtain ⟨k, _, hk⟩ := List.mem_flatMap.1 hb
    unfold clashAt at hk
    split at hk
    · simp at hk; subst hk; simp
    · simp at hk
  · refine atN_r (fun i b hb => ?_) _ b hbp
    unfold haltAt at hb
    split at hb
    · simp at hb; subst hb; simp
    · simp at hb
  · refine atN_r (fun i b hb => ?_) _ b hbp
    unfold lateAt at hb
    split at hb
    · simp at hb; subst hb; simp
    · simp at hb
theorem planE_zero {w : SWork} {s : List SSlot} (h : planE w s = 0) : slE w s = 0 ∧ breachP w (placed w s) = [] := by
  unfold planE at h
  obtain ⟨h1, h2⟩ : slE w s = 0 ∧ firstR (breachP w (placed w s)) = 0 := by
    by_cases hz : slE w s = 0
    · rw [if_pos hz] at h; exact ⟨hz, h⟩
    · rw [if_neg hz] at h; exact absurd h hz
  refine ⟨h1, ?_⟩
  cases hb : breachP w (placed w s) with
  | nil => rfl
  | cons b l =>
    rw [hb] at h2
    exact absurd h2 (breach_r b (by rw [hb]; simp))

theorem plan_ret (w : SWork) (hw : Sane w) (s : List SSlot) : Ret Try.prog .shared 45 [.agg (eWork w), .sl (s.map eSlot)] (planR w s) := by
  have h43 := slotsErr_ret w hw s
  have h13 := breaches_ret w hw s
  by_cases hz : slE w s = 0
  · rw [breachR, if_pos hz] at h13
    rw [slotsR, if_pos hz] at h43
    cases hb : breachP w (placed w s) with
    | nil =>
      rw [hb] at h13
      have hp : planE w s = 0 := by rw [planE, if_pos hz, hb]; rfl
      refine Ret.of_pwp layOk mixed Go.Proofs.Try.func45 rfl (by decide) rfl rfl ?_
      repeat (first|refine pq_end rfl ?_|(refine zs rfl ?_ ?_;·repeat' constructor)|(refine zq rfl ?_ ?_;·repeat' constructor)|refine zw rfl ?_|refine zx rfl ?_|refine zb rfl ?_)
      (first|refine zsq rfl (q_call rfl (h13) rfl (by repeat' constructor) rfl) ?_|refine zqq rfl (q_call rfl (h13) rfl (by repeat' constructor) rfl) ?_)
      repeat (first|refine pq_end rfl ?_|(refine zs rfl ?_ ?_;·repeat' constructor)|(refine zq rfl ?_ ?_;·repeat' constructor)|refine zw rfl ?_|refine zx rfl ?_|refine zb rfl ?_)
      (first|refine zsq rfl (q_call rfl (h43) rfl (by repeat' constructor) rfl) ?_|refine zqq rfl (q_call rfl (h43) rfl (by repeat' constructor) rfl) ?_)
      repeat (first|refine pq_end rfl ?_|(refine zs rfl ?_ ?_;·repeat' constructor)|(refine zq rfl ?_ ?_;·repeat' constructor)|refine zw rfl ?_|refine zx rfl ?_|refine zb rfl ?_)
      exact end2 rfl rfl rfl rfl rfl trivial trivial (by rw [planR, if_pos hp])
    | cons b l =>
      rw [hb] at h13
      have hp : planE w s = b.r := by rw [planE, if_pos hz, hb]; rfl
      have hne : ¬ planE w s = 0 := by rw [hp]; exact breach_r b (by rw [hb]; simp)
      have h0 : (b :: l)[0]? = some b := rfl
      refine Ret.of_pwp layOk mixed Go.Proofs.Try.func45 rfl (by decide) rfl rfl ?_
      repeat (first|refine pq_end rfl ?_|(refine zs rfl ?_ ?_;·repeat' constructor)|(refine zq rfl ?_ ?_;·repeat' constructor)|refine zw rfl ?_|refine zx rfl ?_|refine zb rfl ?_)
      (first|refine zsq rfl (q_call rfl (h13) rfl (by repeat' constructor) rfl) ?_|refine zqq rfl (q_call rfl (h13) rfl (by repeat' constructor) rfl) ?_)
      repeat (first|refine pq_end rfl ?_|(refine zs rfl ?_ ?_;·repeat' constructor)|(refine zq rfl ?_ ?_;·repeat' constructor)|refine zw rfl ?_|refine zx rfl ?_|refine zb rfl ?_)
      refine pw_cond rfl (fun h => ?_) (fun h => ?_)
      · repeat (first|refine pq_end rfl ?_|(refine zs rfl ?_ ?_;·repeat' constructor)|(refine zq rfl ?_ ?_;·repeat' constructor)|refine zw rfl ?_|refine zx rfl ?_|refine zb rfl ?_)
        refine pw_draw 6 [20, 21, 22, 23, 4, 5] (by decide +kernel) ?_
        repeat (first|refine pq_end rfl ?_|(refine zs rfl ?_ ?_;·repeat' constructor)|(refine zq rfl ?_ ?_;·repeat' constructor)|refine zw rfl ?_|refine zx rfl ?_|refine zb rfl ?_)
        (first|refine zsq rfl (q_idxm (n := (((0:Nat):Int) : Int)) rfl rfl rfl rfl rfl (by omega) h0 rfl) ?_|refine zqq rfl (q_idxm (n := (((0:Nat):Int) : Int)) rfl rfl rfl rfl rfl (by omega) h0 rfl) ?_)
        repeat (first|refine pq_end rfl ?_|(refine zs rfl ?_ ?_;·repeat' constructor)|(refine zq rfl ?_ ?_;·repeat' constructor)|refine zw rfl ?_|refine zx rfl ?_|refine zb rfl ?_)
        exact end2 rfl rfl rfl rfl rfl trivial trivial (by rw [planR, if_neg hne, hp])
      · exact absurd (of_decide_eq_false h) (by simp)
  · rw [breachR, if_neg hz] at h13
    have hp : planE w s = slE w s := by rw [planE, if_neg hz]
    refine Ret.of_pwp layOk mixed Go.Proofs.Try.func45 rfl (by decide) rfl rfl ?_
    repeat (first|refine pq_end rfl ?_|(refine zs rfl ?_ ?_;·repeat' constructor)|(refine zq rfl ?_ ?_;·repeat' constructor)|refine zw rfl ?_|refine zx rfl ?_|refine zb rfl ?_)
    (first|refine zsq rfl (q_call rfl (h13) rfl (by repeat' constructor) rfl) ?_|refine zqq rfl (q_call rfl (h13) rfl (by repeat' constructor) rfl) ?_)
    repeat (first|refine pq_end rfl ?_|(refine zs rfl ?_ ?_;·repeat' constructor)|(refine zq rfl ?_ ?_;·repeat' constructor)|refine zw rfl ?_|refine zx rfl ?_|refine zb rfl ?_)
    refine pw_cond rfl (fun h => ?_) (fun h => ?_)
    · repeat (first|refine pq_end rfl ?_|(refine zs rfl ?_ ?_;·repeat' constructor)|(refine zq rfl ?_ ?_;·repeat' constructor)|refine zw rfl ?_|refine zx rfl ?_|refine zb rfl ?_)
      exact end2 rfl rfl rfl rfl rfl trivial trivial (by rw [planR, hp, if_neg hz])
    · exact absurd (by simpa using h) hz

theorem checkPlan_ret (w : SWork) (hw : Sane w) (s : List SSlot) : Ret Try.prog .shared 14 [.agg (eWork w), .sl (s.map eSlot)] (I (planE w s)) := by
  have h45 := plan_ret w hw s
  by_cases hz : planE w s = 0
  · rw [planR, if_pos hz] at h45
    refine Ret.of_pwp layOk mixed Go.Proofs.Try.func14 rfl (by decide) rfl rfl ?_
    repeat (first|refine pq_end rfl ?_|(refine zs rfl ?_ ?_;·repeat' constructor)|(refine zq rfl ?_ ?_;·repeat' constructor)|refine zw rfl ?_|refine zx rfl ?_|refine zb rfl ?_)
    (first|refine zsq rfl (q_call rfl (h45) rfl (by repeat' constructor) rfl) ?_|refine zqq rfl (q_call rfl (h45) rfl (by repeat' constructor) rfl) ?_)
    repeat (first|refine pq_end rfl ?_|(refine zs rfl ?_ ?_;·repeat' constructor)|(refine zq rfl ?_ ?_;·repeat' constructor)|refine zw rfl ?_|refine zx rfl ?_|refine zb rfl ?_)
    exact end1i rfl rfl (by rw [hz])
  · rw [planR, if_neg hz] at h45
    refine Ret.of_pwp layOk mixed Go.Proofs.Try.func14 rfl (by decide) rfl rfl ?_
    repeat (first|refine pq_end rfl ?_|(refine zs rfl ?_ ?_;·repeat' constructor)|(refine zq rfl ?_ ?_;·repeat' constructor)|refine zw rfl ?_|refine zx rfl ?_|refine zb rfl ?_)
    (first|refine zsq rfl (q_call rfl (h45) rfl (by repeat' constructor) rfl) ?_|refine zqq rfl (q_call rfl (h45) rfl (by repeat' constructor) rfl) ?_)
    repeat (first|refine pq_end rfl ?_|(refine zs rfl ?_ ?_;·repeat' constructor)|(refine zq rfl ?_ ?_;·repeat' constructor)|refine zw rfl ?_|refine zx rfl ?_|refine zb rfl ?_)
    exact end1i rfl rfl rfl

theorem costF_ret (w : SWork) (hw : Sane w) (s : List SSlot) : Ret Try.prog .shared 41 [.agg (eWork w), .sl (s.map eSlot)] (.tup [I (if planE w s = 0 then costP w (placed w s) else 0), I (planE w s)]) := by
  have h45 := plan_ret w hw s
  by_cases hz : planE w s = 0
  · obtain ⟨hv, hf⟩ := full_of (planE_zero hz).1
    rw [planR, if_pos hz] at h45
    refine Ret.of_pwp layOk mixed Go.Proofs.Try.func41 rfl (by decide) rfl rfl ?_
    repeat (first|refine pq_end rfl ?_|(refine zs rfl ?_ ?_;·repeat' constructor)|(refine zq rfl ?_ ?_;·repeat' constructor)|refine zw rfl ?_|refine zx rfl ?_|refine zb rfl ?_)
    (first|refine zsq rfl (q_call rfl (h45) rfl (by repeat' constructor) rfl) ?_|refine zqq rfl (q_call rfl (h45) rfl (by repeat' constructor) rfl) ?_)
    repeat (first|refine pq_end rfl ?_|(refine zs rfl ?_ ?_;·repeat' constructor)|(refine zq rfl ?_ ?_;·repeat' constructor)|refine zw rfl ?_|refine zx rfl ?_|refine zb rfl ?_)
    (first|refine zsq rfl (q_callP rfl (cost_ret w hw hv (placed w s) hf.toPlan) rfl (by repeat' constructor) rfl rfl) ?_|refine zqq rfl (q_callP rfl (cost_ret w hw hv (placed w s) hf.toPlan) rfl (by repeat' constructor) rfl rfl) ?_)
    repeat (first|refine pq_end rfl ?_|(refine zs rfl ?_ ?_;·repeat' constructor)|(refine zq rfl ?_ ?_;·repeat' constructor)|refine zw rfl ?_|refine zx rfl ?_|refine zb rfl ?_)
    exact end2 rfl rfl rfl rfl rfl trivial trivial (by rw [if_pos hz, hz])
  · rw [planR, if_neg hz] at h45
    refine Ret.of_pwp layOk mixed Go.Proofs.Try.func41 rfl (by decide) rfl rfl ?_
    repeat (first|refine pq_end rfl ?_|(refine zs rfl ?_ ?_;·repeat' constructor)|(refine zq rfl ?_ ?_;·repeat' constructor)|refine zw rfl ?_|refine zx rfl ?_|refine zb rfl ?_)
    (first|refine zsq rfl (q_call rfl (h45) rfl (by repeat' constructor) rfl) ?_|refine zqq rfl (q_call rfl (h45) rfl (by repeat' constructor) rfl) ?_)
    repeat (first|refine pq_end rfl ?_|(refine zs rfl ?_ ?_;·repeat' constructor)|(refine zq rfl ?_ ?_;·repeat' constructor)|refine zw rfl ?_|refine zx rfl ?_|refine zb rfl ?_)
    refine pw_cond rfl (fun h => ?_) (fun h => ?_)
    · repeat (first|refine pq_end rfl ?_|(refine zs rfl ?_ ?_;·repeat' constructor)|(refine zq rfl ?_ ?_;·repeat' constructor)|refine zw rfl ?_|refine zx rfl ?_|refine zb rfl ?_)
      exact end2 rfl rfl rfl rfl rfl trivial trivial (by rw [if_neg hz])
    · exact absurd (by simpa using h) hz
theorem days_ret (w : SWork) (hw : Sane w) (s : List SSlot) : Ret Try.prog .shared 32 [.agg (eWork w), .sl (s.map eSlot)] (.tup [I (if planE w s = 0 then durP w (placed w s) else 0), I (planE w s)]) := by
  have h45 := plan_ret w hw s
  have hn := hw.items
  by_cases hz : planE w s = 0
  · obtain ⟨hv, hf⟩ := full_of (planE_zero hz).1
    rw [planR, if_pos hz] at h45
    refine Ret.of_pwp layOk mixed Go.Proofs.Try.func32 rfl (by decide) rfl rfl ?_
    repeat (first|refine pq_end rfl ?_|(refine zs rfl ?_ ?_;·repeat' constructor)|(refine zq rfl ?_ ?_;·repeat' constructor)|refine zw rfl ?_|refine zx rfl ?_|refine zb rfl ?_)
    (first|refine zsq rfl (q_call rfl (h45) rfl (by repeat' constructor) rfl) ?_|refine zqq rfl (q_call rfl (h45) rfl (by repeat' constructor) rfl) ?_)
    repeat (first|refine pq_end rfl ?_|(refine zs rfl ?_ ?_;·repeat' constructor)|(refine zq rfl ?_ ?_;·repeat' constructor)|refine zw rfl ?_|refine zx rfl ?_|refine zb rfl ?_)
    (first|refine zsq rfl (q_callP rfl (duration_ret w (placed w s) hf.toPlan hn) rfl (by repeat' constructor) rfl rfl) ?_|refine zqq rfl (q_callP rfl (duration_ret w (placed w s) hf.toPlan hn) rfl (by repeat' constructor) rfl rfl) ?_)
    repeat (first|refine pq_end rfl ?_|(refine zs rfl ?_ ?_;·repeat' constructor)|(refine zq rfl ?_ ?_;·repeat' constructor)|refine zw rfl ?_|refine zx rfl ?_|refine zb rfl ?_)
    exact end2 rfl rfl rfl rfl rfl trivial trivial (by rw [if_pos hz, hz])
  · rw [planR, if_neg hz] at h45
    refine Ret.of_pwp layOk mixed Go.Proofs.Try.func32 rfl (by decide) rfl rfl ?_
    repeat (first|refine pq_end rfl ?_|(refine zs rfl ?_ ?_;·repeat' constructor)|(refine zq rfl ?_ ?_;·repeat' constructor)|refine zw rfl ?_|refine zx rfl ?_|refine zb rfl ?_)
    (first|refine zsq rfl (q_call rfl (h45) rfl (by repeat' constructor) rfl) ?_|refine zqq rfl (q_call rfl (h45) rfl (by repeat' constructor) rfl) ?_)
    repeat (first|refine pq_end rfl ?_|(refine zs rfl ?_ ?_;·repeat' constructor)|(refine zq rfl ?_ ?_;·repeat' constructor)|refine zw rfl ?_|refine zx rfl ?_|refine zb rfl ?_)
    refine pw_cond rfl (fun h => ?_) (fun h => ?_)
    · repeat (first|refine pq_end rfl ?_|(refine zs rfl ?_ ?_;·repeat' constructor)|(refine zq rfl ?_ ?_;·repeat' constructor)|refine zw rfl ?_|refine zx rfl ?_|refine zb rfl ?_)
      exact end2 rfl rfl rfl rfl rfl trivial trivial (by rw [if_neg hz])
    · exact absurd (by simpa using h) hz
end Go.Pv
