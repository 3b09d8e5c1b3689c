/- Texts of one hand, gathered: LaP, LaQ, LaR, LaS, LaT, LaU, LaV, LeA, LaW. -/
import Derived.Test.YtakfiahnhjnndaaGreatDoorTw4
set_option linter.unusedSectionVars false
set_option linter.unusedSimpArgs false
set_option linter.unusedVariables false
set_option linter.unnecessarySimpa false
/- Signatures that count, and the last amendment. -/
set_option maxHeartbeats 2000000
namespace Go.Pv
attribute [local irreducible] PWP POps PQuiet PSem XThen XBlock RetPost InlPost
open Go.Proofs

/-- Whether the entry with a number is a live one of a kind that refers to an entry. -/
def ofB (l : List SPost) (op n i : Int) : Bool := decide ((entL l i).op = op) && decide ((entL l i).ref = n) && liveB l i
def latF (l : List SPost) (n : Int) : Nat → Int
  | 0 => 0
  | i + 1 => if ofB l 5 n (i + 1) = true then i + 1 else latF l n i
def sigF (l : List SPost) (n : Int) : Nat → List Int
  | 0 => []
  | i + 1 => if ofB l 4 n (i + 1) = true then sigF l n i ++ [(i : Int) + 1] else if ofB l 5 n (i + 1) = true then [] else sigF l n i
/-- Only later entries refer to an entry. -/
theorem ofB_late {l : List SPost} (h : Ok l) {op n i : Int} (ho : op = 4 ∨ op = 5) (h1 : 1 ≤ i) (h2 : i ≤ l.length) (hb : ofB l op n i = true) : n < i := by
  simp only [ofB, Bool.and_eq_true, decide_eq_true_eq] at hb
  have := (h.pos _ _ (entL_at h1 h2)).2.2.1 (by omega)
  omega
theorem latF_early {l : List SPost} (h : Ok l) {n : Int} : ∀ (i : Nat), (i : Int) ≤ n → i ≤ l.length → latF l n i = 0
  | 0, _, _ => rfl
  | i + 1, h1, h2 => by
    have : ¬ ofB l 5 n (i + 1) = true := fun hb => by have := ofB_late h (.inr rfl) (by omega) (by omega) hb; omega
    rw [latF, if_neg this, latF_early h i (by omega) (by omega)]
theorem sigF_early {l : List SPost} (h : Ok l) {n : Int} : ∀ (i : Nat), (i : Int) ≤ n → i ≤ l.length → sigF l n i = []
  | 0, _, _ => rfl
  | i + 1, h1, h2 => by
    have h4 : ¬ ofB l 4 n (i + 1) = true := fun hb => by have := ofB_late h (.inl rfl) (by omega) (by omega) hb; omega
    rw [sigF, if_neg h4, sigF_early h i (by omega) (by omega)]
    split <;> rfl
theorem latF_bounds (l : List SPost) (n : Int) : ∀ (i : Nat), 0 ≤ latF l n i ∧ latF l n i ≤ i
  | 0 => by simp [latF]
  | i + 1 => by
    have := latF_bounds l n i
    rw [latF]
    split <;> omega
/-- Behind the last amendment there is none. -/
theorem latF_last {l : List SPost} {n : Int} : ∀ {i : Nat} {j : Int}, latF l n i < j → j ≤ i → 1 ≤ j → ofB l 5 n j = false
  | 0, j, h1, h2, h3 => by omega
  | i + 1, j, h1, h2, h3 => by
    rw [latF] at h1
    split at h1
    · omega
    · rename_i hb
      by_cases hj : j = i + 1
      · subst hj; simpa using hb
      · exact latF_last h1 (by omega) h3
theorem sigF_lat {l : List SPost} {n : Int} : ∀ {i : Nat}, latF l n i = 0 ∨ sigF l n (latF l n i).toNat = []
  | 0 => .inl rfl
  | i + 1 => by
    rw [latF]
    split
    · rename_i hb
      right
      rw [show ((i : Int) + 1).toNat = i + 1 by omega, sigF, if_pos hb]
      have : ¬ ofB l 4 n (i + 1) = true := fun h4 => by
        simp only [ofB, Bool.and_eq_true, decide_eq_true_eq] at hb h4
        omega
      rw [if_neg this]
    · exact sigF_lat
theorem sigF_from {l : List SPost} (h : Ok l) {n : Int} {b : Nat} (hb : b ≤ l.length) (hn : 0 ≤ n) (hnb : n ≤ b) : sigF l n (max n (latF l n b)).toNat = [] := by
  have hlb := latF_bounds l n b
  by_cases hm : latF l n b ≤ n
  · rw [show max n (latF l n b) = n by omega]
    exact sigF_early h _ (by omega) (by omega)
  · rw [show max n (latF l n b) = latF l n b by omega]
    rcases sigF_lat (l := l) (n := n) (i := b) with h0 | h0
    · omega
    · exact h0
/-- The test of an entry, as the program makes it. -/
theorem sigF_len (l : List SPost) (n : Int) : ∀ i, (sigF l n i).length ≤ i
  | 0 => by simp [sigF]
  | i + 1 => by
    have := sigF_len l n i
    rw [sigF]
    split
    · simp; omega
    · split <;> simp; omega
theorem latest_ret (l : List SPost) (h : Ok l) (n : Int) (b : Nat) (hn : 1 ≤ n) (hnb : n ≤ b) (hb : b ≤ l.length) : Ret Tryz.prog .shared 148 [.dref (eBook l) 0, I n, I (b + 1)] (I (latF l n b)) := by
  have hl := h.wf.len
  have hw : IntKind.wrap .i64 ((b : Int) + 1 - 1) = b := by rw [wrap_i64 (by omega) (by omega)]; omega
  refine Ret.of_pwp layOk mixed Go.Proofs.Tryz.func148 rfl (by decide) rfl rfl ?_
  repeat (refine stp rfl ?_ ?_;·repeat' constructor)
  rw [hw]
  refine pw_loop (fun i : Nat => i ≤ b ∧ n ≤ i ∧ latF l n i = latF l n b) (fun i => [(0, .dref (eBook l) 0), (1, I n), (7, I i)]) (fun _ => []) (fun i => i) b ⟨Nat.le_refl _, hnb, rfl⟩ ⟨rfl, rfl, rfl, trivial⟩ ?_
  intro i s hi
  repeat (refine stp rfl ?_ ?_;·repeat' constructor)
  refine pw_cond rfl (fun h => ?_) (fun h => ?_)
  · have hlt : n < i := of_decide_eq_true h
    clear h
    obtain ⟨j, rfl⟩ : ∃ j, i = j + 1 := ⟨i - 1, by omega⟩
    have he := entry_ret l (j + 1 : Nat) (by omega) (by omega) hl
    have hv := live_ret l ‹Ok l›.wf (j + 1 : Nat) (by omega)
    have hs : latF l n (j + 1) = if ofB l 5 n (j + 1 : Nat) = true then ((j + 1 : Nat) : Int) else latF l n j := rfl
    have hw1 : IntKind.wrap .i64 (((j + 1 : Nat) : Int) - 1) = j := by rw [wrap_i64 (by omega) (by omega)]; omega
    rw [ofB] at hs
    repeat (refine stp rfl ?_ ?_;·repeat' constructor)
    apply qst;exact rfl;exact rfl;exact q_call rfl (he) rfl (by repeat' constructor) rfl
    repeat (refine stp rfl ?_ ?_;·repeat' constructor)
    generalize entL l (j + 1 : Nat) = p at *
    (first | refine ps_split rfl rfl (fun h => ?_) (fun h => ?_) | refine pq_split rfl rfl (fun h => ?_) (fun h => ?_) | refine p3_split rfl rfl (fun h => ?_) (fun h => ?_))
    · have g1 := of_decide_eq_true h
      clear h
      repeat (refine stp rfl ?_ ?_;·repeat' constructor)
      (first | refine ps_split rfl rfl (fun h => ?_) (fun h => ?_) | refine pq_split rfl rfl (fun h => ?_) (fun h => ?_) | refine p3_split rfl rfl (fun h => ?_) (fun h => ?_))
      · have g2 := of_decide_eq_true h
        clear h
        rw [g1, g2, decide_eq_true rfl, decide_eq_true rfl, Bool.true_and, Bool.true_and] at hs
        generalize liveB l (j + 1 : Nat) = lv at *
        repeat (refine stp rfl ?_ ?_;·repeat' constructor)
        apply qst;exact rfl;exact rfl;exact q_callP rfl (hv) rfl (by repeat' constructor) rfl rfl
        repeat (refine stp rfl ?_ ?_;·repeat' constructor)
        cases lv with
        | true =>
          repeat (refine stp rfl ?_ ?_;·repeat' constructor)
          exact end1i rfl rfl (by rw [← hi.2.2, hs]; rfl)
        | false =>
          repeat (refine stp rfl ?_ ?_;·repeat' constructor)
          refine ⟨j, ⟨by omega, by omega, by rw [← hi.2.2, hs]; rfl⟩, by omega, rfl, rfl, ?_, trivial⟩
          exact congrArg I hw1
      · have g2 := of_decide_eq_false h
        rw [decide_eq_false g2, Bool.and_false, Bool.false_and] at hs
        repeat (refine stp rfl ?_ ?_;·repeat' constructor)
        refine ⟨j, ⟨by omega, by omega, by rw [← hi.2.2, hs]; rfl⟩, by omega, rfl, rfl, ?_, trivial⟩
        exact congrArg I hw1
    · have g1 := of_decide_eq_false h
      rw [decide_eq_false g1, Bool.false_and, Bool.false_and] at hs
      repeat (refine stp rfl ?_ ?_;·repeat' constructor)
      refine ⟨j, ⟨by omega, by omega, by rw [← hi.2.2, hs]; rfl⟩, by omega, rfl, rfl, ?_, trivial⟩
      exact congrArg I hw1
  · have hz : ¬ n < i := of_decide_eq_false h
    have : latF l n i = 0 := latF_early ‹Ok l› i (by omega) (by omega)
    repeat (refine stp rfl ?_ ?_;·repeat' constructor)
    exact end1i rfl rfl (by rw [← hi.2.2, this])
end Go.Pv

/- Signatures: the program and the reference. -/
set_option maxHeartbeats 2000000
namespace Go.Pv
attribute [local irreducible] PWP POps PQuiet PSem XThen XBlock RetPost InlPost
open Go.Proofs

set_option maxRecDepth 20000 in
theorem signatures_ret (l : List SPost) (hO : Ok l) (n : Int) (b : Nat) (hn : 1 ≤ n) (hnb : n ≤ b) (hb : b ≤ l.length) : Ret Tryz.prog .fresh 110 [.dref (eBook l) 0, I n, I (b + 1)] (.sl ((sigF l n b).map eI)) := by
  have hl := hO.wf.len
  have hlt := latest_ret l hO n b hn hnb hb
  have hlb := latF_bounds l n b
  have h0 := sigF_from hO hb (by omega) hnb
  have hlast := fun (j : Int) => latF_last (l := l) (n := n) (i := b) (j := j)
  obtain ⟨m, hm⟩ : ∃ m : Nat, (m : Int) = max n (latF l n b) := ⟨(max n (latF l n b)).toNat, by omega⟩
  rw [← hm, Int.toNat_natCast] at h0
  have hmx : (if n < latF l n b then latF l n b else n) = m := by rw [hm]; split <;> omega
  have hmb : m ≤ b := by omega
  have hml : latF l n b ≤ m := by omega
  have hw : IntKind.wrap .i64 ((m : Int) + 1) = m + 1 := wrap_i64 (by omega) (by omega)
  generalize latF l n b = lt at *
  refine Ret.of_pwp layOk mixed Go.Proofs.Tryz.func110 rfl (by decide) rfl rfl ?_
  ((repeat (first | refine ps_nil ?_ | refine pq_nil ?_ | refine x_norm ?_ | refine pw_seq ?_)); refine pw_region ?_)
  refine ps_v rfl trivial ?_
  ((repeat (first | refine ps_nil ?_ | refine pq_nil ?_ | refine x_norm ?_ | refine pw_seq ?_)); refine pw_region ?_)
  refine ps_v rfl trivial ?_
  refine ps_nil ?_
  refine x_norm ?_
  refine pw_ghost (Ghost.nilreg (k := 7) (t := 7) 3 1 0 rfl rfl) ?_
  repeat (refine stp rfl ?_ ?_;·repeat' constructor)
  apply qst;exact rfl;exact rfl;exact q_callP rfl (hlt) rfl (by repeat' constructor) rfl rfl
  repeat (refine stp rfl ?_ ?_;·repeat' constructor)
  rw [hmx, hw]
  refine pw_loop (fun j : Nat => m ≤ j ∧ j ≤ b) (fun j => [(0, .dref (eBook l) 0), (1, I n), (2, I (b + 1)), (7, .als 7 (1 + (sigF l n j).length) 0 ((sigF l n j).map eI).length), (8, I (j + 1))]) (fun j => [(7, 1 + (sigF l n j).length, ⟨3, 1, (sigF l n j).map eI, 0⟩)]) (fun j => b - j) m ⟨Nat.le_refl _, hmb⟩ ?_ ?_
  · rw [h0]; exact ⟨rfl, rfl, rfl, rfl, rfl, rfl, trivial⟩
  intro j s hj
  repeat (refine stp rfl ?_ ?_;·repeat' constructor)
  refine pw_cond rfl (fun h => ?_) (fun h => ?_)
  · have hjb : j < b := by have := of_decide_eq_true h; omega
    clear h
    have he := entry_ret l ((j : Int) + 1) (by omega) (by omega) hl
    have hv := live_ret l hO.wf ((j : Int) + 1) (by omega)
    have hno : ofB l 5 n ((j : Int) + 1) = false := hlast _ (by omega) (by omega) (by omega)
    have hs : sigF l n (j + 1) = if ofB l 4 n ((j : Int) + 1) = true then sigF l n j ++ [(j : Int) + 1] else sigF l n j := by
      rw [sigF, hno]; simp
    have hsl := sigF_len l n j
    rw [ofB] at hs
    repeat (refine stp rfl ?_ ?_;·repeat' constructor)
    apply qst;exact rfl;exact rfl;exact q_call rfl (he) rfl (by repeat' constructor) rfl
    repeat (refine stp rfl ?_ ?_;·repeat' constructor)
    generalize entL l ((j : Int) + 1) = p at *
    (first | refine ps_split rfl rfl (fun h => ?_) (fun h => ?_) | refine pq_split rfl rfl (fun h => ?_) (fun h => ?_) | refine p3_split rfl rfl (fun h => ?_) (fun h => ?_))
    · have g1 := of_decide_eq_true h
      clear h
      repeat (refine stp rfl ?_ ?_;·repeat' constructor)
      (first | refine ps_split rfl rfl (fun h => ?_) (fun h => ?_) | refine pq_split rfl rfl (fun h => ?_) (fun h => ?_) | refine p3_split rfl rfl (fun h => ?_) (fun h => ?_))
      · have g2 := of_decide_eq_true h
        clear h
        rw [g1, g2, decide_eq_true rfl, decide_eq_true rfl, Bool.true_and, Bool.true_and] at hs
        generalize liveB l ((j : Int) + 1) = lv at *
        repeat (refine stp rfl ?_ ?_;·repeat' constructor)
        apply qst;exact rfl;exact rfl;exact q_callP rfl (hv) rfl (by repeat' constructor) rfl rfl
        repeat (refine stp rfl ?_ ?_;·repeat' constructor)
        cases lv with
        | true =>
          rw [if_pos rfl] at hs
          repeat (refine stp rfl ?_ ?_;·repeat' constructor)
          apply qst;exact rfl;exact rfl;exact q_slit rfl rfl rfl rfl rfl rfl rfl rfl rfl rfl (by repeat' constructor) rfl
          repeat (refine stp rfl ?_ ?_;·repeat' constructor)
          refine ps_run (o_app 0 rfl rfl rfl rfl rfl rfl rfl rfl rfl rfl rfl (by repeat' constructor) (by intro row hr; first | (simp at hr; subst hr; rfl) | simp at hr) rfl rfl (by simp; omega) (by simp; omega) ?_)
          repeat (refine stp rfl ?_ ?_;·repeat' constructor)
          refine ⟨j + 1, ⟨by omega, by omega⟩, by omega, rfl, rfl, rfl, ?_, i64_next (by omega) (by omega), ?_, trivial⟩
          · rw [hs]; exact als_snoc eI 7 1 _ _
          · rw [hs]; exact cont_snoc eI 1 3 1 0 _ _
        | false =>
          rw [if_neg (by simp)] at hs
          repeat (refine stp rfl ?_ ?_;·repeat' constructor)
          exact ⟨j + 1, ⟨by omega, by omega⟩, by omega, rfl, rfl, rfl, by rw [hs]; rfl, i64_next (by omega) (by omega), by rw [hs]; rfl, trivial⟩
      · have g2 := of_decide_eq_false h
        rw [decide_eq_false g2, Bool.and_false, Bool.false_and, if_neg (by simp)] at hs
        repeat (refine stp rfl ?_ ?_;·repeat' constructor)
        exact ⟨j + 1, ⟨by omega, by omega⟩, by omega, rfl, rfl, rfl, by rw [hs]; rfl, i64_next (by omega) (by omega), by rw [hs]; rfl, trivial⟩
    · have g1 := of_decide_eq_false h
      rw [decide_eq_false g1, Bool.false_and, Bool.false_and, if_neg (by simp)] at hs
      repeat (refine stp rfl ?_ ?_;·repeat' constructor)
      exact ⟨j + 1, ⟨by omega, by omega⟩, by omega, rfl, rfl, rfl, by rw [hs]; rfl, i64_next (by omega) (by omega), by rw [hs]; rfl, trivial⟩
  · have hz : j = b := by have := of_decide_eq_false h; omega
    subst hz
    repeat (refine stp rfl ?_ ?_;·repeat' constructor)
    exact end1f rfl rfl rfl ⟨rfl, rfl, rfl⟩ rfl
end Go.Pv

/- Whether an entry is signed in a role; the reference's signatures. -/
set_option maxHeartbeats 2000000
namespace Go.Pv
attribute [local irreducible] PWP POps PQuiet PSem XThen XBlock RetPost InlPost
open Go.Proofs

theorem roleIs_ret (l : List SPost) (hl : l.length ≤ 400) (role i : Int) (h1 : 1 ≤ i) (h2 : i ≤ l.length) : Ret Tryz.prog .shared 174 [I i, .dref [.dref (eBook l) 0] 0, .dref [I role] 0] (.bool (decide ((entL l i).role = role))) := by
  have he := entry_ret l i h1 h2 hl
  refine Ret.of_pwp layOk mixed Go.Proofs.Tryz.func174 rfl (by decide) rfl rfl ?_
  repeat (refine stp rfl ?_ ?_;·repeat' constructor)
  refine pw_draw 7 [5, 6, 7, 8, 9, 10, 4] (by decide +kernel) ?_
  repeat (refine stp rfl ?_ ?_;·repeat' constructor)
  apply qst;exact rfl;exact rfl;exact q_call rfl (he) rfl (by repeat' constructor) rfl
  repeat (refine stp rfl ?_ ?_;·repeat' constructor)
  exact end1b rfl rfl rfl
theorem indexFunc_ret (l : List SPost) (hl : l.length ≤ 400) (role : Int) (L : List Int) (hL : L.length ≤ 1000000) (hin : ∀ x, x ∈ L → 1 ≤ x ∧ x ≤ l.length) :
    Ret Tryz.prog .shared 213 [.sl (L.map eI), .clo 174 [.dref [.dref (eBook l) 0] 0, .dref [I role] 0]] (I (idx L fun i => decide ((entL l i).role = role))) := by
  have hll : ((L.map eI).length : Int) = L.length := by simp
  refine Ret.of_pwp layOk mixed Go.Proofs.Tryz.func213 rfl (by decide) rfl rfl ?_
  repeat (refine stp rfl ?_ ?_;·repeat' constructor)
  refine pw_loop (Clear L fun i => decide ((entL l i).role = role)) (fun k => [(0, .sl (L.map eI)), (1, .clo 174 [.dref [.dref (eBook l) 0] 0, .dref [I role] 0]), (7, I (L.map eI).length), (8, I k)]) (fun _ => []) (fun k => L.length - k) 0 .zero ⟨rfl, rfl, rfl, rfl, trivial⟩ ?_
  intro k s hk
  repeat (refine stp rfl ?_ ?_;·repeat' constructor)
  refine pw_cond rfl (fun h => ?_) (fun h => ?_)
  · have hlt : k < L.length := by have := of_decide_eq_true h; omega
    clear h
    obtain ⟨x, hx⟩ := get_lt hlt
    have hb := hin x (List.mem_of_getElem? hx)
    have hc := roleIs_ret l hl role x hb.1 hb.2
    generalize hbb : decide ((entL l x).role = role) = b at hc
    repeat (refine stp rfl ?_ ?_;·repeat' constructor)
    apply qst;exact rfl;exact rfl;exact q_idxm rfl rfl rfl rfl rfl (by omega) hx rfl
    repeat (refine stp rfl ?_ ?_;·repeat' constructor)
    apply qst;exact rfl;exact rfl;exact q_callP rfl (hc) rfl (by repeat' constructor) rfl rfl
    cases b with
    | true =>
      repeat (refine stp rfl ?_ ?_;·repeat' constructor)
      exact end1i rfl rfl (by rw [hk.found hx hbb])
    | false =>
      repeat (refine stp rfl ?_ ?_;·repeat' constructor)
      refine ⟨k + 1, hk.succ hx hbb, by omega, rfl, rfl, rfl, ?_, trivial⟩
      exact i64_next (by omega) (by omega)
  · have hf : ¬ k < L.length := by have := of_decide_eq_false h; omega
    repeat (refine stp rfl ?_ ?_;·repeat' constructor)
    exact end1i rfl rfl (by rw [hk.none hf])
theorem containsFunc_ret (l : List SPost) (hl : l.length ≤ 400) (role : Int) (L : List Int) (hL : L.length ≤ 1000000) (hin : ∀ x, x ∈ L → 1 ≤ x ∧ x ≤ l.length) :
    Ret Tryz.prog .shared 173 [.sl (L.map eI), .clo 174 [.dref [.dref (eBook l) 0] 0, .dref [I role] 0]] (.bool (L.any fun i => decide ((entL l i).role = role))) := by
  have h1 := indexFunc_ret l hl role L hL hin
  refine Ret.of_pwp layOk mixed Go.Proofs.Tryz.func173 rfl (by decide) rfl rfl ?_
  repeat (refine stp rfl ?_ ?_;·repeat' constructor)
  apply qst;exact rfl;exact rfl;exact q_callP rfl (h1) rfl (by repeat' constructor) rfl rfl
  repeat (refine stp rfl ?_ ?_;·repeat' constructor)
  exact end1b rfl rfl (by rw [idx_nonneg])
theorem sigF_mem {l : List SPost} {n : Int} : ∀ {b : Nat} {x : Int}, x ∈ sigF l n b → 1 ≤ x ∧ x ≤ b
  | 0, x, h => by simp [sigF] at h
  | b + 1, x, h => by
    rw [sigF] at h
    split at h
    · rcases List.mem_append.1 h with h | h
      · have := sigF_mem h; omega
      · simp at h; omega
    · split at h
      · simp at h
      · have := sigF_mem h; omega
def sgdB (l : List SPost) (n : Int) (b : Nat) (role : Int) : Bool := (sigF l n b).any fun i => decide ((entL l i).role = role)
theorem signed_ret (l : List SPost) (hO : Ok l) (n : Int) (b : Nat) (role : Int) (hn : 1 ≤ n) (hnb : n ≤ b) (hb : b ≤ l.length) : Ret Tryz.prog .shared 146 [.dref (eBook l) 0, I n, I (b + 1), I role] (.bool (sgdB l n b role)) := by
  have hs := signatures_ret l hO n b hn hnb hb
  have hl := hO.wf.len
  have hsl := sigF_len l n b
  have hc := containsFunc_ret l hl role (sigF l n b) (by omega) (fun x hx => by have := sigF_mem hx; omega)
  rw [sgdB]
  generalize sigF l n b = L at *
  refine Ret.of_pwp layOk mixed Go.Proofs.Tryz.func146 rfl (by decide) rfl rfl ?_
  ((repeat (first | refine ps_nil ?_ | refine pq_nil ?_ | refine x_norm ?_ | refine pw_seq ?_)); refine pw_region ?_)
  refine ps_run (o_box rfl rfl rfl (by repeat' constructor) rfl ?_)
  refine ps_run (o_box rfl rfl rfl (by repeat' constructor) rfl ?_)
  repeat (refine stp rfl ?_ ?_;·repeat' constructor)
  apply qst;exact rfl;exact rfl;exact q_callF rfl (hs) rfl (by repeat' constructor) rfl
  repeat (refine stp rfl ?_ ?_;·repeat' constructor)
  apply qst;exact rfl;exact rfl;exact q_callP rfl (hc) rfl (by repeat' constructor) rfl rfl
  repeat (refine stp rfl ?_ ?_;·repeat' constructor)
  exact end1b rfl rfl rfl
/-! ### The reference -/
set_option maxRecDepth 20000 in
theorem signs_ref (l : List SPost) (hO : Ok l) (n : Int) (b : Nat) (hb : b ≤ l.length) : Ret Tryz.prog .fresh 141 [.sl (l.map ePost), I n, I (b + 1)] (.sl ((sigF l n b).map eI)) := by
  have hl := hO.wf.len
  refine Ret.of_pwp layOk mixed Go.Proofs.Tryz.func141 rfl (by decide) rfl rfl ?_
  ((repeat (first | refine ps_nil ?_ | refine pq_nil ?_ | refine x_norm ?_ | refine pw_seq ?_)); refine pw_region ?_)
  refine ps_v rfl trivial ?_
  ((repeat (first | refine ps_nil ?_ | refine pq_nil ?_ | refine x_norm ?_ | refine pw_seq ?_)); refine pw_region ?_)
  refine ps_v rfl trivial ?_
  refine ps_nil ?_
  refine x_norm ?_
  refine pw_ghost (Ghost.nilreg (k := 7) (t := 7) 3 1 0 rfl rfl) ?_
  repeat (refine stp rfl ?_ ?_;·repeat' constructor)
  refine pw_loop (fun (j : Nat × Nat) => j.1 ≤ b) (fun j => [(0, .sl (l.map ePost)), (1, I n), (2, I (b + 1)), (7, .als 7 j.2 0 ((sigF l n j.1).map eI).length), (8, I (j.1 + 1))]) (fun j => [(7, j.2, ⟨3, 1, (sigF l n j.1).map eI, 0⟩)]) (fun j => b - j.1) (0, 1) (Nat.zero_le _) ⟨rfl, rfl, rfl, rfl, rfl, rfl, trivial⟩ ?_
  rintro ⟨j, g⟩ s hj
  have hj : j ≤ b := hj
  repeat (refine stp rfl ?_ ?_;·repeat' constructor)
  refine pw_cond rfl (fun h => ?_) (fun h => ?_)
  · have hjb : j < b := by have := of_decide_eq_true h; omega
    clear h
    have he := entL_at (l := l) (n := (j : Int) + 1) (by omega) (by omega)
    have hv := live_ref l hO.wf ((j : Int) + 1).toNat ((j : Int) + 1) (by omega) (by omega) (by omega)
    have hs : sigF l n (j + 1) = if ofB l 4 n ((j : Int) + 1) = true then sigF l n j ++ [(j : Int) + 1] else if ofB l 5 n ((j : Int) + 1) = true then [] else sigF l n j := rfl
    have hsl := sigF_len l n j
    have hw : IntKind.wrap .i64 ((j : Int) + 1 - 1) = (j : Int) + 1 - 1 := wrap_i64 (by omega) (by omega)
    rw [ofB, ofB] at hs
    repeat (refine stp rfl ?_ ?_;·repeat' constructor)
    rw [hw]
    apply qst;exact rfl;exact rfl;exact q_idxm rfl rfl rfl rfl rfl (by omega) he rfl
    generalize entL l ((j : Int) + 1) = p at *
    repeat (refine stp rfl ?_ ?_;·repeat' constructor)
    (first | refine ps_split rfl rfl (fun h => ?_) (fun h => ?_) | refine pq_split rfl rfl (fun h => ?_) (fun h => ?_) | refine p3_split rfl rfl (fun h => ?_) (fun h => ?_))
    · have g1 : ¬ p.ref = n := by simpa using h
      rw [decide_eq_false g1, Bool.and_false, Bool.and_false, Bool.false_and, if_neg (by simp), if_neg (by simp)] at hs
      repeat (refine stp rfl ?_ ?_;·repeat' constructor)
      exact ⟨(j + 1, g), hjb, by show b - (j + 1) < b - j; omega, rfl, rfl, rfl, by rw [hs]; rfl, i64_next (by omega) (by omega), by rw [hs]; rfl, trivial⟩
    have g1 : p.ref = n := by simpa using h
    clear h
    rw [decide_eq_true g1, Bool.and_true, Bool.and_true] at hs
    generalize liveB l ((j : Int) + 1) = lv at *
    repeat (refine stp rfl ?_ ?_;·repeat' constructor)
    apply qst;exact rfl;exact rfl;exact q_callP rfl (hv) rfl (by repeat' constructor) rfl rfl
    cases lv with
    | false =>
      rw [Bool.and_false, Bool.and_false, if_neg (by simp), if_neg (by simp)] at hs
      repeat (refine stp rfl ?_ ?_;·repeat' constructor)
      exact ⟨(j + 1, g), hjb, by show b - (j + 1) < b - j; omega, rfl, rfl, rfl, by rw [hs]; rfl, i64_next (by omega) (by omega), by rw [hs]; rfl, trivial⟩
    | true =>
    rw [Bool.and_true, Bool.and_true] at hs
    repeat (refine stp rfl ?_ ?_;·repeat' constructor)
    rw [hw]
    apply qst;exact rfl;exact rfl;exact q_idxm rfl rfl rfl rfl rfl (by omega) he rfl
    repeat (refine stp rfl ?_ ?_;·repeat' constructor)
    refine pw_cond rfl (fun h => ?_) (fun h => ?_)
    · have g2 := of_decide_eq_true h
      rw [decide_eq_true g2, if_pos rfl] at hs
      repeat (refine stp rfl ?_ ?_;·repeat' constructor)
      apply qst;exact rfl;exact rfl;exact q_slit rfl rfl rfl rfl rfl rfl rfl rfl rfl rfl (by repeat' constructor) rfl
      repeat (refine stp rfl ?_ ?_;·repeat' constructor)
      refine ps_run (o_app 0 rfl rfl rfl rfl rfl rfl rfl rfl rfl rfl rfl (by repeat' constructor) (by intro row hr; first | (simp at hr; subst hr; rfl) | simp at hr) rfl rfl (by simp; omega) (by simp; omega) ?_)
      repeat (refine stp rfl ?_ ?_;·repeat' constructor)
      refine ⟨(j + 1, g + 1), hjb, by show b - (j + 1) < b - j; omega, rfl, rfl, rfl, ?_, i64_next (by omega) (by omega), ?_, trivial⟩
      · show _ = PV.als 7 (g + 1) 0 ((sigF l n (j + 1)).map eI).length
        rw [hs, List.map_append]; rfl
      · show _ = (g + 1, some (Cont.mk 3 1 ((sigF l n (j + 1)).map eI) 0))
        rw [hs, List.map_append]; rfl
    · have g2 := of_decide_eq_false h
      rw [decide_eq_false g2, if_neg (by simp)] at hs
      clear h
      repeat (refine stp rfl ?_ ?_;·repeat' constructor)
      refine pw_cond rfl (fun h => ?_) (fun h => ?_)
      · have g3 := of_decide_eq_true h
        rw [decide_eq_true g3, if_pos rfl] at hs
        refine pw_region ?_
        (first | refine ps_run (o_nilm 3 1 0 rfl rfl ?_) | refine ps_run (o_nila 3 1 0 rfl rfl ?_))
        repeat (refine stp rfl ?_ ?_;·repeat' constructor)
        exact ⟨(j + 1, g + 1), hjb, by show b - (j + 1) < b - j; omega, rfl, rfl, rfl, by rw [hs]; rfl, i64_next (by omega) (by omega), by rw [hs]; rfl, trivial⟩
      · have g3 := of_decide_eq_false h
        rw [decide_eq_false g3, if_neg (by simp)] at hs
        repeat (refine stp rfl ?_ ?_;·repeat' constructor)
        exact ⟨(j + 1, g), hjb, by show b - (j + 1) < b - j; omega, rfl, rfl, rfl, by rw [hs]; rfl, i64_next (by omega) (by omega), by rw [hs]; rfl, trivial⟩
  · have hz : j = b := by have := of_decide_eq_false h; omega
    subst hz
    repeat (refine stp rfl ?_ ?_;·repeat' constructor)
    exact end1f rfl rfl rfl ⟨rfl, rfl, rfl⟩ rfl
theorem signed_ref (l : List SPost) (hO : Ok l) (n : Int) (b : Nat) (role : Int) (hb : b ≤ l.length) : Ret Tryz.prog .shared 172 [.sl (l.map ePost), I n, I (b + 1), I role] (.bool (sgdB l n b role)) := by
  have hs := signs_ref l hO n b hb
  have hl := hO.wf.len
  have hsl := sigF_len l n b
  have hin : ∀ x, x ∈ sigF l n b → 1 ≤ x ∧ x ≤ l.length := fun x hx => by have := sigF_mem hx; omega
  rw [sgdB]
  generalize sigF l n b = L at *
  have hll : ((L.map eI).length : Int) = L.length := by simp
  refine Ret.of_pwp layOk mixed Go.Proofs.Tryz.func172 rfl (by decide) rfl rfl ?_
  repeat (refine stp rfl ?_ ?_;·repeat' constructor)
  apply qst;exact rfl;exact rfl;exact q_callF rfl (hs) rfl (by repeat' constructor) rfl
  repeat (refine stp rfl ?_ ?_;·repeat' constructor)
  refine pw_loop (Clear L fun i => decide ((entL l i).role = role)) (fun k => [(0, .sl (l.map ePost)), (3, I role), (9, .fsl (L.map eI)), (10, I k)]) (fun _ => []) (fun k => L.length - k) 0 .zero ⟨rfl, rfl, rfl, rfl, trivial⟩ ?_
  intro k s hk
  have hkl := hk.1
  repeat (refine stp rfl ?_ ?_;·repeat' constructor)
  refine pw_cond rfl (fun h => ?_) (fun h => ?_)
  · have hlt : k < L.length := by have := of_decide_eq_true h; omega
    clear h
    obtain ⟨x, hx⟩ := get_lt hlt
    have hb := hin x (List.mem_of_getElem? hx)
    have he := entL_at hb.1 hb.2
    have hw : IntKind.wrap .i64 (x - 1) = x - 1 := wrap_i64 (by omega) (by omega)
    repeat (refine stp rfl ?_ ?_;·repeat' constructor)
    apply qst;exact rfl;exact rfl;exact q_idxmF rfl rfl rfl rfl rfl (by omega) hx rfl
    repeat (refine stp rfl ?_ ?_;·repeat' constructor)
    rw [hw]
    apply qst;exact rfl;exact rfl;exact q_idxm rfl rfl rfl rfl rfl (by omega) he rfl
    repeat (refine stp rfl ?_ ?_;·repeat' constructor)
    refine pw_cond rfl (fun h => ?_) (fun h => ?_)
    · repeat (refine stp rfl ?_ ?_;·repeat' constructor)
      exact end1b rfl rfl (by rw [any_of hx h])
    · repeat (refine stp rfl ?_ ?_;·repeat' constructor)
      refine ⟨k + 1, hk.succ hx h, by omega, rfl, rfl, rfl, ?_, trivial⟩
      exact i64_next (by omega) (by omega)
  · have hf : ¬ k < L.length := by have := of_decide_eq_false h; omega
    repeat (refine stp rfl ?_ ?_;·repeat' constructor)
    exact end1b rfl rfl (by rw [hk.any hf])
end Go.Pv

/- Which invoice covers a charge: the program. -/
set_option maxHeartbeats 2000000
namespace Go.Pv
attribute [local irreducible] PWP POps PQuiet PSem XThen XBlock RetPost InlPost
open Go.Proofs

def aget : List (Int × Int) → Int → Int
  | [], _ => 0
  | (d, c) :: m, k => if d = k then c else aget m k
def aput (k v : Int) : List (Int × Int) → List (Int × Int)
  | [] => [(k, v)]
  | (d, c) :: m => if d = k then (d, v) :: m else (d, c) :: aput k v m
def eKV (e : Int × Int) : List PV := [I e.1, I e.2]

theorem mput_cons (key v : PV) (row : List PV) (rows : List (List PV)) : mput key v (row :: rows) = bif mhd key row then row.set 1 v :: rows else row :: mput key v rows := by
  unfold mput
  cases h : mhd key row with
  | true => simp [mix, h]
  | false =>
    simp only [mix, h, cond_false]
    cases hm : mix key rows with
    | none => simp
    | some i =>
      have hi := mix_lt hm
      simp [List.getElem?_eq_getElem hi]
theorem mval_kv (d : Int) : ∀ m : List (Int × Int), mval (I 0) (I d) (m.map eKV) = I (aget m d)
  | [] => rfl
  | (e, c) :: m => by
    rw [List.map_cons, mval_cons, mval_kv d m]
    have : mhd (I d) (eKV (e, c)) = decide (e = d) := rfl
    rw [this, aget]
    by_cases h : e = d
    · rw [if_pos h, decide_eq_true h]; rfl
    · rw [if_neg h, decide_eq_false h]; rfl
theorem mput_kv (d v : Int) : ∀ m : List (Int × Int), mput (I d) (I v) (m.map eKV) = (aput d v m).map eKV
  | [] => rfl
  | (e, c) :: m => by
    rw [List.map_cons, mput_cons, mput_kv d v m]
    have : mhd (I d) (eKV (e, c)) = decide (e = d) := rfl
    rw [this, aput]
    by_cases h : e = d
    · rw [if_pos h, decide_eq_true h]; rfl
    · rw [if_neg h, decide_eq_false h]; rfl
theorem keyed_kv (m : List (Int × Int)) : keyed (.int .i64) (m.map eKV) = true := by
  induction m with
  | nil => rfl
  | cons e m ih => rw [List.map_cons]; exact ih
theorem keyedG_kv (m : List (Int × Int)) : keyedG (.int .i64) none (m.map eKV) = true := by
  induction m with
  | nil => rfl
  | cons e m ih => rw [List.map_cons]; exact ih
theorem aget_aput (k v : Int) (d : Int) : ∀ m : List (Int × Int), aget (aput k v m) d = if k = d then v else aget m d
  | [] => rfl
  | (e, c) :: m => by
    have ih := aget_aput k v d m
    simp only [aput, aget]
    by_cases h : e = k
    · subst h
      rw [if_pos rfl, aget]
      by_cases h2 : e = d
      · rw [if_pos h2, if_pos h2]
      · rw [if_neg h2, if_neg h2, if_neg h2]
    · rw [if_neg h, aget, ih]
      by_cases h2 : e = d
      · rw [if_pos h2, if_neg (by omega), if_pos h2]
      · rw [if_neg h2, if_neg h2]
def tstB (l : List SPost) (o : Str) (i : Nat) (n : Int) (M : List (Int × Int)) : Bool := decide ((entL l n).op = 3) && decide ((entL l n).order = o) && decide (aget M n = 0) && liveB l n && sgdB l n i 0
def covIn (l : List SPost) (o : Str) (i : Nat) (M : List (Int × Int)) : Nat → List (Int × Int)
  | 0 => M
  | n + 1 => if tstB l o i ((n : Int) + 1) (covIn l o i M n) = true then aput ((n : Int) + 1) (i + 1) (covIn l o i M n) else covIn l o i M n
def ivcB (l : List SPost) (o : Str) (k : Nat) : Bool := decide ((entL l ((k : Int) + 1)).op = 6) && decide ((entL l ((k : Int) + 1)).order = o) && liveB l ((k : Int) + 1)
def covOut (l : List SPost) (o : Str) : Nat → List (Int × Int)
  | 0 => []
  | k + 1 => if ivcB l o k = true then covIn l o k (covOut l o k) k else covOut l o k
set_option maxRecDepth 20000 in
theorem covered_ret (l : List SPost) (hO : Ok l) (o : Str) : Ret Tryz.prog .fresh 112 [.dref (eBook l) 0, .str o] (.mapd ((covOut l o l.length).map eKV)) := by
  have hl := hO.wf.len
  have hll : ((l.map ePost).length : Int) = l.length := by simp
  refine Ret.of_pwp layOk mixed Go.Proofs.Tryz.func112 rfl (by decide) rfl rfl ?_
  repeat (refine stp rfl ?_ ?_;·repeat' constructor)
  refine ps_run (o_mkmap rfl ?_)
  repeat (refine stp rfl ?_ ?_;·repeat' constructor)
  rw [hll]
  refine pw_loop (fun k => k ≤ l.length) (fun k => [(0, .dref (eBook l) 0), (1, .str o), (5, .mp 10 1), (14, .sl (l.map ePost)), (15, I l.length), (16, I k)]) (fun k => [(10, 1, ⟨180, 0, (covOut l o k).map eKV, 0⟩)]) (fun k => l.length - k) 0 (Nat.zero_le _) ⟨rfl, rfl, rfl, rfl, rfl, rfl, rfl, trivial⟩ ?_
  intro k s hk
  have hk : k ≤ l.length := hk
  repeat (refine stp rfl ?_ ?_;·repeat' constructor)
  refine pw_cond rfl (fun h => ?_) (fun h => ?_)
  · have hlt : k < l.length := by have := of_decide_eq_true h; omega
    clear h
    have hx : l[k]? = some (entL l ((k : Int) + 1)) := by
      have := entL_at (l := l) (n := (k : Int) + 1) (by omega) (by omega)
      rwa [show ((k : Int) + 1 - 1).toNat = k by omega] at this
    have hv := live_ret l hO.wf ((k : Int) + 1) (by omega)
    have hs : covOut l o (k + 1) = if ivcB l o k = true then covIn l o k (covOut l o k) k else covOut l o k := rfl
    have hw : IntKind.wrap .i64 ((k : Int) + 1) = (k : Int) + 1 := wrap_i64 (by omega) (by omega)
    rw [ivcB] at hs
    generalize entL l ((k : Int) + 1) = x at hx hs
    repeat (refine stp rfl ?_ ?_;·repeat' constructor)
    apply qst;exact rfl;exact rfl;exact q_idxm rfl rfl rfl rfl rfl (by omega) hx rfl
    repeat (refine stp rfl ?_ ?_;·repeat' constructor)
    (first | refine ps_split rfl rfl (fun h => ?_) (fun h => ?_) | refine pq_split rfl rfl (fun h => ?_) (fun h => ?_) | refine p3_split rfl rfl (fun h => ?_) (fun h => ?_))
    · have g1 : ¬ x.op = 6 := by simpa using h
      rw [decide_eq_false g1, Bool.false_and, Bool.false_and, if_neg (by simp)] at hs
      repeat (refine stp rfl ?_ ?_;·repeat' constructor)
      exact ⟨k + 1, hlt, by omega, rfl, rfl, rfl, rfl, rfl, i64_next (by omega) (by omega), by rw [hs]; rfl, trivial⟩
    have g1 : x.op = 6 := by simpa using h
    clear h
    rw [decide_eq_true g1, Bool.true_and] at hs
    repeat (refine stp rfl ?_ ?_;·repeat' constructor)
    (first | refine ps_split rfl rfl (fun h => ?_) (fun h => ?_) | refine pq_split rfl rfl (fun h => ?_) (fun h => ?_) | refine p3_split rfl rfl (fun h => ?_) (fun h => ?_))
    · have g2 : ¬ x.order = o := by simpa using h
      rw [decide_eq_false g2, Bool.false_and, if_neg (by simp)] at hs
      repeat (refine stp rfl ?_ ?_;·repeat' constructor)
      exact ⟨k + 1, hlt, by omega, rfl, rfl, rfl, rfl, rfl, i64_next (by omega) (by omega), by rw [hs]; rfl, trivial⟩
    have g2 : x.order = o := by simpa using h
    clear h
    rw [decide_eq_true g2, Bool.true_and] at hs
    generalize liveB l ((k : Int) + 1) = lv at *
    repeat (refine stp rfl ?_ ?_;·repeat' constructor)
    rw [hw]
    apply qst;exact rfl;exact rfl;exact q_callP rfl (hv) rfl (by repeat' constructor) rfl rfl
    cases lv with
    | false =>
      rw [if_neg (by simp)] at hs
      repeat (refine stp rfl ?_ ?_;·repeat' constructor)
      exact ⟨k + 1, hlt, by omega, rfl, rfl, rfl, rfl, rfl, i64_next (by omega) (by omega), by rw [hs]; rfl, trivial⟩
    | true =>
    rw [if_pos rfl] at hs
    have hso := hs
    repeat (refine stp rfl ?_ ?_;·repeat' constructor)
    refine pw_loop (fun n => n ≤ k) (fun n => [(0, .dref (eBook l) 0), (1, .str o), (5, .mp 10 1), (6, I k), (8, I (n + 1)), (14, .sl (l.map ePost)), (15, I l.length), (16, I k)]) (fun n => [(10, 1, ⟨180, 0, (covIn l o k (covOut l o k) n).map eKV, 0⟩)]) (fun n => k - n) 0 (Nat.zero_le _) ⟨rfl, rfl, rfl, rfl, rfl, rfl, rfl, rfl, rfl, trivial⟩ ?_
    intro n s2 hn
    have hn : n ≤ k := hn
    clear hs hv g1 g2 hx
    repeat (refine stp rfl ?_ ?_;·repeat' constructor)
    refine pw_cond rfl (fun h => ?_) (fun h => ?_)
    · have hnk : n < k := by have := of_decide_eq_true h; omega
      clear h
      have he := entry_ret l ((n : Int) + 1) (by omega) (by omega) hl
      have hv := live_ret l hO.wf ((n : Int) + 1) (by omega)
      have hsg := signed_ret l hO ((n : Int) + 1) k 0 (by omega) (by omega) (by omega)
      have hs : covIn l o k (covOut l o k) (n + 1) = if tstB l o k ((n : Int) + 1) (covIn l o k (covOut l o k) n) = true then aput ((n : Int) + 1) (k + 1) (covIn l o k (covOut l o k) n) else covIn l o k (covOut l o k) n := rfl
      have hwn : PV.int .i64 (IntKind.wrap .i64 ((n : Int) + 1 + 1)) = I (((n + 1 : Nat) : Int) + 1) := by rw [wrap_i64 (by omega) (by omega)]; rfl
      rw [tstB] at hs
      generalize covIn l o k (covOut l o k) n = M at *
      repeat (refine stp rfl ?_ ?_;·repeat' constructor)
      apply qst;exact rfl;exact rfl;exact q_call rfl (he) rfl (by repeat' constructor) rfl
      repeat (refine stp rfl ?_ ?_;·repeat' constructor)
      generalize entL l ((n : Int) + 1) = x at *
      (first | refine ps_split rfl rfl (fun h => ?_) (fun h => ?_) | refine pq_split rfl rfl (fun h => ?_) (fun h => ?_) | refine p3_split rfl rfl (fun h => ?_) (fun h => ?_))
      rotate_left
      · have g1 := of_decide_eq_false h
        rw [decide_eq_false g1, Bool.false_and, Bool.false_and, Bool.false_and, Bool.false_and, if_neg (by simp)] at hs
        repeat (refine stp rfl ?_ ?_;·repeat' constructor)
        exact ⟨n + 1, hnk, by omega, rfl, rfl, rfl, rfl, hwn, rfl, rfl, rfl, by rw [hs]; rfl, trivial⟩
      have g1 := of_decide_eq_true h
      clear h
      rw [decide_eq_true g1, Bool.true_and] at hs
      repeat (refine stp rfl ?_ ?_;·repeat' constructor)
      (first | refine ps_split rfl rfl (fun h => ?_) (fun h => ?_) | refine pq_split rfl rfl (fun h => ?_) (fun h => ?_) | refine p3_split rfl rfl (fun h => ?_) (fun h => ?_))
      rotate_left
      · have g2 := of_decide_eq_false h
        rw [decide_eq_false g2, Bool.false_and, Bool.false_and, Bool.false_and, if_neg (by simp)] at hs
        repeat (refine stp rfl ?_ ?_;·repeat' constructor)
        exact ⟨n + 1, hnk, by omega, rfl, rfl, rfl, rfl, hwn, rfl, rfl, rfl, by rw [hs]; rfl, trivial⟩
      have g2 := of_decide_eq_true h
      clear h
      rw [decide_eq_true g2, Bool.true_and] at hs
      repeat (refine stp rfl ?_ ?_;·repeat' constructor)
      apply qst;exact rfl;exact rfl;exact q_lookG none rfl rfl rfl rfl rfl zone3 rfl rfl rfl rfl rfl rfl (keyedG_kv M)
      rw [mval_kv]
      repeat (refine stp rfl ?_ ?_;·repeat' constructor)
      (first | refine ps_split rfl rfl (fun h => ?_) (fun h => ?_) | refine pq_split rfl rfl (fun h => ?_) (fun h => ?_) | refine p3_split rfl rfl (fun h => ?_) (fun h => ?_))
      rotate_left
      · have g3 := of_decide_eq_false h
        rw [decide_eq_false g3, Bool.false_and, Bool.false_and, if_neg (by simp)] at hs
        repeat (refine stp rfl ?_ ?_;·repeat' constructor)
        exact ⟨n + 1, hnk, by omega, rfl, rfl, rfl, rfl, hwn, rfl, rfl, rfl, by rw [hs]; rfl, trivial⟩
      have g3 := of_decide_eq_true h
      clear h
      rw [decide_eq_true g3, Bool.true_and] at hs
      generalize liveB l ((n : Int) + 1) = lv at *
      repeat (refine stp rfl ?_ ?_;·repeat' constructor)
      apply qst;exact rfl;exact rfl;exact q_callP rfl (hv) rfl (by repeat' constructor) rfl rfl
      cases lv with
      | false =>
        rw [Bool.false_and, if_neg (by simp)] at hs
        repeat (refine stp rfl ?_ ?_;·repeat' constructor)
        exact ⟨n + 1, hnk, by omega, rfl, rfl, rfl, rfl, hwn, rfl, rfl, rfl, by rw [hs]; rfl, trivial⟩
      | true =>
      rw [Bool.true_and] at hs
      generalize sgdB l ((n : Int) + 1) k 0 = sg at *
      repeat (refine stp rfl ?_ ?_;·repeat' constructor)
      rw [hw]
      apply qst;exact rfl;exact rfl;exact q_callP rfl (hsg) rfl (by repeat' constructor) rfl rfl
      cases sg with
      | false =>
        rw [if_neg (by simp)] at hs
        repeat (refine stp rfl ?_ ?_;·repeat' constructor)
        exact ⟨n + 1, hnk, by omega, rfl, rfl, rfl, rfl, hwn, rfl, rfl, rfl, by rw [hs]; rfl, trivial⟩
      | true =>
        rw [if_pos rfl] at hs
        repeat (refine stp rfl ?_ ?_;·repeat' constructor)
        rw [hw]
        refine ps_run0 (o_mset 0 rfl rfl rfl rfl rfl rfl rfl rfl rfl (keyed_kv M) rfl rfl ?_)
        rw [show nrm 0 (PV.int .i64 ((k : Int) + 1)) = I ((k : Int) + 1) from rfl, mput_kv]
        repeat (refine stp rfl ?_ ?_;·repeat' constructor)
        exact ⟨n + 1, hnk, by omega, rfl, rfl, rfl, rfl, hwn, rfl, rfl, rfl, by rw [hs]; rfl, trivial⟩
    · have hz : n = k := by have := of_decide_eq_false h; omega
      subst hz
      repeat (refine stp rfl ?_ ?_;·repeat' constructor)
      exact ⟨n + 1, hlt, by omega, rfl, rfl, rfl, rfl, rfl, i64_next (by omega) (by omega), by rw [hso]; rfl, trivial⟩
  · have hz : k = l.length := by have := of_decide_eq_false h; omega
    subst hz
    repeat (refine stp rfl ?_ ?_;·repeat' constructor)
    exact end1f rfl rfl rfl rfl rfl
end Go.Pv

/- What a charge goes back to: the program. -/
set_option maxHeartbeats 2000000
namespace Go.Pv
attribute [local irreducible] PWP POps PQuiet PSem XThen XBlock RetPost InlPost
open Go.Proofs

def invF (l : List SPost) (n : Int) : Nat → Int
  | 0 => 0
  | k + 1 => if invF l n k = 0 then (if (decide (n < (k : Int) + 1) && ivcB l (entL l n).order k && sgdB l n k 0) = true then (k : Int) + 1 else 0) else invF l n k
theorem covIn_at {l : List SPost} {o : Str} {i : Nat} {M : List (Int × Int)} {n : Int} (h1 : (entL l n).op = 3) (h2 : (entL l n).order = o) (h3 : liveB l n = true) (h4 : 1 ≤ n) : ∀ m : Nat,
    aget (covIn l o i M m) n = if n ≤ m ∧ aget M n = 0 ∧ sgdB l n i 0 = true then (i : Int) + 1 else aget M n
  | 0 => by rw [covIn, if_neg (by omega)]
  | m + 1 => by
    have ih := covIn_at (l := l) (o := o) (i := i) (M := M) h1 h2 h3 h4 m
    rw [covIn]
    by_cases hn : n = (m : Int) + 1
    · subst hn
      rw [if_neg (by omega)] at ih
      have ht : tstB l o i ((m : Int) + 1) (covIn l o i M m) = (decide (aget M ((m : Int) + 1) = 0) && sgdB l ((m : Int) + 1) i 0) := by
        rw [tstB, ih, h1, h2, h3]; simp
      rw [ht]
      by_cases hc : aget M ((m : Int) + 1) = 0 ∧ sgdB l ((m : Int) + 1) i 0 = true
      · rw [if_pos (by simp [hc.1, hc.2]), aget_aput, if_pos rfl, if_pos ⟨by omega, hc.1, hc.2⟩]
      · rw [if_neg (by simpa using hc), ih, if_neg (fun h => hc h.2)]
    · have hle : (n ≤ ((m + 1 : Nat) : Int)) ↔ n ≤ m := by omega
      have : aget (if tstB l o i ((m : Int) + 1) (covIn l o i M m) = true then aput ((m : Int) + 1) ((i : Int) + 1) (covIn l o i M m) else covIn l o i M m) n = aget (covIn l o i M m) n := by
        split
        · rw [aget_aput, if_neg (fun e => hn e.symm)]
        · rfl
      rw [this, ih]
      simp only [hle]
theorem covOut_at {l : List SPost} {o : Str} {n : Int} (h1 : (entL l n).op = 3) (h2 : (entL l n).order = o) (h3 : liveB l n = true) (h4 : 1 ≤ n) : ∀ k : Nat, aget (covOut l o k) n = invF l n k
  | 0 => rfl
  | k + 1 => by
    have ih := covOut_at h1 h2 h3 h4 k
    rw [covOut, invF, h2]
    by_cases hi : ivcB l o k = true
    · rw [if_pos hi, covIn_at h1 h2 h3 h4, ih, hi]
      by_cases hz : invF l n k = 0
      · rw [if_pos hz, hz]
        by_cases hc : n ≤ k ∧ sgdB l n k 0 = true
        · rw [if_pos ⟨hc.1, rfl, hc.2⟩, if_pos (by simp [hc.2]; omega)]
        · rw [if_neg (fun h => hc ⟨h.1, h.2.2⟩), if_neg (by intro h; simp at h; exact hc ⟨by omega, h.2⟩)]
      · rw [if_neg hz, if_neg (fun h => hz h.2.1)]
    · rw [if_neg hi, ih]
      split
      · rename_i hz
        rw [hz, if_neg (by simp [hi])]
      · rfl
def amF (l : List SPost) (n : Int) : Nat → List Int
  | 0 => []
  | k + 1 => if ofB l 5 n ((k : Int) + 1) = true then amF l n k ++ [(k : Int) + 1] else amF l n k
theorem amF_len (l : List SPost) (n : Int) : ∀ k, (amF l n k).length ≤ k
  | 0 => by simp [amF]
  | k + 1 => by
    have := amF_len l n k
    rw [amF]
    split
    · simp; omega
    · omega
theorem amF_early {l : List SPost} (h : Ok l) {n : Int} : ∀ (i : Nat), (i : Int) ≤ n → i ≤ l.length → amF l n i = []
  | 0, _, _ => rfl
  | i + 1, h1, h2 => by
    have : ¬ ofB l 5 n (i + 1) = true := fun hb => by have := ofB_late h (.inr rfl) (by omega) (by omega) hb; omega
    rw [amF, if_neg this, amF_early h i (by omega) (by omega)]
def trailV (l : List SPost) (n : Int) : List PV := [I (ordNo l (entL l n).order), I (itmNo l (entL l n).order (entL l n).item), .sl ((amF l n l.length).map eI), .sl ((sigF l n l.length).map eI), I (invF l n l.length)]
def trailR (l : List SPost) (n : Int) : PV := if aimE l n [3] = 0 then .tup [.agg (trailV l n), I 0] else .tup [.agg [I 0, I 0, .nil, .nil, I 0], I (aimE l n [3])]
section
variable {L : Lay} {s : St} {fn : Func} {r : PV}
theorem endc2f {t1 t2 : Nat} {T : TypeId} {v d : PV} {A C1 : Prop} {b1 : Bool} {k2 : IntKind} {n2 : Int} (h : fn.results.toList = [.cell t1 T, .tmp t2]) (hq : qv L s (.load T (.tmp t1)) = some (v, A)) (ha : A) (h2 : s.reg t2 = .int k2 n2) (r1 : res s 4 v = some (d, C1, ⟨b1, true⟩)) (c1 : C1)
    (hd : PV.tup [d, .int k2 n2] = r) : RetPost L fn .fresh r .ret s := by
  unfold RetPost
  refine ⟨[v, s.reg t2], A ∧ True ∧ True, .tup [d, .int k2 n2], C1 ∧ True ∧ True, (⟨b1, true⟩ : Fl).and ((⟨true, true⟩ : Fl).and ⟨true, true⟩), ?_, ⟨ha, trivial, trivial⟩, ?_, ⟨c1, trivial, trivial⟩, rfl, hd⟩
  · rw [h]
    show (match rv L s (.cell t1 T) with | some (v, A) => (match rvs L s [.tmp t2] with | some (vs, B) => some (v :: vs, A ∧ B) | none => none) | none => none) = _
    rw [show rv L s (.cell t1 T) = some (v, A) from hq]; rfl
  · show (match resL (res s 4) [v, s.reg t2] with | some (ds, C1, b) => some (PV.tup ds, C1, b) | none => none) = _
    rw [h2]
    have q : ∀ (k : IntKind) (n : Int), res s 4 (.int k n) = some (.int k n, True, ⟨true, true⟩) := fun k n => rfl
    simp only [resL, r1, q]
end
theorem end_ret (l : List SPost) (hl : l.length ≤ 400) : Ret Tryz.prog .shared 111 [.dref (eBook l) 0] (I (l.length + 1)) := by
  have hll : ((l.map ePost).length : Int) = l.length := by simp
  refine Ret.of_pwp layOk mixed Go.Proofs.Tryz.func111 rfl (by decide) rfl rfl ?_
  repeat (refine stp rfl ?_ ?_;·repeat' constructor)
  exact end1i rfl rfl (by rw [hll, wrap_i64 (by omega) (by omega)])
set_option maxRecDepth 20000 in
theorem trace_ret (l : List SPost) (hO : Ok l) (n : Int) : Ret Tryz.prog .fresh 49 [.dref (eBook l) 0, I n] (trailR l n) := by
  have hl := hO.wf.len
  have ha := aimed_ret l hO.wf n [3] (by decide)
  rw [trailR]
  by_cases hz : aimE l n [3] = 0
  case neg =>
    rw [if_neg hz]
    refine Ret.of_pwp layOk mixed Go.Proofs.Tryz.func49 rfl (by decide) rfl rfl ?_
    repeat (refine stp rfl ?_ ?_;·repeat' constructor)
    apply qst;exact rfl;exact rfl;exact q_slit rfl rfl rfl rfl rfl rfl rfl rfl rfl rfl (by repeat' constructor) rfl
    repeat (refine stp rfl ?_ ?_;·repeat' constructor)
    apply qst;exact rfl;exact rfl;exact q_callP rfl (ha) rfl (by repeat' constructor) rfl rfl
    repeat (refine stp rfl ?_ ?_;·repeat' constructor)
    refine pw_cond rfl (fun h => ?_) (fun h => ?_)
    · repeat (refine stp rfl ?_ ?_;·repeat' constructor)
      exact endc2f rfl rfl rfl rfl rfl (by repeat' constructor) rfl
    · exact absurd (of_decide_eq_true (by simpa only [Bool.not_eq_false'] using h)) hz
  rw [if_pos hz]
  have hb := aimE_zero hz
  have hop : (entL l n).op = 3 ∧ liveB l n = true := by
    rw [aimE, if_neg (by simp [inside]; omega)] at hz
    split at hz
    · omega
    · rename_i h1
      have := standE_zero hz
      have h2 : (([3] : List Int).any (· == (entL l n).op)) = true := by cases hh : (([3] : List Int).any (· == (entL l n).op)) <;> simp_all
      simp only [List.any_cons, List.any_nil, Bool.or_false, beq_iff_eq] at h2
      exact ⟨h2.symm, this.2⟩
  rw [hz] at ha
  clear hz
  have he := entry_ret l n hb.1 hb.2 hl
  have ho := (ordR_at l (entL l n).order).1
  have hi := (itmR_at l (entL l n).order (entL l n).item).1
  have h29 := end_ret l hl
  have h28 := signatures_ret l hO n l.length hb.1 hb.2 (Nat.le_refl _)
  have h30 := covered_ret l hO (entL l n).order
  have hcov := covOut_at hop.1 rfl hop.2 hb.1 l.length
  obtain ⟨m, rfl⟩ : ∃ m : Nat, n = m := ⟨n.toNat, by omega⟩
  rw [trailV, ← hcov]
  generalize entL l (m : Int) = p at *
  have hw : IntKind.wrap .i64 ((m : Int) + 1) = (m : Int) + 1 := wrap_i64 (by omega) (by omega)
  refine Ret.of_pwp layOk mixed Go.Proofs.Tryz.func49 rfl (by decide) rfl rfl ?_
  repeat (refine stp rfl ?_ ?_;·repeat' constructor)
  apply qst;exact rfl;exact rfl;exact q_slit rfl rfl rfl rfl rfl rfl rfl rfl rfl rfl (by repeat' constructor) rfl
  repeat (refine stp rfl ?_ ?_;·repeat' constructor)
  apply qst;exact rfl;exact rfl;exact q_callP rfl (ha) rfl (by repeat' constructor) rfl rfl
  repeat (refine stp rfl ?_ ?_;·repeat' constructor)
  apply qst;exact rfl;exact rfl;exact q_call rfl (he) rfl (by repeat' constructor) rfl
  repeat (refine stp rfl ?_ ?_;·repeat' constructor)
  refine pw_draw3 [8] [29, 30] (by decide +kernel) ?_
  repeat (refine stp rfl ?_ ?_;·repeat' constructor)
  apply qst;exact rfl;exact rfl;exact q_lookV none ho (ordR_keyed l) zone3 rfl rfl rfl rfl rfl rfl rfl rfl rfl
  repeat (refine stp rfl ?_ ?_;·repeat' constructor)
  apply qst;exact rfl;exact rfl;exact q_lookV (some [.str, .str]) hi (itmR_keyed l _) zone3 good72 rfl rfl rfl rfl rfl rfl rfl rfl
  repeat (refine stp rfl ?_ ?_;·repeat' constructor)
  apply qst;exact rfl;exact rfl;exact q_callP rfl (h29) rfl (by repeat' constructor) rfl rfl
  repeat (refine stp rfl ?_ ?_;·repeat' constructor)
  apply qst;exact rfl;exact rfl;exact q_callF rfl (h28) rfl (by repeat' constructor) rfl
  repeat (refine stp rfl ?_ ?_;·repeat' constructor)
  apply qst;exact rfl;exact rfl;exact q_callF rfl (h30) rfl (by repeat' constructor) rfl
  repeat (refine stp rfl ?_ ?_;·repeat' constructor)
  apply qst;exact rfl;exact rfl;exact q_lookV none (mval_kv m (covOut l p.order l.length)) (keyedG_kv _) zone3 rfl rfl rfl rfl rfl rfl rfl rfl rfl
  repeat (refine stp rfl ?_ ?_;·repeat' constructor)
  refine pw_ghost (Ghost.nilcell (k := 200) (k0 := 8) (i := 0) (j := 2) (row := [I (ordNo l p.order), I (itmNo l p.order p.item), .nil, .fsl ((sigF l m l.length).map eI), I (aget (covOut l p.order l.length) m)]) 3 1 0 rfl rfl rfl rfl rfl rfl rfl) ?_
  repeat (refine stp rfl ?_ ?_;·repeat' constructor)
  have hem := amF_early hO m (Int.le_refl _) (by omega)
  generalize ordNo l p.order = rO at *
  generalize itmNo l p.order p.item = rI at *
  generalize aget (covOut l p.order l.length) m = rV at *
  generalize sigF l m l.length = sg at *
  refine pw_loop (fun j => m ≤ j ∧ j ≤ l.length) (fun j => [(0, .dref (eBook l) 0), (1, I m), (4, .ptr 4 1 0 0), (8, .ptr 8 1 0 0), (9, I (j + 1))])
    (fun j => [(4, 1, ⟨98, 5, [[I 0, I 0, .nil, .nil, I 0]], 2⟩), (8, 1, ⟨98, 5, [[I rO, I rI, .als 200 (1 + (amF l m j).length) 0 ((amF l m j).map eI).length, .fsl (sg.map eI), I rV]], 2⟩), (200, 1 + (amF l m j).length, ⟨3, 1, (amF l m j).map eI, 0⟩)]) (fun j => l.length - j) m ⟨Nat.le_refl _, by omega⟩ ?_ ?_
  · rw [hem]
    exact ⟨rfl, rfl, rfl, rfl, congrArg I hw, rfl, rfl, rfl, trivial⟩
  intro j s hj
  clear ha he ho hi h28 h30 hcov hem
  have hwn : PV.int .i64 (IntKind.wrap .i64 ((j : Int) + 1 + 1)) = I (((j + 1 : Nat) : Int) + 1) ∨ ¬ j < l.length := by
    by_cases hlt : j < l.length
    · left; rw [wrap_i64 (by omega) (by omega)]; rfl
    · exact .inr hlt
  repeat (refine stp rfl ?_ ?_;·repeat' constructor)
  apply qst;exact rfl;exact rfl;exact q_callP rfl (h29) rfl (by repeat' constructor) rfl rfl
  repeat (refine stp rfl ?_ ?_;·repeat' constructor)
  refine pw_cond rfl (fun h => ?_) (fun h => ?_)
  · have hlt : j < l.length := by have := of_decide_eq_true h; omega
    clear h
    replace hwn := hwn.resolve_right (fun hc => hc hlt)
    have he := entry_ret l ((j : Int) + 1) (by omega) (by omega) hl
    have hv := live_ret l hO.wf ((j : Int) + 1) (by omega)
    have hs : amF l m (j + 1) = if ofB l 5 m ((j : Int) + 1) = true then amF l m j ++ [(j : Int) + 1] else amF l m j := rfl
    have hal := amF_len l m j
    rw [ofB] at hs
    repeat (refine stp rfl ?_ ?_;·repeat' constructor)
    apply qst;exact rfl;exact rfl;exact q_call rfl (he) rfl (by repeat' constructor) rfl
    repeat (refine stp rfl ?_ ?_;·repeat' constructor)
    generalize entL l ((j : Int) + 1) = x at *
    (first | refine ps_split rfl rfl (fun h => ?_) (fun h => ?_) | refine pq_split rfl rfl (fun h => ?_) (fun h => ?_) | refine p3_split rfl rfl (fun h => ?_) (fun h => ?_))
    rotate_left
    · have g1 := of_decide_eq_false h
      rw [decide_eq_false g1, Bool.false_and, Bool.false_and, if_neg (by simp)] at hs
      repeat (refine stp rfl ?_ ?_;·repeat' constructor)
      exact ⟨j + 1, ⟨by omega, hlt⟩, by omega, rfl, rfl, rfl, rfl, hwn, rfl, by rw [hs]; rfl, by rw [hs]; rfl, trivial⟩
    have g1 := of_decide_eq_true h
    clear h
    rw [decide_eq_true g1, Bool.true_and] at hs
    repeat (refine stp rfl ?_ ?_;·repeat' constructor)
    (first | refine ps_split rfl rfl (fun h => ?_) (fun h => ?_) | refine pq_split rfl rfl (fun h => ?_) (fun h => ?_) | refine p3_split rfl rfl (fun h => ?_) (fun h => ?_))
    rotate_left
    · have g2 := of_decide_eq_false h
      rw [decide_eq_false g2, Bool.false_and, if_neg (by simp)] at hs
      repeat (refine stp rfl ?_ ?_;·repeat' constructor)
      exact ⟨j + 1, ⟨by omega, hlt⟩, by omega, rfl, rfl, rfl, rfl, hwn, rfl, by rw [hs]; rfl, by rw [hs]; rfl, trivial⟩
    have g2 := of_decide_eq_true h
    clear h
    rw [decide_eq_true g2, Bool.true_and] at hs
    generalize liveB l ((j : Int) + 1) = lv at *
    repeat (refine stp rfl ?_ ?_;·repeat' constructor)
    apply qst;exact rfl;exact rfl;exact q_callP rfl (hv) rfl (by repeat' constructor) rfl rfl
    cases lv with
    | false =>
      rw [if_neg (by simp)] at hs
      repeat (refine stp rfl ?_ ?_;·repeat' constructor)
      exact ⟨j + 1, ⟨by omega, hlt⟩, by omega, rfl, rfl, rfl, rfl, hwn, rfl, by rw [hs]; rfl, by rw [hs]; rfl, trivial⟩
    | true =>
      rw [if_pos rfl] at hs
      repeat (refine stp rfl ?_ ?_;·repeat' constructor)
      apply qst;exact rfl;exact rfl;exact q_slit rfl rfl rfl rfl rfl rfl rfl rfl rfl rfl (by repeat' constructor) rfl
      repeat (refine stp rfl ?_ ?_;·repeat' constructor)
      refine ps_run (o_app 0 rfl rfl rfl rfl rfl rfl rfl rfl rfl rfl rfl (by repeat' constructor) (by intro row hr; first | (simp at hr; subst hr; rfl) | simp at hr) rfl rfl (by simp; omega) (by simp; omega) ?_)
      repeat (refine stp rfl ?_ ?_;·repeat' constructor)
      refine ⟨j + 1, ⟨by omega, hlt⟩, by omega, rfl, rfl, rfl, rfl, hwn, rfl, ?_, ?_, trivial⟩
      · rw [hs]
        refine Eq.trans (b := (1, some (Cont.mk 98 5 [[I rO, I rI, .als 200 (1 + (amF l m j).length + 1) 0 ((amF l m j).map eI ++ [eI ((j : Int) + 1)]).length, .fsl (sg.map eI), I rV]] 2))) rfl ?_
        rw [als_snoc eI 200 1 (amF l m j) ((j : Int) + 1)]
      · rw [hs]; exact cont_snoc eI 1 3 1 0 _ _
  · have hz : j = l.length := by have := of_decide_eq_false h; omega
    subst hz
    repeat (refine stp rfl ?_ ?_;·repeat' constructor)
    exact endc2f rfl rfl (by repeat' constructor) rfl rfl (by repeat' constructor) rfl
end Go.Pv

/- What a charge goes back to: the reference. -/
set_option maxHeartbeats 2000000
namespace Go.Pv
attribute [local irreducible] PWP POps PQuiet PSem XThen XBlock RetPost InlPost
open Go.Proofs

theorem invF_stay {l : List SPost} {n : Int} {k : Nat} (h : ¬ invF l n k = 0) : ∀ k', k ≤ k' → invF l n k' = invF l n k
  | 0, hk => by have : k = 0 := by omega
                subst this; rfl
  | k' + 1, hk => by
    by_cases he : k = k' + 1
    · rw [he]
    · have ih := invF_stay h k' (by omega)
      rw [invF, if_neg (by rw [ih]; exact h), ih]
theorem invF_early {l : List SPost} {n : Int} : ∀ (k : Nat), (k : Int) ≤ n → invF l n k = 0
  | 0, _ => rfl
  | k + 1, h => by
    rw [invF, if_pos (invF_early k (by omega)), decide_eq_false (by omega)]; simp
set_option maxRecDepth 20000 in
theorem invoice_ref (l : List SPost) (hO : Ok l) (n : Int) (h1 : 1 ≤ n) (h2 : n ≤ l.length) : Ret Tryz.prog .shared 142 [.sl (l.map ePost), I n] (I (invF l n l.length)) := by
  have hl := hO.wf.len
  have hll : ((l.map ePost).length : Int) = l.length := by simp
  have hen := entL_at h1 h2
  have hwn : IntKind.wrap .i64 (n - 1) = n - 1 := wrap_i64 (by omega) (by omega)
  obtain ⟨m, rfl⟩ : ∃ m : Nat, n = m := ⟨n.toNat, by omega⟩
  have hw : IntKind.wrap .i64 ((m : Int) + 1) = (m : Int) + 1 := wrap_i64 (by omega) (by omega)
  refine Ret.of_pwp layOk mixed Go.Proofs.Tryz.func142 rfl (by decide) rfl rfl ?_
  repeat (refine stp rfl ?_ ?_;·repeat' constructor)
  rw [hw]
  refine pw_loop (fun j => m ≤ j ∧ j ≤ l.length ∧ invF l m j = 0) (fun j => [(0, .sl (l.map ePost)), (1, I m), (5, I (j + 1))]) (fun _ => []) (fun j => l.length - j) m ⟨Nat.le_refl _, by omega, invF_early m (Int.le_refl _)⟩ ⟨rfl, rfl, rfl, trivial⟩ ?_
  intro j s hj
  repeat (refine stp rfl ?_ ?_;·repeat' constructor)
  rw [hll]
  refine pw_cond rfl (fun h => ?_) (fun h => ?_)
  · have hlt : j < l.length := by have := of_decide_eq_true h; omega
    clear h
    have he := entL_at (l := l) (n := (j : Int) + 1) (by omega) (by omega)
    have hv := live_ref l hO.wf ((j : Int) + 1).toNat ((j : Int) + 1) (by omega) (by omega) (by omega)
    have hsg := signed_ref l hO m j 0 (by omega)
    have hwj : IntKind.wrap .i64 ((j : Int) + 1 - 1) = (j : Int) + 1 - 1 := wrap_i64 (by omega) (by omega)
    have hwn1 : PV.int .i64 (IntKind.wrap .i64 ((j : Int) + 1 + 1)) = I (((j + 1 : Nat) : Int) + 1) := by rw [wrap_i64 (by omega) (by omega)]; rfl
    have hs : invF l m (j + 1) = if (ivcB l (entL l m).order j && sgdB l m j 0) = true then (j : Int) + 1 else 0 := by
      rw [invF, if_pos hj.2.2, decide_eq_true (show (m : Int) < (j : Int) + 1 by omega), Bool.true_and]
    have hst := fun h => invF_stay (l := l) (n := m) (k := j + 1) h l.length (by omega)
    rw [ivcB] at hs
    generalize entL l ((j : Int) + 1) = x at *
    generalize entL l (m : Int) = y at *
    repeat (refine stp rfl ?_ ?_;·repeat' constructor)
    refine pw_draw 33 [14, 15, 16, 17, 18, 19, 20, 21, 22, 23, 24, 25, 26, 27, 28, 29, 30, 31, 32, 33, 34, 35, 36, 37, 38, 39, 40, 41, 42, 43, 44, 45, 46] (by decide +kernel) ?_
    repeat (refine stp rfl ?_ ?_;·repeat' constructor)
    rw [hwj]
    apply qst;exact rfl;exact rfl;exact q_idxm rfl rfl rfl rfl rfl (by omega) he rfl
    repeat (refine stp rfl ?_ ?_;·repeat' constructor)
    (first | refine ps_split rfl rfl (fun h => ?_) (fun h => ?_) | refine pq_split rfl rfl (fun h => ?_) (fun h => ?_) | refine p3_split rfl rfl (fun h => ?_) (fun h => ?_))
    rotate_left
    · have g1 := of_decide_eq_false h
      rw [decide_eq_false g1, Bool.false_and, Bool.false_and, Bool.false_and, if_neg (by simp)] at hs
      repeat (refine stp rfl ?_ ?_;·repeat' constructor)
      exact ⟨j + 1, ⟨by omega, hlt, hs⟩, by omega, rfl, rfl, hwn1, trivial⟩
    have g1 := of_decide_eq_true h
    clear h
    rw [decide_eq_true g1, Bool.true_and] at hs
    repeat (refine stp rfl ?_ ?_;·repeat' constructor)
    rw [hwj]
    apply qst;exact rfl;exact rfl;exact q_idxm rfl rfl rfl rfl rfl (by omega) he rfl
    repeat (refine stp rfl ?_ ?_;·repeat' constructor)
    rw [hwn]
    apply qst;exact rfl;exact rfl;exact q_idxm rfl rfl rfl rfl rfl (by omega) hen rfl
    repeat (refine stp rfl ?_ ?_;·repeat' constructor)
    (first | refine ps_split rfl rfl (fun h => ?_) (fun h => ?_) | refine pq_split rfl rfl (fun h => ?_) (fun h => ?_) | refine p3_split rfl rfl (fun h => ?_) (fun h => ?_))
    rotate_left
    · have g2 := of_decide_eq_false h
      rw [decide_eq_false g2, Bool.false_and, Bool.false_and, if_neg (by simp)] at hs
      repeat (refine stp rfl ?_ ?_;·repeat' constructor)
      exact ⟨j + 1, ⟨by omega, hlt, hs⟩, by omega, rfl, rfl, hwn1, trivial⟩
    have g2 := of_decide_eq_true h
    clear h
    rw [decide_eq_true g2, Bool.true_and] at hs
    generalize liveB l ((j : Int) + 1) = lv at *
    repeat (refine stp rfl ?_ ?_;·repeat' constructor)
    apply qst;exact rfl;exact rfl;exact q_callP rfl (hv) rfl (by repeat' constructor) rfl rfl
    cases lv with
    | false =>
      rw [Bool.false_and, if_neg (by simp)] at hs
      repeat (refine stp rfl ?_ ?_;·repeat' constructor)
      exact ⟨j + 1, ⟨by omega, hlt, hs⟩, by omega, rfl, rfl, hwn1, trivial⟩
    | true =>
    rw [Bool.true_and] at hs
    generalize sgdB l m j 0 = sg at *
    repeat (refine stp rfl ?_ ?_;·repeat' constructor)
    apply qst;exact rfl;exact rfl;exact q_callP rfl (hsg) rfl (by repeat' constructor) rfl rfl
    cases sg with
    | false =>
      rw [if_neg (by simp)] at hs
      repeat (refine stp rfl ?_ ?_;·repeat' constructor)
      exact ⟨j + 1, ⟨by omega, hlt, hs⟩, by omega, rfl, rfl, hwn1, trivial⟩
    | true =>
      rw [if_pos rfl] at hs
      repeat (refine stp rfl ?_ ?_;·repeat' constructor)
      exact end1i rfl rfl (by rw [hst (by rw [hs]; omega), hs])
  · have hz : j = l.length := by have := of_decide_eq_false h; omega
    subst hz
    repeat (refine stp rfl ?_ ?_;·repeat' constructor)
    exact end1i rfl rfl (by rw [hj.2.2])
set_option maxRecDepth 20000 in
theorem trace_ref (l : List SPost) (hO : Ok l) (n : Int) : Ret Tryz.prog .fresh 99 [.sl (l.map ePost), I n] (trailR l n) := by
  have hl := hO.wf.len
  have hll : ((l.map ePost).length : Int) = l.length := by simp
  rw [trailR]
  by_cases hin : 1 ≤ n ∧ n ≤ l.length
  case neg =>
    have ha : aimE l n [3] = 6 := by
      rw [aimE, if_pos]
      simp [inside]; omega
    rw [if_neg (by rw [ha]; omega), ha]
    refine Ret.of_pwp layOk mixed Go.Proofs.Tryz.func99 rfl (by decide) rfl rfl ?_
    repeat (refine stp rfl ?_ ?_;·repeat' constructor)
    (first | refine ps_split rfl rfl (fun h => ?_) (fun h => ?_) | refine pq_split rfl rfl (fun h => ?_) (fun h => ?_) | refine p3_split rfl rfl (fun h => ?_) (fun h => ?_))
    · repeat (refine stp rfl ?_ ?_;·repeat' constructor)
      exact endc2f rfl rfl rfl rfl rfl (by repeat' constructor) rfl
    · have h1 := of_decide_eq_false h
      repeat (refine stp rfl ?_ ?_;·repeat' constructor)
      rw [hll]
      refine pw_cond rfl (fun h => ?_) (fun h => ?_)
      · repeat (refine stp rfl ?_ ?_;·repeat' constructor)
        exact endc2f rfl rfl rfl rfl rfl (by repeat' constructor) rfl
      · exact absurd (of_decide_eq_false h) (by omega)
  have hen := entL_at hin.1 hin.2
  have hwn : IntKind.wrap .i64 (n - 1) = n - 1 := wrap_i64 (by omega) (by omega)
  have hv := live_ref l hO.wf n.toNat n (by omega) hin.1 hin.2
  have ho := order_ref l (entL l n).order hl
  have hb := base_ref l n hin.1 hin.2 hl
  have hsg := signs_ref l hO n l.length (Nat.le_refl _)
  have hiv := invoice_ref l hO n hin.1 hin.2
  have ha : aimE l n [3] = if (entL l n).op = 3 then (if liveB l n = true then 0 else 27) else 3 := by
    rw [aimE, if_neg (by simp [inside]; omega)]
    by_cases h3 : (entL l n).op = 3
    · rw [if_neg (by simp [h3]), if_pos h3, standE, if_neg (by omega)]
    · rw [if_pos (by simp; omega), if_neg h3]
  have hbs : (entL l n).op = 3 → supNo l (entL l n) = itmNo l (entL l n).order (entL l n).item := fun h => by rw [supNo, if_neg (by omega), if_pos (.inr h)]
  rw [ha, trailV]
  clear ha
  generalize entL l n = p at *
  have pre : ∀ (X : Prop), (¬ n < 1 → ¬ n > (l.length : Int) → X) → X := fun X h => h (by omega) (by omega)
  by_cases h3 : p.op = 3
  case neg =>
    rw [if_neg h3, if_neg (by omega)]
    refine Ret.of_pwp layOk mixed Go.Proofs.Tryz.func99 rfl (by decide) rfl rfl ?_
    repeat (refine stp rfl ?_ ?_;·repeat' constructor)
    (first | refine ps_split rfl rfl (fun h => ?_) (fun h => ?_) | refine pq_split rfl rfl (fun h => ?_) (fun h => ?_) | refine p3_split rfl rfl (fun h => ?_) (fun h => ?_))
    · exact absurd (of_decide_eq_true h) (by omega)
    clear h
    repeat (refine stp rfl ?_ ?_;·repeat' constructor)
    rw [hll]
    refine pw_cond rfl (fun h => ?_) (fun h => ?_)
    · exact absurd (of_decide_eq_true h) (by omega)
    clear h
    repeat (refine stp rfl ?_ ?_;·repeat' constructor)
    rw [hwn]
    apply qst;exact rfl;exact rfl;exact q_idxm rfl rfl rfl rfl rfl (by omega) hen rfl
    repeat (refine stp rfl ?_ ?_;·repeat' constructor)
    refine pw_cond rfl (fun h => ?_) (fun h => ?_)
    · repeat (refine stp rfl ?_ ?_;·repeat' constructor)
      exact endc2f rfl rfl rfl rfl rfl (by repeat' constructor) rfl
    · exact absurd (of_decide_eq_true (by simpa only [Bool.not_eq_false'] using h)) h3
  rw [if_pos h3]
  have hbs := hbs h3
  rw [hbs] at hb
  generalize liveB l n = lv at *
  cases lv with
  | false =>
    rw [show (if (false = true) then (0 : Int) else 27) = 27 from rfl, if_neg (by omega)]
    refine Ret.of_pwp layOk mixed Go.Proofs.Tryz.func99 rfl (by decide) rfl rfl ?_
    repeat (refine stp rfl ?_ ?_;·repeat' constructor)
    (first | refine ps_split rfl rfl (fun h => ?_) (fun h => ?_) | refine pq_split rfl rfl (fun h => ?_) (fun h => ?_) | refine p3_split rfl rfl (fun h => ?_) (fun h => ?_))
    · exact absurd (of_decide_eq_true h) (by omega)
    clear h
    repeat (refine stp rfl ?_ ?_;·repeat' constructor)
    rw [hll]
    refine pw_cond rfl (fun h => ?_) (fun h => ?_)
    · exact absurd (of_decide_eq_true h) (by omega)
    clear h
    repeat (refine stp rfl ?_ ?_;·repeat' constructor)
    rw [hwn]
    apply qst;exact rfl;exact rfl;exact q_idxm rfl rfl rfl rfl rfl (by omega) hen rfl
    repeat (refine stp rfl ?_ ?_;·repeat' constructor)
    refine pw_cond rfl (fun h => ?_) (fun h => ?_)
    · exact absurd h3 (of_decide_eq_false (by simpa only [Bool.not_eq_true'] using h))
    clear h
    repeat (refine stp rfl ?_ ?_;·repeat' constructor)
    apply qst;exact rfl;exact rfl;exact q_callP rfl (hv) rfl (by repeat' constructor) rfl rfl
    repeat (refine stp rfl ?_ ?_;·repeat' constructor)
    exact endc2f rfl rfl rfl rfl rfl (by repeat' constructor) rfl
  | true =>
  rw [if_pos rfl, if_pos rfl]
  obtain ⟨m, rfl⟩ : ∃ m : Nat, n = m := ⟨n.toNat, by omega⟩
  refine Ret.of_pwp layOk mixed Go.Proofs.Tryz.func99 rfl (by decide) rfl rfl ?_
  repeat (refine stp rfl ?_ ?_;·repeat' constructor)
  (first | refine ps_split rfl rfl (fun h => ?_) (fun h => ?_) | refine pq_split rfl rfl (fun h => ?_) (fun h => ?_) | refine p3_split rfl rfl (fun h => ?_) (fun h => ?_))
  · exact absurd (of_decide_eq_true h) (by omega)
  clear h
  repeat (refine stp rfl ?_ ?_;·repeat' constructor)
  rw [hll]
  refine pw_cond rfl (fun h => ?_) (fun h => ?_)
  · exact absurd (of_decide_eq_true h) (by omega)
  clear h
  repeat (refine stp rfl ?_ ?_;·repeat' constructor)
  rw [hwn]
  apply qst;exact rfl;exact rfl;exact q_idxm rfl rfl rfl rfl rfl (by omega) hen rfl
  repeat (refine stp rfl ?_ ?_;·repeat' constructor)
  refine pw_cond rfl (fun h => ?_) (fun h => ?_)
  · exact absurd h3 (of_decide_eq_false (by simpa only [Bool.not_eq_true'] using h))
  clear h
  repeat (refine stp rfl ?_ ?_;·repeat' constructor)
  apply qst;exact rfl;exact rfl;exact q_callP rfl (hv) rfl (by repeat' constructor) rfl rfl
  repeat (refine stp rfl ?_ ?_;·repeat' constructor)
  rw [hwn]
  apply qst;exact rfl;exact rfl;exact q_idxm rfl rfl rfl rfl rfl (by omega) hen rfl
  repeat (refine stp rfl ?_ ?_;·repeat' constructor)
  apply qst;exact rfl;exact rfl;exact q_callP rfl (ho) rfl (by repeat' constructor) rfl rfl
  repeat (refine stp rfl ?_ ?_;·repeat' constructor)
  apply qst;exact rfl;exact rfl;exact q_callP rfl (hb) rfl (by repeat' constructor) rfl rfl
  repeat (refine stp rfl ?_ ?_;·repeat' constructor)
  rw [hll, show IntKind.wrap .i64 ((l.length : Int) + 1) = (l.length : Int) + 1 from wrap_i64 (by omega) (by omega)]
  apply qst;exact rfl;exact rfl;exact q_callF rfl (hsg) rfl (by repeat' constructor) rfl
  repeat (refine stp rfl ?_ ?_;·repeat' constructor)
  apply qst;exact rfl;exact rfl;exact q_callP rfl (hiv) rfl (by repeat' constructor) rfl rfl
  repeat (refine stp rfl ?_ ?_;·repeat' constructor)
  refine pw_ghost (Ghost.nilcell (k := 200) (k0 := 6) (i := 0) (j := 2) (row := [I (ordNo l p.order), I (itmNo l p.order p.item), .nil, .fsl ((sigF l m l.length).map eI), I (invF l m l.length)]) 3 1 0 rfl rfl rfl rfl rfl rfl rfl) ?_
  repeat (refine stp rfl ?_ ?_;·repeat' constructor)
  generalize ordNo l p.order = rO at *
  generalize itmNo l p.order p.item = rI at *
  generalize invF l m l.length = rV at *
  generalize sigF l m l.length = sg at *
  refine pw_loop (fun j => j ≤ l.length) (fun j => [(0, .sl (l.map ePost)), (1, I m), (4, .ptr 4 1 0 0), (6, .ptr 6 1 0 0), (7, I (j + 1))])
    (fun j => [(4, 1, ⟨98, 5, [[I 0, I 0, .nil, .nil, I 0]], 2⟩), (6, 1, ⟨98, 5, [[I rO, I rI, .als 200 (1 + (amF l m j).length) 0 ((amF l m j).map eI).length, .fsl (sg.map eI), I rV]], 2⟩), (200, 1 + (amF l m j).length, ⟨3, 1, (amF l m j).map eI, 0⟩)]) (fun j => l.length - j) 0 (Nat.zero_le _) ⟨rfl, rfl, rfl, rfl, rfl, rfl, rfl, rfl, trivial⟩ ?_
  intro j s hj
  have hj : j ≤ l.length := hj
  clear ho hb hsg hiv hen hv
  repeat (refine stp rfl ?_ ?_;·repeat' constructor)
  rw [hll]
  refine pw_cond rfl (fun h => ?_) (fun h => ?_)
  · have hlt : j < l.length := by have := of_decide_eq_true h; omega
    clear h
    have hwn1 : PV.int .i64 (IntKind.wrap .i64 ((j : Int) + 1 + 1)) = I (((j + 1 : Nat) : Int) + 1) := by rw [wrap_i64 (by omega) (by omega)]; rfl
    have hwj : IntKind.wrap .i64 ((j : Int) + 1 - 1) = (j : Int) + 1 - 1 := wrap_i64 (by omega) (by omega)
    have he := entL_at (l := l) (n := (j : Int) + 1) (by omega) (by omega)
    have hv := live_ref l hO.wf ((j : Int) + 1).toNat ((j : Int) + 1) (by omega) (by omega) (by omega)
    have hs : amF l m (j + 1) = if ofB l 5 m ((j : Int) + 1) = true then amF l m j ++ [(j : Int) + 1] else amF l m j := rfl
    have hal := amF_len l m j
    rw [ofB] at hs
    generalize entL l ((j : Int) + 1) = x at *
    repeat (refine stp rfl ?_ ?_;·repeat' constructor)
    rw [hwj]
    apply qst;exact rfl;exact rfl;exact q_idxm rfl rfl rfl rfl rfl (by omega) he rfl
    repeat (refine stp rfl ?_ ?_;·repeat' constructor)
    (first | refine ps_split rfl rfl (fun h => ?_) (fun h => ?_) | refine pq_split rfl rfl (fun h => ?_) (fun h => ?_) | refine p3_split rfl rfl (fun h => ?_) (fun h => ?_))
    rotate_left
    · have g1 := of_decide_eq_false h
      rw [decide_eq_false g1, Bool.false_and, Bool.false_and, if_neg (by simp)] at hs
      repeat (refine stp rfl ?_ ?_;·repeat' constructor)
      exact ⟨j + 1, hlt, by omega, rfl, rfl, rfl, rfl, hwn1, rfl, by rw [hs]; rfl, by rw [hs]; rfl, trivial⟩
    have g1 := of_decide_eq_true h
    clear h
    rw [decide_eq_true g1, Bool.true_and] at hs
    repeat (refine stp rfl ?_ ?_;·repeat' constructor)
    rw [hwj]
    apply qst;exact rfl;exact rfl;exact q_idxm rfl rfl rfl rfl rfl (by omega) he rfl
    repeat (refine stp rfl ?_ ?_;·repeat' constructor)
    (first | refine ps_split rfl rfl (fun h => ?_) (fun h => ?_) | refine pq_split rfl rfl (fun h => ?_) (fun h => ?_) | refine p3_split rfl rfl (fun h => ?_) (fun h => ?_))
    rotate_left
    · have g2 := of_decide_eq_false h
      rw [decide_eq_false g2, Bool.false_and, if_neg (by simp)] at hs
      repeat (refine stp rfl ?_ ?_;·repeat' constructor)
      exact ⟨j + 1, hlt, by omega, rfl, rfl, rfl, rfl, hwn1, rfl, by rw [hs]; rfl, by rw [hs]; rfl, trivial⟩
    have g2 := of_decide_eq_true h
    clear h
    rw [decide_eq_true g2, Bool.true_and] at hs
    generalize liveB l ((j : Int) + 1) = lv at *
    repeat (refine stp rfl ?_ ?_;·repeat' constructor)
    apply qst;exact rfl;exact rfl;exact q_callP rfl (hv) rfl (by repeat' constructor) rfl rfl
    cases lv with
    | false =>
      rw [if_neg (by simp)] at hs
      repeat (refine stp rfl ?_ ?_;·repeat' constructor)
      exact ⟨j + 1, hlt, by omega, rfl, rfl, rfl, rfl, hwn1, rfl, by rw [hs]; rfl, by rw [hs]; rfl, trivial⟩
    | true =>
      rw [if_pos rfl] at hs
      repeat (refine stp rfl ?_ ?_;·repeat' constructor)
      apply qst;exact rfl;exact rfl;exact q_slit rfl rfl rfl rfl rfl rfl rfl rfl rfl rfl (by repeat' constructor) rfl
      repeat (refine stp rfl ?_ ?_;·repeat' constructor)
      refine ps_run (o_app 0 rfl rfl rfl rfl rfl rfl rfl rfl rfl rfl rfl (by repeat' constructor) (by intro row hr; first | (simp at hr; subst hr; rfl) | simp at hr) rfl rfl (by simp; omega) (by simp; omega) ?_)
      repeat (refine stp rfl ?_ ?_;·repeat' constructor)
      refine ⟨j + 1, hlt, by omega, rfl, rfl, rfl, rfl, hwn1, rfl, ?_, ?_, trivial⟩
      · rw [hs]
        refine Eq.trans (b := (1, some (Cont.mk 98 5 [[I rO, I rI, .als 200 (1 + (amF l m j).length + 1) 0 ((amF l m j).map eI ++ [eI ((j : Int) + 1)]).length, .fsl (sg.map eI), I rV]] 2))) rfl ?_
        rw [als_snoc eI 200 1 (amF l m j) ((j : Int) + 1)]
      · rw [hs]; exact cont_snoc eI 1 3 1 0 _ _
  · have hz : j = l.length := by have := of_decide_eq_false h; omega
    subst hz
    repeat (refine stp rfl ?_ ?_;·repeat' constructor)
    exact endc2f rfl rfl (by repeat' constructor) rfl rfl (by repeat' constructor) rfl
end Go.Pv

/- The laws' helpers: long, many, loaded, lists of numbers. -/
set_option maxHeartbeats 2000000
namespace Go.Pv
attribute [local irreducible] PWP POps PQuiet PSem XThen XBlock RetPost InlPost
open Go.Proofs

def longB (p : SPost) : Bool := decide (40 < (p.order.length : Int)) || decide (40 < (p.item.length : Int)) || decide (40 < (p.ship.length : Int)) || decide (40 < (p.who.length : Int))
theorem long_ret (p : SPost) : Ret Tryz.prog .shared 10 [.agg (ePost p)] (.bool (longB p)) := by
  rw [longB]
  generalize h1 : decide (40 < (p.order.length : Int)) = b1
  generalize h2 : decide (40 < (p.item.length : Int)) = b2
  generalize h3 : decide (40 < (p.ship.length : Int)) = b3
  generalize h4 : decide (40 < (p.who.length : Int)) = b4
  refine Ret.of_pwp layOk mixed Go.Proofs.Tryz.func10 rfl (by decide) rfl rfl ?_
  repeat (refine stp rfl ?_ ?_;·repeat' constructor)
  rw [h1]
  cases b1 with
  | true =>
    repeat (refine stp rfl ?_ ?_;·repeat' constructor)
    exact end1b rfl rfl rfl
  | false =>
  repeat (refine stp rfl ?_ ?_;·repeat' constructor)
  rw [h2]
  cases b2 with
  | true =>
    repeat (refine stp rfl ?_ ?_;·repeat' constructor)
    exact end1b rfl rfl rfl
  | false =>
  repeat (refine stp rfl ?_ ?_;·repeat' constructor)
  rw [h3]
  cases b3 with
  | true =>
    repeat (refine stp rfl ?_ ?_;·repeat' constructor)
    exact end1b rfl rfl rfl
  | false =>
  repeat (refine stp rfl ?_ ?_;·repeat' constructor)
  rw [h4]
  cases b4 with
  | true =>
    repeat (refine stp rfl ?_ ?_;·repeat' constructor)
    exact end1b rfl rfl rfl
  | false =>
    repeat (refine stp rfl ?_ ?_;·repeat' constructor)
    exact end1b rfl rfl rfl
def manyB (l : List SPost) : Bool := decide (40 < l.length) || l.any longB
theorem many_ret (l : List SPost) : Ret Tryz.prog .shared 19 [.sl (l.map ePost)] (.bool (manyB l)) := by
  have hll : ((l.map ePost).length : Int) = l.length := by simp
  rw [manyB]
  refine Ret.of_pwp layOk mixed Go.Proofs.Tryz.func19 rfl (by decide) rfl rfl ?_
  repeat (refine stp rfl ?_ ?_;·repeat' constructor)
  rw [hll]
  refine pw_cond rfl (fun h => ?_) (fun h => ?_)
  · have := of_decide_eq_true h
    repeat (refine stp rfl ?_ ?_;·repeat' constructor)
    exact end1b rfl rfl (by rw [decide_eq_true (by omega)]; rfl)
  have h40 := of_decide_eq_false h
  clear h
  rw [decide_eq_false (show ¬ 40 < l.length by omega), Bool.false_or]
  repeat (refine stp rfl ?_ ?_;·repeat' constructor)
  refine pw_loop (Clear l longB) (fun k => [(0, .sl (l.map ePost)), (3, I k)]) (fun _ => []) (fun k => l.length - k) 0 .zero ⟨rfl, rfl, trivial⟩ ?_
  intro k s hk
  repeat (refine stp rfl ?_ ?_;·repeat' constructor)
  rw [hll]
  refine pw_cond rfl (fun h => ?_) (fun h => ?_)
  · have hlt : k < l.length := by have := of_decide_eq_true h; omega
    clear h
    obtain ⟨x, hx⟩ := get_lt hlt
    have hc := long_ret x
    generalize hb : longB x = b at hc
    repeat (refine stp rfl ?_ ?_;·repeat' constructor)
    apply qst;exact rfl;exact rfl;exact q_idxm rfl rfl rfl rfl rfl (by omega) hx rfl
    repeat (refine stp rfl ?_ ?_;·repeat' constructor)
    apply qst;exact rfl;exact rfl;exact q_callP rfl (hc) rfl (by repeat' constructor) rfl rfl
    cases b with
    | true =>
      repeat (refine stp rfl ?_ ?_;·repeat' constructor)
      exact end1b rfl rfl (by rw [any_of hx hb])
    | false =>
      repeat (refine stp rfl ?_ ?_;·repeat' constructor)
      refine ⟨k + 1, hk.succ hx hb, by omega, rfl, ?_, trivial⟩
      exact i64_next (by omega) (by omega)
  · have hf : ¬ k < l.length := by have := of_decide_eq_false h; omega
    repeat (refine stp rfl ?_ ?_;·repeat' constructor)
    exact end1b rfl rfl (by rw [hk.any hf])
def accR : List SPost → List SPost → List SPost
  | m, [] => m
  | m, p :: l => if refusalR m p = 0 then accR (m ++ [cleanP p]) l else accR m l
theorem accR_acc : ∀ {l m : List SPost}, Acc m → Acc (accR m l)
  | [], m, h => h
  | p :: l, m, h => by
    rw [accR]
    split
    · rename_i hr; exact accR_acc (h.snoc hr)
    · exact accR_acc h
theorem accR_len : ∀ (l m : List SPost), (accR m l).length ≤ m.length + l.length
  | [], m => by simp [accR]
  | p :: l, m => by
    rw [accR]
    split
    · have := accR_len l (m ++ [cleanP p]); simp at this ⊢; omega
    · have := accR_len l m; simp at this ⊢; omega
theorem accR_snoc : ∀ (l m : List SPost) (p : SPost), accR m (l ++ [p]) = if refusalR (accR m l) p = 0 then accR m l ++ [cleanP p] else accR m l
  | [], m, p => rfl
  | q :: l, m, p => by
    rw [List.cons_append, accR, accR]
    split <;> exact accR_snoc l _ p
end Go.Pv

/- Settings: values, and their check (program and reference). -/
set_option maxHeartbeats 2000000
namespace Go.Pv
attribute [local irreducible] PWP POps PQuiet PSem XThen XBlock RetPost InlPost
open Go.Proofs

section
variable {P : Program} {L : Lay} {s : St} {T T' : TypeId} {d : Nat} {x y : Operand} {ty : TypeId} {pos : String} {af : Array Edge} {g : Option (Nat × Bool)}
def leS (a b : Str) : Bool := Op.bytesLess a b || (a == b)
theorem q_leS [Globs] {a b : Str} (hx : s.ev x = .str a) (hy : s.ev y = .str b) : QOp P L s ⟨some d, .binOp .leq T x y T', ty, pos, af, g⟩ (.bool (leS a b)) := by
  refine .semF (v := .bool (leS a b)) (by simp [Op.operands]) (fun z hz => ?_) (fun ev w _ he => ?_) fun _ _ => .bool _
  · simp [Op.operands] at hz
    rcases hz with rfl | rfl
    · rw [hx]; exact ⟨_, rfl⟩
    · rw [hy]; exact ⟨_, rfl⟩
  · have e1 := he x (by simp [Op.operands])
    have e2 := he y (by simp [Op.operands])
    rw [hx] at e1
    rw [hy] at e2
    have e1 : ev x = .string ⟨a.toArray⟩ := (Option.some.inj e1).symm
    have e2 : ev y = .string ⟨b.toArray⟩ := (Option.some.inj e2).symm
    simp only [execOp, e1, e2]
    refine wrapW ?_
    have hg : eqGuard .leq T x y (.string ⟨a.toArray⟩) (.string ⟨b.toArray⟩) = pure () := rfl
    rw [hg]
    have t1 : (⟨a.toArray⟩ : ByteArray).toList = a := by rw [Lib.toList_data]
    have t2 : (⟨b.toArray⟩ : ByteArray).toList = b := by rw [Lib.toList_data]
    simp only [Sem.run_bind, Sem.run_pure, Result.andThen_ok, binOp, Op.stringOp, t1, t2]
    rfl
end
structure SSet where
  key : Str
  value : Str
  deriving DecidableEq, Inhabited
def eSet (x : SSet) : List PV := [.str x.key, .str x.value]
def badV (c : UInt8) : Bool := decide ((c.toNat : Int) < 32) || decide (126 < (c.toNat : Int))
def valB (s : Str) : Bool := decide ((s.length : Int) ≤ 60) && !s.any badV
def eC (c : UInt8) : List PV := [.int .u8 c.toNat]
theorem badV_ret (c : UInt8) : Ret Tryz.prog .shared 135 [.int .u8 c.toNat] (.bool (badV c)) := by
  rw [badV]
  generalize h1 : decide ((c.toNat : Int) < 32) = b1
  generalize h2 : decide (126 < (c.toNat : Int)) = b2
  refine Ret.of_pwp layOk mixed Go.Proofs.Tryz.func135 rfl (by decide) rfl rfl ?_
  repeat (refine stp rfl ?_ ?_;·repeat' constructor)
  rw [h1]
  cases b1 with
  | true =>
    repeat (refine stp rfl ?_ ?_;·repeat' constructor)
    exact end1b rfl rfl rfl
  | false =>
    repeat (refine stp rfl ?_ ?_;·repeat' constructor)
    rw [h2]
    repeat (refine stp rfl ?_ ?_;·repeat' constructor)
    exact end1b rfl rfl rfl
theorem idxV_ret (s : Str) (hs : s.length ≤ 1000000) : Ret Tryz.prog .shared 169 [.sl (s.map eC), .clo 135 []] (I (idx s badV)) := by
  have hll : ((s.map eC).length : Int) = s.length := by simp
  refine Ret.of_pwp layOk mixed Go.Proofs.Tryz.func169 rfl (by decide) rfl rfl ?_
  repeat (refine stp rfl ?_ ?_;·repeat' constructor)
  refine pw_loop (Clear s badV) (fun k => [(0, .sl (s.map eC)), (1, .clo 135 []), (7, I (s.map eC).length), (8, I k)]) (fun _ => []) (fun k => s.length - k) 0 .zero ⟨rfl, rfl, rfl, rfl, trivial⟩ ?_
  intro k st hk
  repeat (refine stp rfl ?_ ?_;·repeat' constructor)
  refine pw_cond rfl (fun h => ?_) (fun h => ?_)
  · have hlt : k < s.length := by have := of_decide_eq_true h; omega
    clear h
    obtain ⟨x, hx⟩ := get_lt hlt
    have hc := badV_ret x
    generalize hb : badV x = b at hc
    repeat (refine stp rfl ?_ ?_;·repeat' constructor)
    apply qst;exact rfl;exact rfl;exact q_idxm rfl rfl rfl rfl rfl (by omega) hx rfl
    repeat (refine stp rfl ?_ ?_;·repeat' constructor)
    apply qst;exact rfl;exact rfl;exact q_callP rfl (hc) rfl (by repeat' constructor) rfl rfl
    cases b with
    | true =>
      repeat (refine stp rfl ?_ ?_;·repeat' constructor)
      exact end1i rfl rfl (by rw [hk.found hx hb])
    | false =>
      repeat (refine stp rfl ?_ ?_;·repeat' constructor)
      exact ⟨k + 1, hk.succ hx hb, by omega, rfl, rfl, rfl, i64_next (by omega) (by omega), trivial⟩
  · repeat (refine stp rfl ?_ ?_;·repeat' constructor)
    exact end1i rfl rfl (by rw [hk.none (by have := of_decide_eq_false h; omega)])
theorem anyV_ret (s : Str) (hs : s.length ≤ 1000000) : Ret Tryz.prog .shared 134 [.sl (s.map eC), .clo 135 []] (.bool (s.any badV)) := by
  have h := idxV_ret s hs
  refine Ret.of_pwp layOk mixed Go.Proofs.Tryz.func134 rfl (by decide) rfl rfl ?_
  repeat (refine stp rfl ?_ ?_;·repeat' constructor)
  apply qst;exact rfl;exact rfl;exact q_callP rfl (h) rfl (by repeat' constructor) rfl rfl
  repeat (refine stp rfl ?_ ?_;·repeat' constructor)
  exact end1b rfl rfl (by rw [← idx_nonneg])
theorem isValue_ret (s : Str) (hs : s.length ≤ 1000000) : Ret Tryz.prog .shared 86 [.str s] (.bool (valB s)) := by
  have h := anyV_ret s hs
  rw [valB]
  generalize hb : decide ((s.length : Int) ≤ 60) = b
  refine Ret.of_pwp layOk mixed Go.Proofs.Tryz.func86 rfl (by decide) rfl rfl ?_
  repeat (refine stp rfl ?_ ?_;·repeat' constructor)
  rw [hb]
  cases b with
  | false =>
    repeat (refine stp rfl ?_ ?_;·repeat' constructor)
    exact end1b rfl rfl rfl
  | true =>
    repeat (refine stp rfl ?_ ?_;·repeat' constructor)
    apply qst;exact rfl;exact rfl;exact q_s2b rfl rfl rfl rfl rfl rfl
    repeat (refine stp rfl ?_ ?_;·repeat' constructor)
    apply qst;exact rfl;exact rfl;exact q_callP rfl (h) rfl (by repeat' constructor) rfl rfl
    repeat (refine stp rfl ?_ ?_;·repeat' constructor)
    exact end1b rfl rfl rfl
theorem value_ref (s : Str) (hs : s.length ≤ 1000000) : Ret Tryz.prog .shared 85 [.str s] (.bool (valB s)) := by
  refine Ret.of_pwp layOk mixed Go.Proofs.Tryz.func85 rfl (by decide) rfl rfl ?_
  repeat (refine stp rfl ?_ ?_;·repeat' constructor)
  refine pw_loop (Clear s badV) (fun k => [(0, .str s), (3, I k)]) (fun _ => []) (fun k => s.length - k) 0 .zero ⟨rfl, rfl, trivial⟩ ?_
  intro k st hk
  repeat (refine stp rfl ?_ ?_;·repeat' constructor)
  refine pw_cond rfl (fun h => ?_) (fun h => ?_)
  · have hlt : k < s.length := by have := of_decide_eq_true h; omega
    clear h
    obtain ⟨c, hx⟩ := get_lt hlt
    have hci : s.getD ((k : Int).toNat) 0 = c := by rw [Int.toNat_natCast, List.getD_eq_getElem?_getD, hx]; rfl
    repeat (refine stp rfl ?_ ?_;·repeat' constructor)
    apply qst;exact rfl;exact rfl;exact QOp.v rfl (show 0 ≤ (k : Int) ∧ (k : Int) < (s.length : Nat) by omega)
    rw [hci]
    repeat (refine stp rfl ?_ ?_;·repeat' constructor)
    (first | refine ps_split rfl rfl (fun h => ?_) (fun h => ?_) | refine pq_split rfl rfl (fun h => ?_) (fun h => ?_) | refine p3_split rfl rfl (fun h => ?_) (fun h => ?_))
    · have hb : badV c = true := by rw [badV, h]; rfl
      clear h
      repeat (refine stp rfl ?_ ?_;·repeat' constructor)
      exact end1b rfl rfl (by rw [valB, any_of hx hb, Bool.not_true, Bool.and_false])
    · have h1 := h
      clear h
      repeat (refine stp rfl ?_ ?_;·repeat' constructor)
      apply qst;exact rfl;exact rfl;exact QOp.v rfl (show 0 ≤ (k : Int) ∧ (k : Int) < (s.length : Nat) by omega)
      rw [hci]
      repeat (refine stp rfl ?_ ?_;·repeat' constructor)
      refine pw_cond rfl (fun h => ?_) (fun h => ?_)
      · have hb : badV c = true := by rw [badV, h1, h]; rfl
        clear h
        repeat (refine stp rfl ?_ ?_;·repeat' constructor)
        exact end1b rfl rfl (by rw [valB, any_of hx hb, Bool.not_true, Bool.and_false])
      · have hb : badV c = false := by rw [badV, h1, h]; rfl
        clear h
        repeat (refine stp rfl ?_ ?_;·repeat' constructor)
        exact ⟨k + 1, hk.succ hx hb, by omega, rfl, i64_next (by omega) (by omega), trivial⟩
  · have hz : ¬ k < s.length := by have := of_decide_eq_false h; omega
    clear h
    have hn := hk.none hz
    have hany : s.any badV = false := by
      cases ha : s.any badV with
      | false => rfl
      | true =>
        rw [← idx_nonneg, hn] at ha
        simp at ha
    repeat (refine stp rfl ?_ ?_;·repeat' constructor)
    exact end1b rfl rfl (by rw [valB, hany, Bool.not_false, Bool.and_true])
def setE (l : List SSet) (i : Nat) (x : SSet) : Int := if isName x.key = false then 4 else if valB x.value = false then 3 else if 0 < i ∧ leS x.key (l.getD (i - 1) default).key = true then 10 else 0
def setsE (l : List SSet) : Int := if 60 < l.length then 8 else fstE l (setE l)
set_option maxRecDepth 20000 in
theorem checkSets_ref (l : List SSet) (hl : l.length ≤ 1000000) (hv : ∀ x, x ∈ l → x.value.length ≤ 1000000) : Ret Tryz.prog .shared 33 [.sl (l.map eSet)] (I (setsE l)) := by
  have hll : ((l.map eSet).length : Int) = l.length := by simp
  rw [setsE]
  refine Ret.of_pwp layOk mixed Go.Proofs.Tryz.func33 rfl (by decide) rfl rfl ?_
  repeat (refine stp rfl ?_ ?_;·repeat' constructor)
  rw [hll]
  refine pw_cond rfl (fun h => ?_) (fun h => ?_)
  · have := of_decide_eq_true h
    repeat (refine stp rfl ?_ ?_;·repeat' constructor)
    exact end1i rfl rfl (by rw [if_pos (by omega)])
  have h60 := of_decide_eq_false h
  clear h
  rw [if_neg (by omega)]
  repeat (refine stp rfl ?_ ?_;·repeat' constructor)
  refine pw_loop (ClearE l (setE l)) (fun k => [(0, .sl (l.map eSet)), (3, I k)]) (fun _ => []) (fun k => l.length - k) 0 .zero' ⟨rfl, rfl, trivial⟩ ?_
  intro k st hk
  repeat (refine stp rfl ?_ ?_;·repeat' constructor)
  rw [hll]
  refine pw_cond rfl (fun h => ?_) (fun h => ?_)
  · have hlt : k < l.length := by have := of_decide_eq_true h; omega
    clear h
    obtain ⟨x, hx⟩ := get_lt hlt
    have hn := isName_ref x.key
    have hva := value_ref x.value (hv x (List.mem_of_getElem? hx))
    repeat (refine stp rfl ?_ ?_;·repeat' constructor)
    apply qst;exact rfl;exact rfl;exact q_idxm rfl rfl rfl rfl rfl (by omega) hx rfl
    repeat (refine stp rfl ?_ ?_;·repeat' constructor)
    apply qst;exact rfl;exact rfl;exact q_callP rfl (hn) rfl (by repeat' constructor) rfl rfl
    cases hnm : isName x.key with
    | false =>
      repeat (refine stp rfl ?_ ?_;·repeat' constructor)
      have he : setE l k x = 4 := by rw [setE, if_pos hnm]
      exact end1i rfl rfl (by rw [hk.found hx he (by decide)])
    | true =>
    repeat (refine stp rfl ?_ ?_;·repeat' constructor)
    apply qst;exact rfl;exact rfl;exact q_idxm rfl rfl rfl rfl rfl (by omega) hx rfl
    repeat (refine stp rfl ?_ ?_;·repeat' constructor)
    apply qst;exact rfl;exact rfl;exact q_callP rfl (hva) rfl (by repeat' constructor) rfl rfl
    cases hvl : valB x.value with
    | false =>
      repeat (refine stp rfl ?_ ?_;·repeat' constructor)
      have he : setE l k x = 3 := by rw [setE, if_neg (by simp [hnm]), if_pos hvl]
      exact end1i rfl rfl (by rw [hk.found hx he (by decide)])
    | true =>
    have hse : setE l k x = if 0 < k ∧ leS x.key (l.getD (k - 1) default).key = true then 10 else 0 := by rw [setE, if_neg (by simp [hnm]), if_neg (by simp [hvl])]
    repeat (refine stp rfl ?_ ?_;·repeat' constructor)
    refine pw_draw 16 [27, 28, 29, 30, 31, 32, 33, 34, 35, 36, 37, 38, 39, 40, 41, 42] (by decide +kernel) ?_
    repeat (refine stp rfl ?_ ?_;·repeat' constructor)
    (first | refine ps_split rfl rfl (fun h => ?_) (fun h => ?_) | refine pq_split rfl rfl (fun h => ?_) (fun h => ?_) | refine p3_split rfl rfl (fun h => ?_) (fun h => ?_))
    · have hk0 : 0 < k := by have := of_decide_eq_true h; omega
      clear h
      have hp : l[k - 1]? = some (l.getD (k - 1) default) := by rw [List.getD_eq_getElem?_getD, List.getElem?_eq_getElem (by omega)]; rfl
      have hw : IntKind.wrap .i64 ((k : Int) - 1) = ((k - 1 : Nat) : Int) := by rw [wrap_i64 (by omega) (by omega)]; omega
      generalize l.getD (k - 1) default = y at *
      repeat (refine stp rfl ?_ ?_;·repeat' constructor)
      apply qst;exact rfl;exact rfl;exact q_idxm rfl rfl rfl rfl rfl (by omega) hx rfl
      repeat (refine stp rfl ?_ ?_;·repeat' constructor)
      rw [hw]
      apply qst;exact rfl;exact rfl;exact q_idxm (n := (((k - 1 : Nat) : Int) : Int)) rfl rfl rfl rfl rfl (by omega) hp rfl
      repeat (refine stp rfl ?_ ?_;·repeat' constructor)
      apply qst;exact rfl;exact rfl;exact q_leS rfl rfl
      repeat (refine stp rfl ?_ ?_;·repeat' constructor)
      refine pw_cond rfl (fun h => ?_) (fun h => ?_)
      · have he : setE l k x = 10 := by rw [hse, if_pos ⟨hk0, h⟩]
        clear h
        repeat (refine stp rfl ?_ ?_;·repeat' constructor)
        exact end1i rfl rfl (by rw [hk.found hx he (by decide)])
      · have he : setE l k x = 0 := by rw [hse, if_neg (fun e => by rw [h] at e; exact absurd e.2 (by simp))]
        clear h
        repeat (refine stp rfl ?_ ?_;·repeat' constructor)
        exact ⟨k + 1, hk.succ hx he, by omega, rfl, i64_next (by omega) (by omega), trivial⟩
    · have hk0 : ¬ 0 < k := by have := of_decide_eq_false h; omega
      clear h
      have he : setE l k x = 0 := by rw [hse, if_neg (fun e => hk0 e.1)]
      repeat (refine stp rfl ?_ ?_;·repeat' constructor)
      exact ⟨k + 1, hk.succ hx he, by omega, rfl, i64_next (by omega) (by omega), trivial⟩
  · repeat (refine stp rfl ?_ ?_;·repeat' constructor)
    exact end1i rfl rfl (by rw [hk.none (by have := of_decide_eq_false h; omega)])
set_option maxRecDepth 20000 in
theorem checkSets_ret (l : List SSet) (hl : l.length ≤ 1000000) (hv : ∀ x, x ∈ l → x.value.length ≤ 1000000) : Ret Tryz.prog .shared 40 [.sl (l.map eSet)] (I (setsE l)) := by
  have hll : ((l.map eSet).length : Int) = l.length := by simp
  rw [setsE]
  refine Ret.of_pwp layOk mixed Go.Proofs.Tryz.func40 rfl (by decide) rfl rfl ?_
  repeat (refine stp rfl ?_ ?_;·repeat' constructor)
  rw [hll]
  refine pw_cond rfl (fun h => ?_) (fun h => ?_)
  · have := of_decide_eq_true h
    repeat (refine stp rfl ?_ ?_;·repeat' constructor)
    exact end1i rfl rfl (by rw [if_pos (by omega)])
  have h60 := of_decide_eq_false h
  clear h
  rw [if_neg (by omega)]
  repeat (refine stp rfl ?_ ?_;·repeat' constructor)
  rw [hll]
  refine pw_loop (ClearE l (setE l)) (fun k => [(0, .sl (l.map eSet)), (8, .sl (l.map eSet)), (9, I l.length), (10, I k)]) (fun _ => []) (fun k => l.length - k) 0 .zero' ⟨rfl, rfl, rfl, rfl, trivial⟩ ?_
  intro k st hk
  repeat (refine stp rfl ?_ ?_;·repeat' constructor)
  refine pw_cond rfl (fun h => ?_) (fun h => ?_)
  · have hlt : k < l.length := by have := of_decide_eq_true h; omega
    clear h
    obtain ⟨x, hx⟩ := get_lt hlt
    have hn := isName_ret x.key
    have hva := isValue_ret x.value (hv x (List.mem_of_getElem? hx))
    repeat (refine stp rfl ?_ ?_;·repeat' constructor)
    apply qst;exact rfl;exact rfl;exact q_idxm rfl rfl rfl rfl rfl (by omega) hx rfl
    repeat (refine stp rfl ?_ ?_;·repeat' constructor)
    apply qst;exact rfl;exact rfl;exact q_callP rfl (hn) rfl (by repeat' constructor) rfl rfl
    cases hnm : isName x.key with
    | false =>
      repeat (refine stp rfl ?_ ?_;·repeat' constructor)
      have he : setE l k x = 4 := by rw [setE, if_pos hnm]
      exact end1i rfl rfl (by rw [hk.found hx he (by decide)])
    | true =>
    repeat (refine stp rfl ?_ ?_;·repeat' constructor)
    apply qst;exact rfl;exact rfl;exact q_callP rfl (hva) rfl (by repeat' constructor) rfl rfl
    cases hvl : valB x.value with
    | false =>
      repeat (refine stp rfl ?_ ?_;·repeat' constructor)
      have he : setE l k x = 3 := by rw [setE, if_neg (by simp [hnm]), if_pos hvl]
      exact end1i rfl rfl (by rw [hk.found hx he (by decide)])
    | true =>
    have hse : setE l k x = if 0 < k ∧ leS x.key (l.getD (k - 1) default).key = true then 10 else 0 := by rw [setE, if_neg (by simp [hnm]), if_neg (by simp [hvl])]
    repeat (refine stp rfl ?_ ?_;·repeat' constructor)
    refine pw_draw 14 [26, 27, 28, 29, 30, 31, 32, 33, 34, 35, 36, 37, 38, 25] (by decide +kernel) ?_
    repeat (refine stp rfl ?_ ?_;·repeat' constructor)
    (first | refine ps_split rfl rfl (fun h => ?_) (fun h => ?_) | refine pq_split rfl rfl (fun h => ?_) (fun h => ?_) | refine p3_split rfl rfl (fun h => ?_) (fun h => ?_))
    · have hk0 : 0 < k := by have := of_decide_eq_true h; omega
      clear h
      have hp : l[k - 1]? = some (l.getD (k - 1) default) := by rw [List.getD_eq_getElem?_getD, List.getElem?_eq_getElem (by omega)]; rfl
      have hw : IntKind.wrap .i64 ((k : Int) - 1) = ((k - 1 : Nat) : Int) := by rw [wrap_i64 (by omega) (by omega)]; omega
      generalize l.getD (k - 1) default = y at *
      repeat (refine stp rfl ?_ ?_;·repeat' constructor)
      rw [hw]
      apply qst;exact rfl;exact rfl;exact q_idxm (n := (((k - 1 : Nat) : Int) : Int)) rfl rfl rfl rfl rfl (by omega) hp rfl
      repeat (refine stp rfl ?_ ?_;·repeat' constructor)
      apply qst;exact rfl;exact rfl;exact q_leS rfl rfl
      repeat (refine stp rfl ?_ ?_;·repeat' constructor)
      refine pw_cond rfl (fun h => ?_) (fun h => ?_)
      · have he : setE l k x = 10 := by rw [hse, if_pos ⟨hk0, h⟩]
        clear h
        repeat (refine stp rfl ?_ ?_;·repeat' constructor)
        exact end1i rfl rfl (by rw [hk.found hx he (by decide)])
      · have he : setE l k x = 0 := by rw [hse, if_neg (fun e => by rw [h] at e; exact absurd e.2 (by simp))]
        clear h
        repeat (refine stp rfl ?_ ?_;·repeat' constructor)
        exact ⟨k + 1, hk.succ hx he, by omega, rfl, rfl, rfl, i64_next (by omega) (by omega), trivial⟩
    · have hk0 : ¬ 0 < k := by have := of_decide_eq_false h; omega
      clear h
      have he : setE l k x = 0 := by rw [hse, if_neg (fun e => hk0 e.1)]
      repeat (refine stp rfl ?_ ?_;·repeat' constructor)
      exact ⟨k + 1, hk.succ hx he, by omega, rfl, rfl, rfl, i64_next (by omega) (by omega), trivial⟩
  · repeat (refine stp rfl ?_ ?_;·repeat' constructor)
    exact end1i rfl rfl (by rw [hk.none (by have := of_decide_eq_false h; omega)])
end Go.Pv

/- What was accepted is accepted again; the book that the laws look at. -/
set_option maxHeartbeats 2000000
namespace Go.Pv
attribute [local irreducible] PWP POps PQuiet PSem XThen XBlock RetPost InlPost
open Go.Proofs

theorem clean_again {p : SPost} (h : inside p.op 0 8 = true) : cleanP (cleanP p) = cleanP p ∧ checkE (cleanP p) = checkE p ∧ ∀ l, refE l (cleanP p) = refE l p := by
  obtain ⟨op, day, o, i, s, w, a, r, ro⟩ := p
  rcases op_cases h with rfl | rfl | rfl | rfl | rfl | rfl | rfl | rfl | rfl <;> exact ⟨rfl, rfl, fun l => rfl⟩
theorem refusal_again {l : List SPost} {p : SPost} (h : refusalR l p = 0) : refusalR l (cleanP p) = 0 := by
  have h1 := refusalR_zero h
  obtain ⟨_, e2, e3⟩ := clean_again (checkE_op h1.1).1
  rw [refusalR, e2, (clean_op p).2, e3]
  rw [refusalR] at h
  exact h
theorem Acc.at_ {l : List SPost} (h : Acc l) : ∀ (j : Nat) p, l[j]? = some p → refusalR (l.take j) p = 0 ∧ cleanP p = p := by
  induction h with
  | nil => intro j p h; simp at h
  | snoc hl hr ih =>
    rename_i l q
    intro j p hp
    rcases snoc_get hp with ⟨hj, hp⟩ | ⟨rfl, rfl⟩
    · have := ih j p hp
      rw [List.take_append_of_le_length (by omega)]
      exact this
    · rw [List.take_left']
      · exact ⟨refusal_again hr, (clean_again (checkE_op (refusalR_zero hr).1).1).1⟩
      · rfl
theorem Acc.lod {l : List SPost} (h : Acc l) : lodN l = l.length ∧ lodE l = 0 ∧ lodL l = l := by
  have ht : ∀ j, (l.take j).map cleanP = l.take j := fun j => by
    have : ∀ (m : List SPost), (∀ p, p ∈ m → cleanP p = p) → m.map cleanP = m := fun m hm => by
      induction m with
      | nil => rfl
      | cons a m ih => rw [List.map_cons, hm a (by simp), ih fun p hp => hm p (by simp [hp])]
    refine this _ fun p hp => ?_
    obtain ⟨i, hi, rfl⟩ := List.getElem_of_mem (List.mem_of_mem_take hp)
    exact (h.at_ i _ (List.getElem?_eq_getElem hi)).2
  have hf : ∀ (j : Nat) b, l[j]? = some b → lodF l j b = 0 := fun j b hb => by
    rw [lodF, ht]; exact (h.at_ j b hb).1
  have h1 : lodN l = l.length := fstN_none hf
  refine ⟨h1, fstE_none hf, ?_⟩
  rw [lodL, h1, ht, List.take_length]
set_option maxRecDepth 20000 in
theorem loaded_ret (l : List SPost) (hl : l.length ≤ 400) : Ret Tryz.prog .shared 20 [.sl (l.map ePost)] (.tup [.dref (eBook (accR [] l)) 0, .sl ((accR [] l).map ePost)]) := by
  have hll : ((l.map ePost).length : Int) = l.length := by simp
  refine Ret.of_pwp layOk mixed Go.Proofs.Tryz.func20 rfl (by decide) rfl rfl ?_
  ((repeat (first | refine ps_nil ?_ | refine pq_nil ?_ | refine x_norm ?_ | refine pw_seq ?_)); refine pw_region ?_)
  refine ps_v rfl trivial ?_
  refine ps_v rfl trivial ?_
  ((repeat (first | refine ps_nil ?_ | refine pq_nil ?_ | refine x_norm ?_ | refine pw_seq ?_)); refine pw_region ?_)
  refine ps_v rfl trivial ?_
  refine ps_nil ?_
  refine x_norm ?_
  refine pw_ghost (Ghost.nilreg (k := 4) (t := 4) 23 9 0 rfl rfl) ?_
  repeat (refine stp rfl ?_ ?_;·repeat' constructor)
  refine pw_loop (fun k => k ≤ l.length) (fun k => [(0, .sl (l.map ePost)), (4, .als 4 (1 + (accR [] (l.take k)).length) 0 ((accR [] (l.take k)).map ePost).length), (5, I k)]) (fun k => [(4, 1 + (accR [] (l.take k)).length, ⟨23, 9, (accR [] (l.take k)).map ePost, 0⟩)]) (fun k => l.length - k) 0 (Nat.zero_le _) ⟨rfl, rfl, rfl, rfl, trivial⟩ ?_
  intro k s hk
  have hk : k ≤ l.length := hk
  repeat (refine stp rfl ?_ ?_;·repeat' constructor)
  rw [hll]
  refine pw_cond rfl (fun h => ?_) (fun h => ?_)
  · have hlt : k < l.length := by have := of_decide_eq_true h; omega
    clear h
    obtain ⟨x, hx⟩ := get_lt hlt
    have hs := accR_snoc (l.take k) [] x
    rw [← take_snoc hx] at hs
    have hacc := (accR_acc (l := l.take k) Acc.nil).ok.wf
    have hr := refusal_ref (accR [] (l.take k)) hacc x
    have hal : (accR [] (l.take k)).length ≤ 400 := hacc.len
    generalize accR [] (l.take k) = m at *
    repeat (refine stp rfl ?_ ?_;·repeat' constructor)
    apply qst;exact rfl;exact rfl;exact q_idxm rfl rfl rfl rfl rfl (by omega) hx rfl
    repeat (refine stp rfl ?_ ?_;·repeat' constructor)
    apply qst;exact rfl;exact rfl;exact q_callP rfl (hr) rfl (by repeat' constructor) rfl rfl
    repeat (refine stp rfl ?_ ?_;·repeat' constructor)
    refine pw_cond rfl (fun h => ?_) (fun h => ?_)
    · have h0 := of_decide_eq_true h
      have hc := clean_ref x (checkE_op (refusalR_zero h0).1).1
      rw [if_pos h0] at hs
      repeat (refine stp rfl ?_ ?_;·repeat' constructor)
      apply qst;exact rfl;exact rfl;exact q_idxm rfl rfl rfl rfl rfl (by omega) hx rfl
      repeat (refine stp rfl ?_ ?_;·repeat' constructor)
      apply qst;exact rfl;exact rfl;exact q_call rfl (hc) rfl (by repeat' constructor) rfl
      repeat (refine stp rfl ?_ ?_;·repeat' constructor)
      apply qst;exact rfl;exact rfl;exact q_slit rfl rfl rfl rfl rfl rfl rfl rfl rfl rfl (by repeat' constructor) rfl
      repeat (refine stp rfl ?_ ?_;·repeat' constructor)
      refine ps_run (o_app 0 rfl rfl rfl rfl rfl rfl rfl rfl rfl rfl rfl (by repeat' constructor) (by intro row hr; first | (simp at hr; subst hr; rfl) | simp at hr) rfl rfl (by simp; omega) (by simp; omega) ?_)
      repeat (refine stp rfl ?_ ?_;·repeat' constructor)
      refine ⟨k + 1, hlt, by omega, rfl, ?_, i64_next (by omega) (by omega), ?_, trivial⟩
      · rw [hs]; exact als_snoc ePost 4 1 m (cleanP x)
      · rw [hs]; exact cont_snoc ePost 1 23 9 0 m (cleanP x)
    · have h0 := of_decide_eq_false h
      rw [if_neg h0] at hs
      repeat (refine stp rfl ?_ ?_;·repeat' constructor)
      exact ⟨k + 1, hlt, by omega, rfl, by rw [hs]; rfl, i64_next (by omega) (by omega), by rw [hs]; rfl, trivial⟩
  · have hz : k = l.length := by have := of_decide_eq_false h; omega
    subst hz
    clear h
    rw [List.take_length]
    have hacc := accR_acc (l := l) Acc.nil
    have hml : ((((accR [] l).map ePost).length : Nat) : Int) = (accR [] l).length := by simp
    have hlen := hacc.ok.wf.len
    have hld := load_ret (accR [] l) (by omega)
    obtain ⟨e1, e2, e3⟩ := hacc.lod
    rw [e1, e2, e3] at hld
    generalize accR [] l = m at *
    repeat (refine stp rfl ?_ ?_;·repeat' constructor)
    apply qst;exact rfl;exact rfl;exact q_callF rfl (hld) rfl (by repeat' constructor) rfl
    repeat (refine stp rfl ?_ ?_;·repeat' constructor)
    rw [hml]
    refine pw_cond rfl (fun h => ?_) (fun h => ?_)
    · exact absurd (rfl : (m.length : Int) = m.length) (of_decide_eq_false (by simpa only [Bool.not_eq_true'] using h))
    · repeat (refine stp rfl ?_ ?_;·repeat' constructor)
      exact end2 rfl rfl rfl rfl rfl trivial (by repeat' constructor) rfl
end Go.Pv
