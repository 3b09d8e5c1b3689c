/- Texts of one hand, gathered: SdX, SdY, SeA, SeB, SeP, SeQ, SeR, SeS, PvX, SeC, SeL, SeM, SeO, SeT, SeU, AzC, AzD, SeG, AzE, PvRg, PvBa, PvBb. -/
import Derived.Test.YtfnjhhndbgidmaaGreatDoorAs4
import Derived.KernelRfl
import Derived.ProofKit
import Derived.OpenShut
import Derived.Carry
import Derived.Shelf.Strings.Builder1
set_option linter.unusedSectionVars false
set_option linter.unusedSimpArgs false
set_option linter.unusedVariables false
set_option linter.unnecessarySimpa false
set_option maxHeartbeats 2000000
namespace Go.Pv
attribute [local irreducible] PWP POps PQuiet PSem XThen XBlock RetPost InlPost
open Go.Proofs
structure SBr where
  a : Str
  b : Str
  r : Int
  deriving DecidableEq
def eBr (x : SBr) : List PV := [.str x.a, .str x.b, I x.r]
structure Full (w : SWork) (l : List SPl) : Prop extends Plan w l where
  on : ∀ (i : Nat) p, l[i]? = some p → p.on = true
theorem Full.at_ {w : SWork} {l : List SPl} (h : Full w l) {i : Nat} {x : SItem} {p : SPl} (hx : w.items[i]? = some x) (hp : l[i]? = some p) : PlOk x p := h.ok i x p hx hp (h.on i p hp)
def slP (l : List SPl) (k : Int) : SPl := l.getD k.toNat ⟨0, 0, false⟩
def itP (w : SWork) (k : Int) : SItem := w.items.getD k.toNat ⟨[], [], [], [], 0, false, []⟩
theorem slP_at {l : List SPl} {k : Nat} {p : SPl} (h : l[k]? = some p) : slP l k = p := by rw [slP, Int.toNat_natCast, List.getD_eq_getElem?_getD, h]; rfl
theorem itP_at {w : SWork} {k : Nat} {x : SItem} (h : w.items[k]? = some x) : itP w k = x := by rw [itP, Int.toNat_natCast, List.getD_eq_getElem?_getD, h]; rfl
theorem flatMap_len {α β : Type} {f : α → List β} {c : Nat} (hf : ∀ x, (f x).length ≤ c) : ∀ l : List α, (l.flatMap f).length ≤ l.length * c
  | [] => by simp
  | a :: l => by
    have := flatMap_len hf l
    have := hf a
    simp only [List.flatMap_cons, List.length_append, List.length_cons, Nat.add_mul, Nat.one_mul]
    omega
theorem range_flatMap {β : Type} (f : Nat → List β) (k : Nat) : (List.range (k + 1)).flatMap f = (List.range k).flatMap f ++ f k := by
  rw [List.range_succ, List.flatMap_append]; simp
theorem als_snoc {α : Type} (e : α → List PV) (k g : Nat) (l : List α) (a : α) : PV.als k (g + l.length + 1) 0 (l.map e ++ [e a]).length = PV.als k (g + (l ++ [a]).length) 0 ((l ++ [a]).map e).length := by simp [Nat.add_assoc]
theorem cont_snoc {α : Type} (e : α → List PV) (g T sz kd : Nat) (l : List α) (a : α) : (g + l.length + 1, some (Cont.mk T sz (l.map e ++ [e a]) kd)) = (g + (l ++ [a]).length, some (Cont.mk T sz ((l ++ [a]).map e) kd)) := by simp [Nat.add_assoc]
def earlyAt (w : SWork) (l : List SPl) (i : Nat) (k : Int) : List SBr := if (slP l i).day < endP (itP w k) (slP l k) then [⟨(itP w k).name, (itP w i).name, 10⟩] else []
def earlyN (w : SWork) (l : List SPl) (n : Nat) : List SBr := (List.range n).flatMap fun i => ((bef w).getD i []).flatMap (earlyAt w l i)
def earlyP (w : SWork) (l : List SPl) : List SBr := earlyN w l w.items.length
def earlyJ (w : SWork) (l : List SPl) (k : Nat) (row : List Int) (j : Nat) : List SBr := earlyN w l k ++ (row.take j).flatMap (earlyAt w l k)
theorem earlyAt_len (w : SWork) (l : List SPl) (i : Nat) (k : Int) : (earlyAt w l i k).length ≤ 1 := by unfold earlyAt; split <;> simp
theorem earlyN_len (w : SWork) (hw : Sane w) (l : List SPl) (n : Nat) : (earlyN w l n).length ≤ n * 100000 := by
  have := flatMap_len (f := fun i => ((bef w).getD i []).flatMap (earlyAt w l i)) (c := 100000) (fun i => by
    have h1 := flatMap_len (earlyAt_len w l i) ((bef w).getD i [])
    have h2 : ((bef w).getD i []).length ≤ 100000 := by
      rw [List.getD_eq_getElem?_getD, bef, List.getElem?_map]
      cases hx : w.items[i]? with
      | none => simp
      | some x => have := hw.after x (List.mem_of_getElem? hx); simp [aft]; omega
    omega) (List.range n)
  rw [List.length_range] at this
  exact this
theorem earlyJ_len (w : SWork) (hw : Sane w) (l : List SPl) (n : Nat) (row : List Int) (hr : row.length ≤ 100000) (j : Nat) : (earlyJ w l n row j).length ≤ (n + 1) * 100000 := by
  have h1 := earlyN_len w hw l n
  have h2 := flatMap_len (earlyAt_len w l n) (row.take j)
  have h3 : (row.take j).length ≤ 100000 := by rw [List.length_take]; omega
  rw [earlyJ, List.length_append]
  omega
theorem early_ret (w : SWork) (hw : Sane w) (hv : Well w) (l : List SPl) (hf : Full w l) : Ret Tryz.prog .shared 146 [.agg (eWork w), .sl (l.map ePl)] (.sl ((earlyP w l).map eBr)) := by
  have h1 := hw.items
  have hn := hv.n40
  have hl := hf.len
  have hbl : (bef w).length = w.items.length := by simp [bef]
  have hml : ((bef w).map eL).length = w.items.length := by rw [List.length_map, hbl]
  refine Ret.of_pwp layOk mixed Go.Proofs.Tryz.func146 rfl (by decide) rfl rfl ?_
  ((repeat (first | refine ps_nil ?_ | refine pq_nil ?_ | refine x_norm ?_ | refine pw_seq ?_)); refine pw_region ?_)
  refine ps_run (o_box rfl rfl rfl (by repeat' constructor) rfl ?_)
  refine ps_v rfl trivial ?_
  ((repeat (first | refine ps_nil ?_ | refine pq_nil ?_ | refine x_norm ?_ | refine pw_seq ?_)); refine pw_region ?_)
  (first | refine ps_run (o_nilm 119 3 0 rfl rfl ?_) | refine ps_run (o_nila 119 3 0 rfl rfl ?_))
  repeat (refine stp rfl ?_ ?_;·repeat' constructor)
  apply qst;exact rfl;exact rfl;exact q_call rfl (before_ret w h1 hw.after) rfl (by repeat' constructor) rfl
  repeat (refine stp rfl ?_ ?_;·repeat' constructor)
  refine pw_loop (fun k => k ≤ w.items.length) (fun k => [(1, .sl (l.map ePl)), (2, .ptr 2 1 0 0), (5, .als 5 (1 + (earlyN w l k).length) 0 ((earlyN w l k).map eBr).length), (11, .sl ((bef w).map eL)), (12, I w.items.length), (13, I k)])
    (fun k => [(2, 1, ⟨28, 9, [eWork w], 2⟩), (5, 1 + (earlyN w l k).length, ⟨119, 3, (earlyN w l k).map eBr, 0⟩)]) (fun k => w.items.length - k) 0 (Nat.zero_le _) ⟨rfl, rfl, rfl, rfl, ?_, rfl, rfl, rfl, trivial⟩ ?_
  · show I (((bef w).map eL).length) = _
    rw [hml]
  intro k s hk
  repeat (refine stp rfl ?_ ?_;·repeat' constructor)
  refine pw_cond rfl (fun h => ?_) (fun h => ?_)
  · have hlt : k < w.items.length := by simpa using h
    clear h
    obtain ⟨x, hx⟩ := get_lt hlt
    obtain ⟨p, hp⟩ := get_lt (show k < l.length by omega)
    have hax := hw.after x (List.mem_of_getElem? hx)
    have hbx : (bef w)[k]? = some (aft w x) := by rw [bef, List.getElem?_map, hx]; rfl
    have hal : (aft w x).length ≤ 100000 := by simp [aft]; omega
    have e0 : earlyJ w l k (aft w x) 0 = earlyN w l k := by simp [earlyJ]
    have hsucc : earlyN w l (k + 1) = earlyJ w l k (aft w x) (aft w x).length := by rw [earlyJ, List.take_length, earlyN, range_flatMap, List.getD_eq_getElem?_getD, hbx]; rfl
    repeat (refine stp rfl ?_ ?_;·repeat' constructor)
    apply qst;exact rfl;exact rfl;exact q_idxm rfl rfl rfl rfl rfl (by omega) hbx rfl
    repeat (refine stp rfl ?_ ?_;·repeat' constructor)
    refine pw_loop (fun j => j ≤ (aft w x).length) (fun j => [(1, .sl (l.map ePl)), (2, .ptr 2 1 0 0), (5, .als 5 (1 + (earlyJ w l k (aft w x) j).length) 0 ((earlyJ w l k (aft w x) j).map eBr).length), (6, I k), (11, .sl ((bef w).map eL)), (12, I w.items.length), (13, I k), (18, .sl ((aft w x).map eI)), (19, I (aft w x).length), (20, I j)])
      (fun j => [(2, 1, ⟨28, 9, [eWork w], 2⟩), (5, 1 + (earlyJ w l k (aft w x) j).length, ⟨119, 3, (earlyJ w l k (aft w x) j).map eBr, 0⟩)]) (fun j => (aft w x).length - j) 0 (Nat.zero_le _) ⟨rfl, rfl, ?_, rfl, rfl, rfl, rfl, rfl, ?_, rfl, rfl, ?_, trivial⟩ ?_
    · rw [e0]; rfl
    · show I (((aft w x).map eI).length) = _
      simp
    · rw [e0]; rfl
    intro j s' hj
    repeat (refine stp rfl ?_ ?_;·repeat' constructor)
    refine pw_cond rfl (fun h => ?_) (fun h => ?_)
    · have hlt' : j < (aft w x).length := by simpa using h
      clear h
      obtain ⟨nm, hnm⟩ := get_lt (show j < x.after.length by simpa [aft] using hlt')
      obtain ⟨jn, y, hy, hyn, hidx⟩ := known_at hv.good (List.mem_of_getElem? hx) (List.mem_of_getElem? hnm)
      have hz : (aft w x)[j]? = some (jn : Int) := by rw [aft, List.getElem?_map, hnm]; exact congrArg some hidx
      have hjl := (List.getElem?_eq_some_iff.1 hy).1
      obtain ⟨q, hq⟩ := get_lt (show jn < l.length by omega)
      have hb := earlyJ_len w hw l k (aft w x) hal j
      have hstep : earlyJ w l k (aft w x) (j + 1) = earlyJ w l k (aft w x) j ++ earlyAt w l k jn := by rw [earlyJ, take_snoc hz, List.flatMap_append, earlyJ, List.append_assoc]; simp
      have hat : earlyAt w l k jn = if p.day < endP y q then [⟨y.name, x.name, 10⟩] else [] := by rw [earlyAt, slP_at hp, slP_at hq, itP_at hy, itP_at hx]
      repeat (refine stp rfl ?_ ?_;·repeat' constructor)
      apply qst;exact rfl;exact rfl;exact q_idxm rfl rfl rfl rfl rfl (by omega) hz rfl
      repeat (refine stp rfl ?_ ?_;·repeat' constructor)
      refine pw_draw 16 [24, 25, 26, 27, 28, 29, 30, 31, 32, 33, 34, 35, 36, 37, 38, 39] (by decide +kernel) ?_
      repeat (refine stp rfl ?_ ?_;·repeat' constructor)
      apply qst;exact rfl;exact rfl;exact q_idxm (n := (jn : Int)) rfl rfl rfl rfl rfl (by omega) hq rfl
      repeat (refine stp rfl ?_ ?_;·repeat' constructor)
      apply qst;exact rfl;exact rfl;exact q_idxm (n := (jn : Int)) rfl rfl rfl rfl rfl (by omega) hy rfl
      repeat (refine stp rfl ?_ ?_;·repeat' constructor)
      apply qst;exact rfl;exact rfl;exact q_callP rfl (end_ret y q (hf.at_ hy hq)) rfl (by repeat' constructor) rfl rfl
      repeat (refine stp rfl ?_ ?_;·repeat' constructor)
      apply qst;exact rfl;exact rfl;exact q_idxm rfl rfl rfl rfl rfl (by omega) hp rfl
      repeat (refine stp rfl ?_ ?_;·repeat' constructor)
      refine pw_cond rfl (fun h => ?_) (fun h => ?_)
      · have hc := of_decide_eq_true h
        clear h
        have he : earlyJ w l k (aft w x) (j + 1) = earlyJ w l k (aft w x) j ++ [⟨y.name, x.name, 10⟩] := by rw [hstep, hat, if_pos hc]
        repeat (refine stp rfl ?_ ?_;·repeat' constructor)
        refine pw_draw 15 [40, 41, 42, 43, 44, 45, 46, 47, 48, 49, 50, 51, 52, 53, 54] (by decide +kernel) ?_
        repeat (refine stp rfl ?_ ?_;·repeat' constructor)
        apply qst;exact rfl;exact rfl;exact q_idxm (n := (jn : Int)) rfl rfl rfl rfl rfl (by omega) hy rfl
        repeat (refine stp rfl ?_ ?_;·repeat' constructor)
        apply qst;exact rfl;exact rfl;exact q_idxm rfl rfl rfl rfl rfl (by omega) hx rfl
        repeat (refine stp rfl ?_ ?_;·repeat' constructor)
        apply qst;exact rfl;exact rfl;exact q_slit rfl rfl rfl rfl rfl rfl rfl rfl rfl rfl (by repeat' constructor) rfl
        repeat (refine stp rfl ?_ ?_;·repeat' constructor)
        refine ps_run (o_app 0 rfl rfl rfl rfl rfl rfl rfl rfl rfl rfl rfl (by repeat' constructor) (by intro row hr; first | (simp at hr; subst hr; rfl) | simp at hr) rfl rfl (by simp; omega) (by simp; omega) ?_)
        repeat (refine stp rfl ?_ ?_;·repeat' constructor)
        refine ⟨j + 1, hlt', by omega, rfl, rfl, ?_, rfl, rfl, rfl, rfl, rfl, rfl, ?_, rfl, ?_, trivial⟩
        · rw [he]; exact als_snoc eBr 5 1 (earlyJ w l k (aft w x) j) ⟨y.name, x.name, 10⟩
        · exact i64_next (by omega) (by omega)
        · rw [he]; exact cont_snoc eBr 1 119 3 0 (earlyJ w l k (aft w x) j) ⟨y.name, x.name, 10⟩
      · have hc := of_decide_eq_false h
        clear h
        have he : earlyJ w l k (aft w x) (j + 1) = earlyJ w l k (aft w x) j := by rw [hstep, hat, if_neg hc, List.append_nil]
        repeat (refine stp rfl ?_ ?_;·repeat' constructor)
        refine ⟨j + 1, hlt', by omega, rfl, rfl, ?_, rfl, rfl, rfl, rfl, rfl, rfl, ?_, rfl, ?_, trivial⟩
        · rw [he]; rfl
        · exact i64_next (by omega) (by omega)
        · rw [he]; rfl
    · have hge : j = (aft w x).length := by have := of_decide_eq_false h; omega
      subst hge
      clear h
      repeat (refine stp rfl ?_ ?_;·repeat' constructor)
      refine ⟨k + 1, hlt, by omega, rfl, rfl, ?_, rfl, rfl, ?_, rfl, ?_, trivial⟩
      · rw [hsucc]; rfl
      · exact i64_next (by omega) (by omega)
      · rw [hsucc]; rfl
  · have hge : k = w.items.length := by have := of_decide_eq_false h; omega
    subst hge
    repeat (refine stp rfl ?_ ?_;·repeat' constructor)
    exact end1 rfl rfl rfl ⟨rfl, rfl, rfl⟩ rfl
end Go.Pv


set_option maxHeartbeats 2000000
namespace Go.Pv
attribute [local irreducible] PWP POps PQuiet PSem XThen XBlock RetPost InlPost
open Go.Proofs
def atN (f : Nat → List SBr) (n : Nat) : List SBr := (List.range n).flatMap f
theorem atN_succ (f : Nat → List SBr) (n : Nat) : atN f (n + 1) = atN f n ++ f n := range_flatMap f n
theorem atN_len {f : Nat → List SBr} {c : Nat} (h : ∀ i, (f i).length ≤ c) (n : Nat) : (atN f n).length ≤ n * c := by
  have := flatMap_len h (List.range n)
  rw [List.length_range] at this
  exact this
def lateAt (w : SWork) (l : List SPl) (i : Nat) : List SBr := if w.last < endP (itP w i) (slP l i) then [⟨(itP w i).name, [], 16⟩] else []
def lateP (w : SWork) (l : List SPl) : List SBr := atN (lateAt w l) w.items.length
def haltAt (w : SWork) (l : List SPl) (i : Nat) : List SBr := if stopP w (itP w i) (slP l i) = true then [⟨(itP w i).name, [], 18⟩] else []
def haltP (w : SWork) (l : List SPl) : List SBr := atN (haltAt w l) w.items.length
theorem lateAt_len (w : SWork) (l : List SPl) (i : Nat) : (lateAt w l i).length ≤ 1 := by unfold lateAt; split <;> simp
theorem haltAt_len (w : SWork) (l : List SPl) (i : Nat) : (haltAt w l i).length ≤ 1 := by unfold haltAt; split <;> simp
theorem late_ret (w : SWork) (hv : Well w) (l : List SPl) (hf : Full w l) : Ret Tryz.prog .shared 150 [.agg (eWork w), .sl (l.map ePl)] (.sl ((lateP w l).map eBr)) := by
  have hn := hv.n40
  have hl := hf.len
  have hml : (l.map ePl).length = w.items.length := by simp [hl]
  refine Ret.of_pwp layOk mixed Go.Proofs.Tryz.func150 rfl (by decide) rfl rfl ?_
  ((repeat (first | refine ps_nil ?_ | refine pq_nil ?_ | refine x_norm ?_ | refine pw_seq ?_)); refine pw_region ?_)
  refine ps_run (o_box rfl rfl rfl (by repeat' constructor) rfl ?_)
  refine ps_v rfl trivial ?_
  ((repeat (first | refine ps_nil ?_ | refine pq_nil ?_ | refine x_norm ?_ | refine pw_seq ?_)); refine pw_region ?_)
  (first | refine ps_run (o_nilm 119 3 0 rfl rfl ?_) | refine ps_run (o_nila 119 3 0 rfl rfl ?_))
  repeat (refine stp rfl ?_ ?_;·repeat' constructor)
  refine pw_loop (fun k => k ≤ w.items.length) (fun k => [(1, .sl (l.map ePl)), (2, .ptr 2 1 0 0), (5, .als 5 (1 + (atN (lateAt w l) k).length) 0 ((atN (lateAt w l) k).map eBr).length), (8, .sl (l.map ePl)), (9, I w.items.length), (10, I k)])
    (fun k => [(2, 1, ⟨28, 9, [eWork w], 2⟩), (5, 1 + (atN (lateAt w l) k).length, ⟨119, 3, (atN (lateAt w l) k).map eBr, 0⟩)]) (fun k => w.items.length - k) 0 (Nat.zero_le _) ⟨rfl, rfl, rfl, rfl, ?_, rfl, rfl, rfl, trivial⟩ ?_
  · show I ((l.map ePl).length) = _
    rw [hml]
  intro k s hk
  repeat (refine stp rfl ?_ ?_;·repeat' constructor)
  refine pw_cond rfl (fun h => ?_) (fun h => ?_)
  · have hlt : k < w.items.length := by simpa using h
    clear h
    obtain ⟨x, hx⟩ := get_lt hlt
    obtain ⟨p, hp⟩ := get_lt (show k < l.length by omega)
    have hb := atN_len (lateAt_len w l) k
    have hat : lateAt w l k = if w.last < endP x p then [⟨x.name, [], 16⟩] else [] := by rw [lateAt, slP_at hp, itP_at hx]
    repeat (refine stp rfl ?_ ?_;·repeat' constructor)
    apply qst;exact rfl;exact rfl;exact q_idxm rfl rfl rfl rfl rfl (by omega) hp rfl
    repeat (refine stp rfl ?_ ?_;·repeat' constructor)
    refine pw_draw 10 [15, 16, 17, 18, 19, 20, 21, 22, 23, 24] (by decide +kernel) ?_
    repeat (refine stp rfl ?_ ?_;·repeat' constructor)
    apply qst;exact rfl;exact rfl;exact q_idxm rfl rfl rfl rfl rfl (by omega) hx rfl
    repeat (refine stp rfl ?_ ?_;·repeat' constructor)
    apply qst;exact rfl;exact rfl;exact q_callP rfl (end_ret x p (hf.at_ hx hp)) rfl (by repeat' constructor) rfl rfl
    repeat (refine stp rfl ?_ ?_;·repeat' constructor)
    refine pw_cond rfl (fun h => ?_) (fun h => ?_)
    · have hc := of_decide_eq_true h
      clear h
      have he : atN (lateAt w l) (k + 1) = atN (lateAt w l) k ++ [⟨x.name, [], 16⟩] := by rw [atN_succ, hat, if_pos hc]
      repeat (refine stp rfl ?_ ?_;·repeat' constructor)
      apply qst;exact rfl;exact rfl;exact q_idxm rfl rfl rfl rfl rfl (by omega) hx rfl
      repeat (refine stp rfl ?_ ?_;·repeat' constructor)
      apply qst;exact rfl;exact rfl;exact q_slit rfl rfl rfl rfl rfl rfl rfl rfl rfl rfl (by repeat' constructor) rfl
      repeat (refine stp rfl ?_ ?_;·repeat' constructor)
      refine ps_run (o_app 0 rfl rfl rfl rfl rfl rfl rfl rfl rfl rfl rfl (by repeat' constructor) (by intro row hr; first | (simp at hr; subst hr; rfl) | simp at hr) rfl rfl (by simp; omega) (by simp; omega) ?_)
      repeat (refine stp rfl ?_ ?_;·repeat' constructor)
      refine ⟨k + 1, hlt, by omega, rfl, rfl, ?_, rfl, rfl, ?_, rfl, ?_, trivial⟩
      · rw [he]; exact als_snoc eBr 5 1 (atN (lateAt w l) k) ⟨x.name, [], 16⟩
      · exact i64_next (by omega) (by omega)
      · rw [he]; exact cont_snoc eBr 1 119 3 0 (atN (lateAt w l) k) ⟨x.name, [], 16⟩
    · have hc := of_decide_eq_false h
      clear h
      have he : atN (lateAt w l) (k + 1) = atN (lateAt w l) k := by rw [atN_succ, hat, if_neg hc, List.append_nil]
      repeat (refine stp rfl ?_ ?_;·repeat' constructor)
      refine ⟨k + 1, hlt, by omega, rfl, rfl, ?_, rfl, rfl, ?_, rfl, ?_, trivial⟩
      · rw [he]; rfl
      · exact i64_next (by omega) (by omega)
      · rw [he]; rfl
  · have hge : k = w.items.length := by have := of_decide_eq_false h; omega
    subst hge
    repeat (refine stp rfl ?_ ?_;·repeat' constructor)
    exact end1 rfl rfl rfl ⟨rfl, rfl, rfl⟩ rfl
theorem halted_ret (w : SWork) (hw : Sane w) (hv : Well w) (l : List SPl) (hf : Full w l) : Ret Tryz.prog .shared 149 [.agg (eWork w), .sl (l.map ePl)] (.sl ((haltP w l).map eBr)) := by
  have hn := hv.n40
  have hl := hf.len
  have hml : (l.map ePl).length = w.items.length := by simp [hl]
  refine Ret.of_pwp layOk mixed Go.Proofs.Tryz.func149 rfl (by decide) rfl rfl ?_
  ((repeat (first | refine ps_nil ?_ | refine pq_nil ?_ | refine x_norm ?_ | refine pw_seq ?_)); refine pw_region ?_)
  refine ps_run (o_box rfl rfl rfl (by repeat' constructor) rfl ?_)
  refine ps_v rfl trivial ?_
  ((repeat (first | refine ps_nil ?_ | refine pq_nil ?_ | refine x_norm ?_ | refine pw_seq ?_)); refine pw_region ?_)
  (first | refine ps_run (o_nilm 119 3 0 rfl rfl ?_) | refine ps_run (o_nila 119 3 0 rfl rfl ?_))
  repeat (refine stp rfl ?_ ?_;·repeat' constructor)
  refine pw_loop (fun k => k ≤ w.items.length) (fun k => [(1, .sl (l.map ePl)), (2, .ptr 2 1 0 0), (5, .als 5 (1 + (atN (haltAt w l) k).length) 0 ((atN (haltAt w l) k).map eBr).length), (8, .sl (l.map ePl)), (9, I w.items.length), (10, I k)])
    (fun k => [(2, 1, ⟨28, 9, [eWork w], 2⟩), (5, 1 + (atN (haltAt w l) k).length, ⟨119, 3, (atN (haltAt w l) k).map eBr, 0⟩)]) (fun k => w.items.length - k) 0 (Nat.zero_le _) ⟨rfl, rfl, rfl, rfl, ?_, rfl, rfl, rfl, trivial⟩ ?_
  · show I ((l.map ePl).length) = _
    rw [hml]
  intro k s hk
  repeat (refine stp rfl ?_ ?_;·repeat' constructor)
  refine pw_cond rfl (fun h => ?_) (fun h => ?_)
  · have hlt : k < w.items.length := by simpa using h
    clear h
    obtain ⟨x, hx⟩ := get_lt hlt
    obtain ⟨p, hp⟩ := get_lt (show k < l.length by omega)
    have hb := atN_len (haltAt_len w l) k
    have hat : haltAt w l k = if stopP w x p = true then [⟨x.name, [], 18⟩] else [] := by rw [haltAt, slP_at hp, itP_at hx]
    repeat (refine stp rfl ?_ ?_;·repeat' constructor)
    apply qst;exact rfl;exact rfl;exact q_idxm rfl rfl rfl rfl rfl (by omega) hp rfl
    repeat (refine stp rfl ?_ ?_;·repeat' constructor)
    refine pw_draw 8 [15, 16, 17, 18, 19, 20, 21, 22] (by decide +kernel) ?_
    repeat (refine stp rfl ?_ ?_;·repeat' constructor)
    apply qst;exact rfl;exact rfl;exact q_idxm rfl rfl rfl rfl rfl (by omega) hx rfl
    repeat (refine stp rfl ?_ ?_;·repeat' constructor)
    apply qst;exact rfl;exact rfl;exact q_callP rfl (stopped_ret w hw x p (hf.at_ hx hp)) rfl (by repeat' constructor) rfl rfl
    repeat (refine stp rfl ?_ ?_;·repeat' constructor)
    refine pw_cond rfl (fun h => ?_) (fun h => ?_)
    · have hc : stopP w x p = true := h
      clear h
      have he : atN (haltAt w l) (k + 1) = atN (haltAt w l) k ++ [⟨x.name, [], 18⟩] := by rw [atN_succ, hat, if_pos hc]
      repeat (refine stp rfl ?_ ?_;·repeat' constructor)
      apply qst;exact rfl;exact rfl;exact q_idxm rfl rfl rfl rfl rfl (by omega) hx rfl
      repeat (refine stp rfl ?_ ?_;·repeat' constructor)
      apply qst;exact rfl;exact rfl;exact q_slit rfl rfl rfl rfl rfl rfl rfl rfl rfl rfl (by repeat' constructor) rfl
      repeat (refine stp rfl ?_ ?_;·repeat' constructor)
      refine ps_run (o_app 0 rfl rfl rfl rfl rfl rfl rfl rfl rfl rfl rfl (by repeat' constructor) (by intro row hr; first | (simp at hr; subst hr; rfl) | simp at hr) rfl rfl (by simp; omega) (by simp; omega) ?_)
      repeat (refine stp rfl ?_ ?_;·repeat' constructor)
      refine ⟨k + 1, hlt, by omega, rfl, rfl, ?_, rfl, rfl, ?_, rfl, ?_, trivial⟩
      · rw [he]; exact als_snoc eBr 5 1 (atN (haltAt w l) k) ⟨x.name, [], 18⟩
      · exact i64_next (by omega) (by omega)
      · rw [he]; exact cont_snoc eBr 1 119 3 0 (atN (haltAt w l) k) ⟨x.name, [], 18⟩
    · have hc : ¬ stopP w x p = true := by rw [show stopP w x p = false from h]; simp
      clear h
      have he : atN (haltAt w l) (k + 1) = atN (haltAt w l) k := by rw [atN_succ, hat, if_neg hc, List.append_nil]
      repeat (refine stp rfl ?_ ?_;·repeat' constructor)
      refine ⟨k + 1, hlt, by omega, rfl, rfl, ?_, rfl, rfl, ?_, rfl, ?_, trivial⟩
      · rw [he]; rfl
      · exact i64_next (by omega) (by omega)
      · rw [he]; rfl
  · have hge : k = w.items.length := by have := of_decide_eq_false h; omega
    subst hge
    repeat (refine stp rfl ?_ ?_;·repeat' constructor)
    exact end1 rfl rfl rfl ⟨rfl, rfl, rfl⟩ rfl
def clashAt (w : SWork) (l : List SPl) (i k : Nat) : List SBr := if (meetP (itP w i) (slP l i) (itP w k) (slP l k) && apartP w (itP w i) (itP w k)) = true then [⟨(itP w i).name, (itP w k).name, 17⟩] else []
def clashRow (w : SWork) (l : List SPl) (i j : Nat) : List SBr := (List.range' (i + 1) j).flatMap (clashAt w l i)
def clashP (w : SWork) (l : List SPl) : List SBr := atN (fun i => clashRow w l i (w.items.length - (i + 1))) w.items.length
theorem clashAt_len (w : SWork) (l : List SPl) (i k : Nat) : (clashAt w l i k).length ≤ 1 := by unfold clashAt; split <;> simp
theorem clashRow_len (w : SWork) (l : List SPl) (i j : Nat) : (clashRow w l i j).length ≤ j := by
  have := flatMap_len (clashAt_len w l i) (List.range' (i + 1) j)
  simpa [clashRow] using this
theorem clashRow_succ (w : SWork) (l : List SPl) (i j : Nat) : clashRow w l i (j + 1) = clashRow w l i j ++ clashAt w l i (i + 1 + j) := by
  rw [clashRow, List.range'_1_concat, List.flatMap_append, clashRow]; simp
def clashJ (w : SWork) (l : List SPl) (i j : Nat) : List SBr := atN (fun i => clashRow w l i (w.items.length - (i + 1))) i ++ clashRow w l i j
theorem clashing_ret (w : SWork) (hw : Sane w) (hv : Well w) (l : List SPl) (hf : Full w l) : Ret Tryz.prog .shared 148 [.agg (eWork w), .sl (l.map ePl)] (.sl ((clashP w l).map eBr)) := by
  have hn := hv.n40
  have hl := hf.len
  have hml : (l.map ePl).length = w.items.length := by simp [hl]
  have hlen : ∀ n, (atN (fun i => clashRow w l i (w.items.length - (i + 1))) n).length ≤ n * 40 := fun n => atN_len (fun i => by have := clashRow_len w l i (w.items.length - (i + 1)); omega) n
  refine Ret.of_pwp layOk mixed Go.Proofs.Tryz.func148 rfl (by decide) rfl rfl ?_
  ((repeat (first | refine ps_nil ?_ | refine pq_nil ?_ | refine x_norm ?_ | refine pw_seq ?_)); refine pw_region ?_)
  refine ps_run (o_box rfl rfl rfl (by repeat' constructor) rfl ?_)
  refine ps_v rfl trivial ?_
  ((repeat (first | refine ps_nil ?_ | refine pq_nil ?_ | refine x_norm ?_ | refine pw_seq ?_)); refine pw_region ?_)
  (first | refine ps_run (o_nilm 119 3 0 rfl rfl ?_) | refine ps_run (o_nila 119 3 0 rfl rfl ?_))
  repeat (refine stp rfl ?_ ?_;·repeat' constructor)
  refine pw_loop (fun k => k ≤ w.items.length) (fun k => [(1, .sl (l.map ePl)), (2, .ptr 2 1 0 0), (5, .als 5 (1 + (clashJ w l k 0).length) 0 ((clashJ w l k 0).map eBr).length), (9, I w.items.length), (10, I k)])
    (fun k => [(2, 1, ⟨28, 9, [eWork w], 2⟩), (5, 1 + (clashJ w l k 0).length, ⟨119, 3, (clashJ w l k 0).map eBr, 0⟩)]) (fun k => w.items.length - k) 0 (Nat.zero_le _) ⟨rfl, rfl, rfl, ?_, rfl, rfl, rfl, trivial⟩ ?_
  · show I ((l.map ePl).length) = _
    rw [hml]
  intro k s hk
  repeat (refine stp rfl ?_ ?_;·repeat' constructor)
  refine pw_cond rfl (fun h => ?_) (fun h => ?_)
  · have hlt : k < w.items.length := by simpa using h
    clear h
    obtain ⟨x, hx⟩ := get_lt hlt
    obtain ⟨p, hp⟩ := get_lt (show k < l.length by omega)
    have hsucc : clashJ w l (k + 1) 0 = clashJ w l k (w.items.length - (k + 1)) := by rw [clashJ, atN_succ, clashJ]; simp [clashRow]
    repeat (refine stp rfl ?_ ?_;·repeat' constructor)
    refine pw_loop (fun j => k + 1 + j ≤ w.items.length) (fun j => [(1, .sl (l.map ePl)), (2, .ptr 2 1 0 0), (5, .als 5 (1 + (clashJ w l k j).length) 0 ((clashJ w l k j).map eBr).length), (6, I k), (7, I ((k + 1 + j : Nat) : Int)), (9, I w.items.length), (10, I k)])
      (fun j => [(2, 1, ⟨28, 9, [eWork w], 2⟩), (5, 1 + (clashJ w l k j).length, ⟨119, 3, (clashJ w l k j).map eBr, 0⟩)]) (fun j => w.items.length - j) 0 (by omega) ⟨rfl, rfl, rfl, rfl, ?_, rfl, rfl, rfl, rfl, trivial⟩ ?_
    · exact (i64_next (by omega) (by omega)).trans (congrArg I (by omega))
    intro j s' hj
    repeat (refine stp rfl ?_ ?_;·repeat' constructor)
    refine pw_cond rfl (fun h => ?_) (fun h => ?_)
    · have hlt' : k + 1 + j < w.items.length := by have := of_decide_eq_true h; rw [hml] at this; omega
      clear h
      obtain ⟨y, hy⟩ := get_lt hlt'
      obtain ⟨q, hq⟩ := get_lt (show k + 1 + j < l.length by omega)
      have hb : (clashJ w l k j).length ≤ 40 * 40 + 40 := by
        have h1 := hlen k
        have h2 := clashRow_len w l k j
        rw [clashJ, List.length_append]; omega
      have hstep : clashJ w l k (j + 1) = clashJ w l k j ++ clashAt w l k (k + 1 + j) := by rw [clashJ, clashRow_succ, clashJ, List.append_assoc]
      have hat : clashAt w l k (k + 1 + j) = if (meetP x p y q && apartP w x y) = true then [⟨x.name, y.name, 17⟩] else [] := by rw [clashAt, slP_at hp, slP_at hq, itP_at hx, itP_at hy]
      have hno : (meetP x p y q && apartP w x y) = false → clashJ w l k (j + 1) = clashJ w l k j := fun h => by rw [hstep, hat, if_neg (by rw [h]; simp), List.append_nil]
      have hnext : PV.int .i64 (IntKind.i64.wrap (((k + 1 + j : Nat) : Int) + 1)) = I ((k + 1 + (j + 1) : Nat) : Int) := (i64_next (by omega) (by omega)).trans (congrArg I (by omega))
      repeat (refine stp rfl ?_ ?_;·repeat' constructor)
      apply qst;exact rfl;exact rfl;exact q_callP rfl (meet_ret w hf.toPlan hx hy hp hq) rfl (by repeat' constructor) rfl rfl
      repeat (refine stp rfl ?_ ?_;·repeat' constructor)
      (first | refine ps_split rfl rfl (fun h => ?_) (fun h => ?_) | refine pq_split rfl rfl (fun h => ?_) (fun h => ?_) | refine p3_split rfl rfl (fun h => ?_) (fun h => ?_))
      · have hm : meetP x p y q = true := h
        clear h
        repeat (refine stp rfl ?_ ?_;·repeat' constructor)
        apply qst;exact rfl;exact rfl;exact q_callP rfl (apart_ret w hw hx hy) rfl (by repeat' constructor) rfl rfl
        repeat (refine stp rfl ?_ ?_;·repeat' constructor)
        refine pw_cond rfl (fun h => ?_) (fun h => ?_)
        · have ha : apartP w x y = true := h
          clear h
          have he : clashJ w l k (j + 1) = clashJ w l k j ++ [⟨x.name, y.name, 17⟩] := by rw [hstep, hat, hm, ha]; rfl
          repeat (refine stp rfl ?_ ?_;·repeat' constructor)
          refine pw_draw 15 [32, 33, 34, 35, 36, 37, 38, 39, 40, 41, 42, 43, 44, 45, 46] (by decide +kernel) ?_
          repeat (refine stp rfl ?_ ?_;·repeat' constructor)
          apply qst;exact rfl;exact rfl;exact q_idxm rfl rfl rfl rfl rfl (by omega) hx rfl
          repeat (refine stp rfl ?_ ?_;·repeat' constructor)
          apply qst;exact rfl;exact rfl;exact q_idxm (n := (((k+1+j:Nat):Int) : Int)) rfl rfl rfl rfl rfl (by omega) hy rfl
          repeat (refine stp rfl ?_ ?_;·repeat' constructor)
          apply qst;exact rfl;exact rfl;exact q_slit rfl rfl rfl rfl rfl rfl rfl rfl rfl rfl (by repeat' constructor) rfl
          repeat (refine stp rfl ?_ ?_;·repeat' constructor)
          refine ps_run (o_app 0 rfl rfl rfl rfl rfl rfl rfl rfl rfl rfl rfl (by repeat' constructor) (by intro row hr; first | (simp at hr; subst hr; rfl) | simp at hr) rfl rfl (by simp; omega) (by simp; omega) ?_)
          repeat (refine stp rfl ?_ ?_;·repeat' constructor)
          refine ⟨j + 1, hlt', by omega, rfl, rfl, ?_, rfl, hnext, rfl, rfl, rfl, ?_, trivial⟩
          · rw [he]; exact als_snoc eBr 5 1 (clashJ w l k j) ⟨x.name, y.name, 17⟩
          · rw [he]; exact cont_snoc eBr 1 119 3 0 (clashJ w l k j) ⟨x.name, y.name, 17⟩
        · have ha : apartP w x y = false := h
          clear h
          have he := hno (by rw [ha, Bool.and_false])
          repeat (refine stp rfl ?_ ?_;·repeat' constructor)
          refine ⟨j + 1, hlt', by omega, rfl, rfl, ?_, rfl, hnext, rfl, rfl, rfl, ?_, trivial⟩
          · rw [he]; rfl
          · rw [he]; rfl
      · have hm : meetP x p y q = false := h
        clear h
        have he := hno (by rw [hm, Bool.false_and])
        repeat (refine stp rfl ?_ ?_;·repeat' constructor)
        refine ⟨j + 1, hlt', by omega, rfl, rfl, ?_, rfl, hnext, rfl, rfl, rfl, ?_, trivial⟩
        · rw [he]; rfl
        · rw [he]; rfl
    · have hge : j = w.items.length - (k + 1) := by have := of_decide_eq_false h; rw [hml] at this; omega
      subst hge
      clear h
      repeat (refine stp rfl ?_ ?_;·repeat' constructor)
      refine ⟨k + 1, hlt, by omega, rfl, rfl, ?_, rfl, ?_, rfl, ?_, trivial⟩
      · rw [hsucc]; rfl
      · exact i64_next (by omega) (by omega)
      · rw [hsucc]; rfl
  · have hge : k = w.items.length := by have := of_decide_eq_false h; omega
    subst hge
    have hfin : clashJ w l w.items.length 0 = clashP w l := by rw [clashJ, clashP]; simp [clashRow]
    rw [hfin]
    repeat (refine stp rfl ?_ ?_;·repeat' constructor)
    exact end1 rfl rfl rfl ⟨rfl, rfl, rfl⟩ rfl
end Go.Pv


set_option maxHeartbeats 2000000
namespace Go.Pv
attribute [local irreducible] PWP POps PQuiet PSem XThen XBlock RetPost InlPost
open Go.Proofs
def aget : List (Int × Int) → Int → Int
  | [], _ => 0
  | (d, c) :: m, k => if d = k then c else aget m k
def aput (k v : Int) : List (Int × Int) → List (Int × Int)
  | [] => [(k, v)]
  | (d, c) :: m => if d = k then (d, v) :: m else (d, c) :: aput k v m
def eKV (e : Int × Int) : List PV := [I e.1, I e.2]
theorem mval_cons (z key : PV) (row : List PV) (rows : List (List PV)) : mval z key (row :: rows) = bif mhd key row then row.getD 1 z else mval z key rows := by
  unfold mval
  cases h : mhd key row with
  | true => simp [mix, h]
  | false =>
    simp only [mix, h, cond_false]
    cases mix key rows <;> simp
theorem mput_cons (key v : PV) (row : List PV) (rows : List (List PV)) : mput key v (row :: rows) = bif mhd key row then row.set 1 v :: rows else row :: mput key v rows := by
  unfold mput
  cases h : mhd key row with
  | true => simp [mix, h]
  | false =>
    simp only [mix, h, cond_false]
    cases hm : mix key rows with
    | none => simp
    | some i =>
      have hi := mix_lt hm
      simp [List.getElem?_eq_getElem hi]
theorem mval_kv (d : Int) : ∀ m : List (Int × Int), mval (I 0) (I d) (m.map eKV) = I (aget m d)
  | [] => rfl
  | (e, c) :: m => by
    rw [List.map_cons, mval_cons, mval_kv d m]
    have : mhd (I d) (eKV (e, c)) = decide (e = d) := rfl
    rw [this, aget]
    by_cases h : e = d
    · rw [if_pos h, decide_eq_true h]; rfl
    · rw [if_neg h, decide_eq_false h]; rfl
theorem mput_kv (d v : Int) : ∀ m : List (Int × Int), mput (I d) (I v) (m.map eKV) = (aput d v m).map eKV
  | [] => rfl
  | (e, c) :: m => by
    rw [List.map_cons, mput_cons, mput_kv d v m]
    have : mhd (I d) (eKV (e, c)) = decide (e = d) := rfl
    rw [this, aput]
    by_cases h : e = d
    · rw [if_pos h, decide_eq_true h]; rfl
    · rw [if_neg h, decide_eq_false h]; rfl
theorem keyed_kv (m : List (Int × Int)) : keyed (.int .i64) (m.map eKV) = true := by
  induction m with
  | nil => rfl
  | cons e m ih => rw [List.map_cons]; exact ih
theorem zone3 : zone Tryz.prog 3 = true := by kernel_rfl
def addM (m : List (Int × Int)) (d c : Int) : List (Int × Int) := aput d (aget m d + c) m
def BndM (m : List (Int × Int)) (B : Int) : Prop := ∀ e ∈ m, 0 ≤ e.2 ∧ e.2 ≤ B
theorem BndM.get {m : List (Int × Int)} {B : Int} (h : BndM m B) (hB : 0 ≤ B) (d : Int) : 0 ≤ aget m d ∧ aget m d ≤ B := by
  induction m with
  | nil => exact ⟨Int.le_refl _, hB⟩
  | cons e m ih =>
    obtain ⟨a, c⟩ := e
    unfold aget
    split
    · exact h (a, c) (by simp)
    · exact ih fun e he => h e (by simp [he])
theorem BndM.put {m : List (Int × Int)} {B : Int} (h : BndM m B) {d v : Int} (hv : 0 ≤ v ∧ v ≤ B) : BndM (aput d v m) B := by
  induction m with
  | nil => intro e he; simp [aput] at he; subst he; exact hv
  | cons e m ih =>
    obtain ⟨a, c⟩ := e
    have ih := ih fun e he => h e (by simp [he])
    unfold aput
    split
    · intro e he
      rcases List.mem_cons.1 he with rfl | he
      · exact hv
      · exact h e (by simp [he])
    · intro e he
      rcases List.mem_cons.1 he with rfl | he
      · exact h _ (by simp)
      · exact ih e he
theorem BndM.add {m : List (Int × Int)} {B : Int} (h : BndM m B) (hB : 0 ≤ B) {d c : Int} (hc : 0 ≤ c ∧ c ≤ 1000) : BndM (addM m d c) (B + 1000) := by
  have := h.get hB d
  exact BndM.put (fun e he => by have := h e he; omega) (by omega)
def pplJ (m : List (Int × Int)) (d c : Int) (j : Nat) : List (Int × Int) := (List.range j).foldl (fun m i => addM m (d + (i : Nat)) c) m
theorem pplJ_succ (m : List (Int × Int)) (d c : Int) (j : Nat) : pplJ m d c (j + 1) = addM (pplJ m d c j) (d + j) c := by
  rw [pplJ, List.range_succ, List.foldl_append]; rfl
theorem pplJ_bound {m : List (Int × Int)} {B : Int} (h : BndM m B) (hB : 0 ≤ B) {d c : Int} (hc : 0 ≤ c ∧ c ≤ 1000) (j : Nat) : BndM (pplJ m d c j) (B + 1000 * j) := by
  induction j with
  | zero => simpa [pplJ] using h
  | succ j ih =>
    rw [pplJ_succ]
    have := ih.add (by omega) (d := d + j) hc
    intro e he
    have := this e he
    omega
def peopleF (t : Str) (m : List (Int × Int)) (q : SItem × SPl) : List (Int × Int) :=
  if q.2.on && decide (q.1.trade = t) then pplJ m q.2.day (modeAt q.1 q.2.mode).crew (modeAt q.1 q.2.mode).days.toNat else m
def peopleK (w : SWork) (l : List SPl) (t : Str) (k : Nat) : List (Int × Int) := ((prs w l).take k).foldl (peopleF t) []
def peopleP (w : SWork) (l : List SPl) (t : Str) : List (Int × Int) := (prs w l).foldl (peopleF t) []
theorem peopleK_succ {w : SWork} {l : List SPl} {t : Str} {k : Nat} {x : SItem} {p : SPl} (hx : w.items[k]? = some x) (hp : l[k]? = some p) : peopleK w l t (k + 1) = peopleF t (peopleK w l t k) (x, p) := by
  rw [peopleK, take_snoc (prs_at hx hp), List.foldl_append]; rfl
theorem peopleK_bound {w : SWork} {l : List SPl} (h : Plan w l) (t : Str) (k : Nat) (hk : k ≤ l.length) : BndM (peopleK w l t k) (60000 * k) := by
  induction k with
  | zero => intro e he; simp [peopleK] at he
  | succ k ih =>
    have ih := ih (by omega)
    obtain ⟨p, hp⟩ := get_lt (show k < l.length by omega)
    obtain ⟨x, hx⟩ := get_lt (show k < w.items.length by have := h.len; omega)
    rw [peopleK_succ hx hp]
    unfold peopleF
    split
    · rename_i hc
      simp only [Bool.and_eq_true] at hc
      have hok := h.ok k x p hx hp hc.1
      have h1 := hok.crew
      have h2 := hok.days
      have := pplJ_bound ih (by omega) (d := p.day) h1 (modeAt x p.mode).days.toNat
      intro e he
      have := this e he
      omega
    · intro e he
      have := ih e he
      omega
theorem people_ret (w : SWork) (hn : w.items.length ≤ 40) (l : List SPl) (hf : Plan w l) (t : Str) : Ret Tryz.prog .shared 159 [.agg (eWork w), .sl (l.map ePl), .str t] (.mapd ((peopleP w l t).map eKV)) := by
  have hl := hf.len
  have hml : (l.map ePl).length = l.length := by simp
  refine Ret.of_pwp layOk mixed Go.Proofs.Tryz.func159 rfl (by decide) rfl rfl ?_
  repeat (refine stp rfl ?_ ?_;·repeat' constructor)
  refine ps_run (o_mkmap rfl ?_)
  repeat (refine stp rfl ?_ ?_;·repeat' constructor)
  refine pw_loop (fun k => k ≤ l.length) (fun k => [(1, .sl (l.map ePl)), (2, .str t), (3, .ptr 3 1 0 0), (7, .mp 12 1), (13, .sl (l.map ePl)), (14, I l.length), (15, I k)])
    (fun k => [(3, 1, ⟨28, 9, [eWork w], 2⟩), (12, 1, ⟨212, 0, (peopleK w l t k).map eKV, 0⟩)]) (fun k => l.length - k) 0 (Nat.zero_le _) ⟨rfl, rfl, rfl, rfl, rfl, ?_, rfl, rfl, rfl, trivial⟩ ?_
  · show I ((l.map ePl).length) = _
    rw [hml]
  intro k s hk
  repeat (refine stp rfl ?_ ?_;·repeat' constructor)
  refine pw_cond rfl (fun h => ?_) (fun h => ?_)
  · have hlt : k < l.length := by simpa using h
    clear h
    obtain ⟨p, hp⟩ := get_lt hlt
    obtain ⟨x, hx⟩ := get_lt (show k < w.items.length by omega)
    have hok := hf.ok k x p hx hp
    have hsk := peopleK_succ (t := t) hx hp
    have hno : (p.on && decide (x.trade = t)) = false → peopleK w l t (k + 1) = peopleK w l t k := fun h => by rw [hsk, peopleF, h]; rfl
    have hbk := peopleK_bound hf t k hk
    repeat (refine stp rfl ?_ ?_;·repeat' constructor)
    apply qst;exact rfl;exact rfl;exact q_idxm rfl rfl rfl rfl rfl (by omega) hp rfl
    repeat (refine stp rfl ?_ ?_;·repeat' constructor)
    apply qst;exact rfl;exact rfl;exact q_idxm rfl rfl rfl rfl rfl (by omega) hx rfl
    repeat (refine stp rfl ?_ ?_;·repeat' constructor)
    (first | refine ps_split rfl rfl (fun h => ?_) (fun h => ?_) | refine pq_split rfl rfl (fun h => ?_) (fun h => ?_) | refine p3_split rfl rfl (fun h => ?_) (fun h => ?_))
    · have hon : p.on = false := by simpa using h
      clear h
      have he := hno (by rw [hon]; rfl)
      repeat (refine stp rfl ?_ ?_;·repeat' constructor)
      refine ⟨k + 1, hlt, by omega, rfl, rfl, rfl, rfl, rfl, rfl, ?_, rfl, ?_, trivial⟩
      · exact i64_next (by omega) (by omega)
      · rw [he]; rfl
    have hon : p.on = true := by simpa using h
    have hok := hok hon
    clear h
    repeat (refine stp rfl ?_ ?_;·repeat' constructor)
    refine pw_cond rfl (fun h => ?_) (fun h => ?_)
    · have ht : ¬ x.trade = t := by simpa using h
      clear h
      have he := hno (by rw [decide_eq_false ht, Bool.and_false])
      repeat (refine stp rfl ?_ ?_;·repeat' constructor)
      refine ⟨k + 1, hlt, by omega, rfl, rfl, rfl, rfl, rfl, rfl, ?_, rfl, ?_, trivial⟩
      · exact i64_next (by omega) (by omega)
      · rw [he]; rfl
    have ht : x.trade = t := by simpa using h
    clear h
    have h1 := hok.day
    have h2 := hok.days
    have h3 := hok.crew
    have hm := hok.mode
    have hlo := hok.lo
    have he : peopleK w l t (k + 1) = pplJ (peopleK w l t k) p.day (modeAt x p.mode).crew (modeAt x p.mode).days.toNat := by rw [hsk, peopleF, hon, decide_eq_true ht]; rfl
    repeat (refine stp rfl ?_ ?_;·repeat' constructor)
    refine pw_loop (fun j => j ≤ (modeAt x p.mode).days.toNat) (fun j => [(1, .sl (l.map ePl)), (2, .str t), (3, .ptr 3 1 0 0), (7, .mp 12 1), (9, .ptr 9 ((s.own 9).1 + 1) 0 0), (10, .ptr 10 ((s.own 10).1 + 1) 0 0), (11, I (p.day + j)), (13, .sl (l.map ePl)), (14, I l.length), (15, I k)])
      (fun j => [(3, 1, ⟨28, 9, [eWork w], 2⟩), (9, (s.own 9).1 + 1, ⟨99, 3, [ePl p], 2⟩), (10, (s.own 10).1 + 1, ⟨73, 7, [eItem x], 2⟩), (12, 1, ⟨212, 0, (pplJ (peopleK w l t k) p.day (modeAt x p.mode).crew j).map eKV, 0⟩)]) (fun j => (modeAt x p.mode).days.toNat - j) 0 (Nat.zero_le _)
      ⟨rfl, rfl, rfl, rfl, rfl, rfl, ?_, rfl, rfl, rfl, rfl, rfl, rfl, rfl, trivial⟩ ?_
    · show I p.day = I (p.day + ((0 : Nat) : Int))
      simp
    intro j s' hj
    have hbj := pplJ_bound hbk (by omega) (d := p.day) h3 j
    repeat (refine stp rfl ?_ ?_;·repeat' constructor)
    apply qst;exact rfl;exact rfl;exact q_callP rfl (end_ret x p hok) rfl (by repeat' constructor) rfl rfl
    repeat (refine stp rfl ?_ ?_;·repeat' constructor)
    refine pw_cond rfl (fun h => ?_) (fun h => ?_)
    · have hlt' : j < (modeAt x p.mode).days.toNat := by have := of_decide_eq_true h; rw [endP] at this; omega
      clear h
      have hg := hbj.get (by omega) (p.day + j)
      repeat (refine stp rfl ?_ ?_;·repeat' constructor)
      refine pw_draw 11 [43, 44, 45, 46, 47, 48, 49, 50, 51, 52, 53] (by decide +kernel) ?_
      repeat (refine stp rfl ?_ ?_;·repeat' constructor)
      refine pq_q (q_look rfl rfl rfl rfl rfl zone3 rfl rfl rfl rfl rfl (keyed_kv _)) ?_
      rw [show mval (PV.int .i64 0) (PV.int .i64 (p.day + j)) ((pplJ (peopleK w l t k) p.day (modeAt x p.mode).crew j).map eKV) = I (aget (pplJ (peopleK w l t k) p.day (modeAt x p.mode).crew j) (p.day + j)) from mval_kv _ _]
      repeat (refine stp rfl ?_ ?_;·repeat' constructor)
      apply qst;exact rfl;exact rfl;exact q_idxm rfl rfl rfl rfl rfl (by omega) hm rfl
      repeat (refine stp rfl ?_ ?_;·repeat' constructor)
      refine ps_run0 (o_mset 0 rfl rfl rfl rfl rfl rfl rfl rfl rfl (keyed_kv _) rfl rfl ?_)
      repeat (refine stp rfl ?_ ?_;·repeat' constructor)
      refine ⟨j + 1, hlt', by omega, rfl, rfl, rfl, rfl, rfl, rfl, ?_, rfl, rfl, rfl, rfl, rfl, rfl, ?_, trivial⟩
      · exact (i64_next (by omega) (by omega)).trans (congrArg I (by omega))
      · rw [pplJ_succ, addM, ← mput_kv]
        refine Eq.trans (b := (1, some (Cont.mk 212 0 (mput (I (p.day + j)) (PV.int .i64 (IntKind.i64.wrap (aget (pplJ (peopleK w l t k) p.day (modeAt x p.mode).crew j) (p.day + j) + (modeAt x p.mode).crew))) ((pplJ (peopleK w l t k) p.day (modeAt x p.mode).crew j).map eKV)) 0))) rfl ?_
        rw [wrap_i64 (by omega) (by omega)]
    · have hge : j = (modeAt x p.mode).days.toNat := by have := of_decide_eq_false h; rw [endP] at this; omega
      subst hge
      clear h
      repeat (refine stp rfl ?_ ?_;·repeat' constructor)
      refine ⟨k + 1, hlt, by omega, rfl, rfl, rfl, rfl, rfl, rfl, ?_, rfl, ?_, trivial⟩
      · exact i64_next (by omega) (by omega)
      · rw [he]; rfl
  · have hge : k = l.length := by have := of_decide_eq_false h; omega
    subst hge
    have hfin : peopleK w l t l.length = peopleP w l t := by
      rw [peopleK, List.take_of_length_le, peopleP]
      simp [prs]; omega
    repeat (refine stp rfl ?_ ?_;·repeat' constructor)
    exact end1 rfl rfl rfl rfl (by rw [hfin])
end Go.Pv


set_option maxHeartbeats 2000000
namespace Go.Pv
attribute [local irreducible] PWP POps PQuiet PSem XThen XBlock RetPost InlPost
open Go.Proofs
def mostF (a : Int) (e : Int × Int) : Int := imax a e.2
def mostP (m : List (Int × Int)) : Int := m.foldl mostF 0
theorem imax_comm (a b c : Int) : imax (imax a b) c = imax (imax a c) b := by unfold imax; (repeat' split) <;> omega
theorem most_erase : ∀ (m : List (Int × Int)) (a : Int) (i : Nat) (e : Int × Int), m[i]? = some e → (m.eraseIdx i).foldl mostF (mostF a e) = m.foldl mostF a
  | [], _, _, _, h => by simp at h
  | q :: m, a, 0, e, h => by simp at h; subst h; rfl
  | q :: m, a, i + 1, e, h => by
    rw [List.eraseIdx_cons_succ, List.foldl_cons, List.foldl_cons, ← most_erase m (mostF a q) i e (by simpa using h)]
    congr 1
    exact imax_comm _ _ _
def crowdAt (w : SWork) (l : List SPl) (i : Nat) : List SBr := match w.trades[i]? with | some t => if t.crew < mostP (peopleP w l t.name) then [⟨t.name, [], 23⟩] else [] | none => []
def crowdP (w : SWork) (l : List SPl) : List SBr := atN (crowdAt w l) w.trades.length
theorem crowdAt_len (w : SWork) (l : List SPl) (i : Nat) : (crowdAt w l i).length ≤ 1 := by
  unfold crowdAt
  split
  · split <;> simp
  · simp
theorem crowded_ret (w : SWork) (hv : Well w) (l : List SPl) (hf : Full w l) : Ret Tryz.prog .shared 147 [.agg (eWork w), .sl (l.map ePl)] (.sl ((crowdP w l).map eBr)) := by
  have hn := hv.n40
  have ht6 := hv.t6
  have hl := hf.len
  refine Ret.of_pwp layOk mixed Go.Proofs.Tryz.func147 rfl (by decide) rfl rfl ?_
  ((repeat (first | refine ps_nil ?_ | refine pq_nil ?_ | refine x_norm ?_ | refine pw_seq ?_)); refine pw_region ?_)
  refine ps_run (o_box rfl rfl rfl (by repeat' constructor) rfl ?_)
  refine ps_v rfl trivial ?_
  ((repeat (first | refine ps_nil ?_ | refine pq_nil ?_ | refine x_norm ?_ | refine pw_seq ?_)); refine pw_region ?_)
  (first | refine ps_run (o_nilm 119 3 0 rfl rfl ?_) | refine ps_run (o_nila 119 3 0 rfl rfl ?_))
  repeat (refine stp rfl ?_ ?_;·repeat' constructor)
  refine pw_loop (fun k => k ≤ w.trades.length) (fun k => [(1, .sl (l.map ePl)), (2, .ptr 2 1 0 0), (5, .als 5 (1 + (atN (crowdAt w l) k).length) 0 ((atN (crowdAt w l) k).map eBr).length), (12, .sl (w.trades.map eTrade)), (13, I w.trades.length), (14, I k)])
    (fun k => [(2, 1, ⟨28, 9, [eWork w], 2⟩), (5, 1 + (atN (crowdAt w l) k).length, ⟨119, 3, (atN (crowdAt w l) k).map eBr, 0⟩)]) (fun k => w.trades.length - k) 0 (Nat.zero_le _) ⟨rfl, rfl, rfl, rfl, ?_, rfl, rfl, rfl, trivial⟩ ?_
  · show I ((w.trades.map eTrade).length) = _
    simp
  intro k s hk
  repeat (refine stp rfl ?_ ?_;·repeat' constructor)
  refine pw_cond rfl (fun h => ?_) (fun h => ?_)
  · have hlt : k < w.trades.length := by simpa using h
    clear h
    obtain ⟨t, ht⟩ := get_lt hlt
    have hb := atN_len (crowdAt_len w l) k
    have hat : crowdAt w l k = if t.crew < mostP (peopleP w l t.name) then [⟨t.name, [], 23⟩] else [] := by rw [crowdAt, ht]
    repeat (refine stp rfl ?_ ?_;·repeat' constructor)
    apply qst;exact rfl;exact rfl;exact q_idxm rfl rfl rfl rfl rfl (by omega) ht rfl
    repeat (refine stp rfl ?_ ?_;·repeat' constructor)
    apply qst;exact rfl;exact rfl;exact q_call rfl (people_ret w hn l hf.toPlan t.name) rfl (by repeat' constructor) rfl
    refine ps_run (o_range rfl rfl rfl rfl ?_)
    repeat (refine stp rfl ?_ ?_;·repeat' constructor)
    refine pw_loop (fun q : PV × List (Int × Int) × Int => q.2.1.foldl mostF q.2.2 = mostP (peopleP w l t.name)) (fun q => [(1, .sl (l.map ePl)), (2, .ptr 2 1 0 0), (5, .als 5 (1 + (atN (crowdAt w l) k).length) 0 ((atN (crowdAt w l) k).map eBr).length), (7, .ptr 7 ((s.own 7).1 + 1) 0 0), (8, I q.2.2), (12, .sl (w.trades.map eTrade)), (13, I w.trades.length), (14, I k), (23, .mi 23 ((s.own 23).1 + 1))])
      (fun q => [(2, 1, ⟨28, 9, [eWork w], 2⟩), (5, 1 + (atN (crowdAt w l) k).length, ⟨119, 3, (atN (crowdAt w l) k).map eBr, 0⟩), (7, (s.own 7).1 + 1, ⟨93, 3, [eTrade t], 2⟩), (23, (s.own 23).1 + 1, ⟨212, 0, [q.1 :: q.2.1.map (fun e => PV.agg (eKV e))], 3⟩)]) (fun q => q.2.1.length) (.nil, peopleP w l t.name, 0) rfl
      ⟨rfl, rfl, rfl, rfl, rfl, rfl, rfl, rfl, rfl, rfl, rfl, rfl, ?_, trivial⟩ ?_
    · show ((s.own 23).1 + 1, some (Cont.mk 212 0 [PV.nil :: ((peopleP w l t.name).map eKV).map PV.agg] 3)) = _
      rw [List.map_map]; rfl
    rintro ⟨last, rem, most⟩ s' hrem
    ((repeat (first | refine ps_nil ?_ | refine pq_nil ?_ | refine x_norm ?_ | refine pw_seq ?_)); refine pw_region ?_)
    refine ps_run (o_next rfl rfl (fun h0 => ?_) (fun i ck cv hi => ?_))
    · have hnil : rem = [] := by simpa using h0
      subst hnil
      have hmost : most = mostP (peopleP w l t.name) := hrem
      repeat (refine stp rfl ?_ ?_;·repeat' constructor)
      refine pw_cond rfl (fun h => ?_) (fun h => ?_)
      · have hc : t.crew < most := of_decide_eq_true h
        clear h
        have he : atN (crowdAt w l) (k + 1) = atN (crowdAt w l) k ++ [⟨t.name, [], 23⟩] := by rw [atN_succ, hat, if_pos (by omega)]
        repeat (refine stp rfl ?_ ?_;·repeat' constructor)
        apply qst;exact rfl;exact rfl;exact q_slit rfl rfl rfl rfl rfl rfl rfl rfl rfl rfl (by repeat' constructor) rfl
        repeat (refine stp rfl ?_ ?_;·repeat' constructor)
        refine ps_run (o_app 0 rfl rfl rfl rfl rfl rfl rfl rfl rfl rfl rfl (by repeat' constructor) (by intro row hr; first | (simp at hr; subst hr; rfl) | simp at hr) rfl rfl (by simp; omega) (by simp; omega) ?_)
        repeat (refine stp rfl ?_ ?_;·repeat' constructor)
        refine ⟨k + 1, hlt, by omega, rfl, rfl, ?_, rfl, rfl, ?_, rfl, ?_, trivial⟩
        · rw [he]; exact als_snoc eBr 5 1 (atN (crowdAt w l) k) ⟨t.name, [], 23⟩
        · exact i64_next (by omega) (by omega)
        · rw [he]; exact cont_snoc eBr 1 119 3 0 (atN (crowdAt w l) k) ⟨t.name, [], 23⟩
      · have hc : ¬ t.crew < most := of_decide_eq_false h
        clear h
        have he : atN (crowdAt w l) (k + 1) = atN (crowdAt w l) k := by rw [atN_succ, hat, if_neg (by omega), List.append_nil]
        repeat (refine stp rfl ?_ ?_;·repeat' constructor)
        refine ⟨k + 1, hlt, by omega, rfl, rfl, ?_, rfl, rfl, ?_, rfl, ?_, trivial⟩
        · rw [he]; rfl
        · exact i64_next (by omega) (by omega)
        · rw [he]; rfl
    · obtain ⟨e, hei, hee⟩ : ∃ e, rem[i]? = some e ∧ eKV e = [ck, cv] := by
        rw [List.getElem?_map] at hi
        cases hq : rem[i]? with
        | none => rw [hq] at hi; simp at hi
        | some e => rw [hq] at hi; simp at hi; exact ⟨e, rfl, hi⟩
      have h1 : ck = I e.1 := by simp [eKV] at hee; exact hee.1.symm
      have h2 : cv = I e.2 := by simp [eKV] at hee; exact hee.2.symm
      subst h1; subst h2
      have hlen := (List.getElem?_eq_some_iff.1 hei).1
      repeat (refine stp rfl ?_ ?_;·repeat' constructor)
      refine ps_q (q_entry rfl rfl) ?_
      repeat (refine stp rfl ?_ ?_;·repeat' constructor)
      refine ⟨(.agg [I e.1, I e.2], rem.eraseIdx i, mostF most e), ?_, ?_, rfl, rfl, rfl, rfl, rfl, rfl, rfl, rfl, rfl, rfl, rfl, rfl, ?_, trivial⟩
      · rw [← hrem]; exact most_erase rem most i e hei
      · show (rem.eraseIdx i).length < rem.length
        rw [List.length_eraseIdx, if_pos hlen]; omega
      · refine Eq.trans (b := ((s.own 23).1 + 1, some (Cont.mk 212 0 [PV.agg [I e.1, I e.2] :: (rem.map (fun e => PV.agg (eKV e))).eraseIdx i] 3))) rfl ?_
        rw [← Go.ChangeMaps.map_eraseIdx]
  · have hge : k = w.trades.length := by have := of_decide_eq_false h; omega
    subst hge
    repeat (refine stp rfl ?_ ?_;·repeat' constructor)
    exact end1 rfl rfl rfl ⟨rfl, rfl, rfl⟩ rfl
def cols : List FuncId := [146, 147, 148, 149, 150]
def eClo (f : FuncId) : List PV := [.clo f []]
theorem collectors_ret : Ret Tryz.prog .shared 120 [] (.sl (cols.map eClo)) := by
  refine Ret.of_pwp layOk mixed Go.Proofs.Tryz.func120 rfl (by decide) rfl rfl ?_
  repeat (refine stp rfl ?_ ?_;·repeat' constructor)
  apply qst;exact rfl;exact rfl;exact q_slit rfl rfl rfl rfl rfl rfl rfl rfl rfl rfl (by repeat' constructor) rfl
  repeat (refine stp rfl ?_ ?_;·repeat' constructor)
  exact end1 rfl rfl rfl trivial rfl
def partsP (w : SWork) (l : List SPl) : List (List SBr) := [earlyP w l, crowdP w l, clashP w l, haltP w l, lateP w l]
def breachP (w : SWork) (l : List SPl) : List SBr := (partsP w l).flatten
theorem parts_ret (w : SWork) (hw : Sane w) (hv : Well w) (l : List SPl) (hf : Full w l) (k : Nat) (f : FuncId) (p : List SBr) (h1 : cols[k]? = some f) (h2 : (partsP w l)[k]? = some p) : Ret Tryz.prog .shared f [.agg (eWork w), .sl (l.map ePl)] (.sl (p.map eBr)) := by
  match k, h1, h2 with
  | 0, h1, h2 => simp [cols] at h1; simp [partsP] at h2; subst h1; subst h2; exact early_ret w hw hv l hf
  | 1, h1, h2 => simp [cols] at h1; simp [partsP] at h2; subst h1; subst h2; exact crowded_ret w hv l hf
  | 2, h1, h2 => simp [cols] at h1; simp [partsP] at h2; subst h1; subst h2; exact clashing_ret w hw hv l hf
  | 3, h1, h2 => simp [cols] at h1; simp [partsP] at h2; subst h1; subst h2; exact halted_ret w hw hv l hf
  | 4, h1, h2 => simp [cols] at h1; simp [partsP] at h2; subst h1; subst h2; exact late_ret w hv l hf
  | k + 5, h1, _ => simp [cols] at h1
theorem parts_len (w : SWork) (hw : Sane w) (hv : Well w) (l : List SPl) : ∀ p ∈ partsP w l, p.length ≤ 4000000 := by
  have hn := hv.n40
  have ht := hv.t6
  have h1 := earlyN_len w hw l w.items.length
  have h2 := atN_len (crowdAt_len w l) w.trades.length
  have h3 := atN_len (f := fun i => clashRow w l i (w.items.length - (i + 1))) (c := 40) (fun i => by have := clashRow_len w l i (w.items.length - (i + 1)); omega) w.items.length
  have h4 := atN_len (haltAt_len w l) w.items.length
  have h5 := atN_len (lateAt_len w l) w.items.length
  intro p hp
  simp only [partsP, List.mem_cons, List.not_mem_nil, or_false] at hp
  rcases hp with rfl | rfl | rfl | rfl | rfl
  · rw [earlyP]; omega
  · rw [crowdP]; omega
  · rw [clashP]; omega
  · rw [haltP]; omega
  · rw [lateP]; omega
theorem flatten_len {α : Type} {c : Nat} : ∀ {l : List (List α)}, (∀ p ∈ l, p.length ≤ c) → l.flatten.length ≤ l.length * c
  | [], _ => by simp
  | a :: l, h => by
    have := flatten_len (l := l) fun p hp => h p (by simp [hp])
    have := h a (by simp)
    simp only [List.flatten_cons, List.length_append, List.length_cons, Nat.add_mul, Nat.one_mul]
    omega
theorem nodup_cover {α : Type} [DecidableEq α] : ∀ (A B : List α), A.Nodup → (∀ x ∈ A, x ∈ B) → B.length ≤ A.length → ∀ y ∈ B, y ∈ A
  | [], B, _, _, hl, y, hy => by
    have : B = [] := List.eq_nil_of_length_eq_zero (by simpa using hl)
    rw [this] at hy; exact hy
  | a :: A, B, hn, hs, hl, y, hy => by
    by_cases hya : y = a
    · simp [hya]
    · rw [List.nodup_cons] at hn
      have haB : a ∈ B := hs a (by simp)
      have := nodup_cover A (B.erase a) hn.2 (fun x hx => (List.mem_erase_of_ne (fun e => hn.1 (by rw [← e]; exact hx))).2 (hs x (by simp [hx]))) (by rw [List.length_erase_of_mem haB]; simp at hl; omega) y ((List.mem_erase_of_ne hya).2 hy)
      simp [this]
theorem full_of {w : SWork} {s : List SSlot} (h : slE w s = 0) : Well w ∧ Full w (placed w s) := by
  unfold slE at h
  have hw : workE w = 0 := by
    by_cases hz : workE w = 0
    · exact hz
    · rw [if_neg hz] at h; exact absurd h hz
  rw [if_pos hw] at h
  have hv := well_of hw
  have hlen : s.length = w.items.length := by
    unfold slotsE at h
    exact (ite_zero h (by omega)).1
  have hat := fun k sl => slot_of (k := k) (sl := sl) h
  have hnod : (s.map (·.item)).Nodup := by
    rw [List.nodup_iff_pairwise_ne, List.pairwise_iff_getElem]
    intro i j hi hj hij he
    simp only [List.getElem_map] at he
    have hi' : i < s.length := by simpa using hi
    have hj' : j < s.length := by simpa using hj
    have := (hat j _ (List.getElem?_eq_getElem hj')).2.1
    rw [List.any_eq_false] at this
    refine this s[i] ?_ (by simp [he])
    rw [List.mem_take_iff_getElem]
    exact ⟨i, by omega, rfl⟩
  have hcov := nodup_cover (s.map (·.item)) (w.items.map (·.name)) hnod (fun n hn => by
    obtain ⟨sl, hsl, rfl⟩ := List.mem_map.1 hn
    obtain ⟨k, hk, rfl⟩ := List.getElem_of_mem hsl
    obtain ⟨x, hx, hxn⟩ := idx_lt (hat k _ (List.getElem?_eq_getElem hk)).1
    exact List.mem_map.2 ⟨x, List.mem_of_getElem? hx, by simpa using hxn⟩) (by simp; omega)
  have hpl : ∀ x ∈ w.items, ∃ (k : Nat) (sl : SSlot), s[k]? = some sl ∧ sl.item = x.name ∧ pl s x.name = ⟨sl.mode, sl.day, true⟩ := by
    intro x hx
    obtain ⟨sl, hsl, hn⟩ := List.mem_map.1 (hcov x.name (List.mem_map.2 ⟨x, hx, rfl⟩))
    cases hf : s.find? (·.item == x.name) with
    | none =>
      rw [List.find?_eq_none] at hf
      exact absurd (by simp [hn]) (hf sl hsl)
    | some a =>
      obtain ⟨k, hk, hka⟩ := List.getElem_of_mem (List.mem_of_find?_eq_some hf)
      exact ⟨k, a, by rw [List.getElem?_eq_getElem hk, hka], by simpa using List.find?_some hf, by rw [pl, hf]⟩
  have main : ∀ (i : Nat) x p, w.items[i]? = some x → (placed w s)[i]? = some p → p.on = true ∧ PlOk x p := by
    intro i x p hx hp
    rw [placed, List.getElem?_map, hx] at hp
    have hp : pl s x.name = p := by simpa using hp
    obtain ⟨k, sl, hk, hn, he⟩ := hpl x (List.mem_of_getElem? hx)
    rw [he] at hp
    subst hp
    obtain ⟨g1, _, g3, g4⟩ := hat k sl hk
    have hmo : modesOf w sl = x.modes.length := by
      have := hv.good.uniq i x hx
      rw [modesOf, hn, this, Int.toNat_natCast, hx]
    rw [hmo] at g3
    exact ⟨rfl, plOk_of hv (List.mem_of_getElem? hx) g3.1 (by show sl.mode < _; omega) g4⟩
  refine ⟨hv, ⟨⟨by simp [placed], fun i x p hx hp _ => (main i x p hx hp).2⟩, fun i p hp => ?_⟩⟩
  have hi : i < w.items.length := by have := (List.getElem?_eq_some_iff.1 hp).1; simpa [placed] using this
  exact (main i _ p (List.getElem?_eq_getElem hi) hp).1
def breachR (w : SWork) (s : List SSlot) : PV := if slE w s = 0 then .tup [.sl ((breachP w (placed w s)).map eBr), I 0] else .tup [.nil, I (slE w s)]
theorem breaches_ret (w : SWork) (hw : Sane w) (s : List SSlot) : Ret Tryz.prog .shared 81 [.agg (eWork w), .sl (s.map eSlot)] (breachR w s) := by
  have h43 := slotsErr_ret w hw s
  by_cases hz : slE w s = 0
  · obtain ⟨hv, hf⟩ := full_of hz
    rw [slotsR, if_pos hz] at h43
    have hpl := parts_len w hw hv (placed w s)
    have hcl : cols.length = 5 := rfl
    have hpn : (partsP w (placed w s)).length = 5 := rfl
    refine Ret.of_pwp layOk mixed Go.Proofs.Tryz.func81 rfl (by decide) rfl rfl ?_
    repeat (refine stp rfl ?_ ?_;·repeat' constructor)
    apply qst;exact rfl;exact rfl;exact q_call rfl (h43) rfl (by repeat' constructor) rfl
    repeat (refine stp rfl ?_ ?_;·repeat' constructor)
    apply qst;exact rfl;exact rfl;exact q_call rfl (collectors_ret) rfl (by repeat' constructor) rfl
    repeat (refine stp rfl ?_ ?_;·repeat' constructor)
    refine pw_ghost (Ghost.nilreg (k := 8) (t := 8) 119 3 1 rfl rfl) ?_
    refine pw_loop (fun k => k ≤ 5) (fun k => [(2, .ptr 2 1 0 0), (6, .sl ((placed w s).map ePl)), (8, .als 8 (1 + k) 0 (((partsP w (placed w s)).take k).flatten.map eBr).length), (20, .sl (cols.map eClo)), (21, I 5), (22, I k)])
      (fun k => [(2, 1, ⟨28, 9, [eWork w], 2⟩), (8, 1 + k, ⟨119, 3, ((partsP w (placed w s)).take k).flatten.map eBr, 1⟩)]) (fun k => 5 - k) 0 (Nat.zero_le _) ⟨rfl, rfl, rfl, rfl, rfl, rfl, rfl, rfl, trivial⟩ ?_
    intro k st hk
    repeat (refine stp rfl ?_ ?_;·repeat' constructor)
    refine pw_cond rfl (fun h => ?_) (fun h => ?_)
    · have hlt : k < 5 := by have := of_decide_eq_true h; omega
      clear h
      obtain ⟨f, hfc⟩ := get_lt (show k < cols.length by omega)
      obtain ⟨p, hp⟩ := get_lt (show k < (partsP w (placed w s)).length by omega)
      have hbp := hpl p (List.mem_of_getElem? hp)
      have hbk := flatten_len (l := (partsP w (placed w s)).take k) (c := 4000000) fun q hq => hpl q (List.mem_of_mem_take hq)
      have htl : ((partsP w (placed w s)).take k).length = k := by rw [List.length_take]; omega
      have he : ((partsP w (placed w s)).take (k + 1)).flatten.map eBr = ((partsP w (placed w s)).take k).flatten.map eBr ++ p.map eBr := by rw [take_snoc hp, List.flatten_append, List.map_append]; simp
      rw [htl] at hbk
      repeat (refine stp rfl ?_ ?_;·repeat' constructor)
      apply qst;exact rfl;exact rfl;exact q_idxm rfl rfl rfl rfl rfl (by omega) hfc rfl
      repeat (refine stp rfl ?_ ?_;·repeat' constructor)
      apply qst;exact rfl;exact rfl;exact q_call rfl (parts_ret w hw hv (placed w s) hf k f p hfc hp) rfl (by repeat' constructor) rfl
      repeat (refine stp rfl ?_ ?_;·repeat' constructor)
      refine ps_run (o_app 1 rfl rfl rfl rfl rfl rfl rfl rfl rfl rfl rfl (by repeat' constructor) (by intro row hr; obtain ⟨b, _, rfl⟩ := List.mem_map.1 hr; rfl) rfl rfl (by simp only [List.length_map]; show _ * 40 ≤ _; omega) (by simp only [List.length_map]; omega) ?_)
      repeat (refine stp rfl ?_ ?_;·repeat' constructor)
      refine ⟨k + 1, hlt, by omega, rfl, rfl, ?_, rfl, rfl, ?_, rfl, ?_, trivial⟩
      · rw [he]; rfl
      · exact i64_next (by omega) (by omega)
      · rw [he]; rfl
    · have hge : k = 5 := by have := of_decide_eq_false h; omega
      subst hge
      repeat (refine stp rfl ?_ ?_;·repeat' constructor)
      exact end2 rfl rfl rfl rfl rfl ⟨rfl, rfl, rfl⟩ trivial (by rw [breachR, if_pos hz]; rfl)
  · rw [slotsR, if_neg hz] at h43
    refine Ret.of_pwp layOk mixed Go.Proofs.Tryz.func81 rfl (by decide) rfl rfl ?_
    repeat (refine stp rfl ?_ ?_;·repeat' constructor)
    apply qst;exact rfl;exact rfl;exact q_call rfl (h43) rfl (by repeat' constructor) rfl
    repeat (refine stp rfl ?_ ?_;·repeat' constructor)
    refine pw_cond rfl (fun h => ?_) (fun h => ?_)
    · repeat (refine stp rfl ?_ ?_;·repeat' constructor)
      exact end2 rfl rfl rfl rfl rfl trivial trivial (by rw [breachR, if_neg hz])
    · exact absurd (by simpa using h) hz
def firstR : List SBr → Int
  | [] => 0
  | b :: _ => b.r
def planE (w : SWork) (s : List SSlot) : Int := if slE w s = 0 then firstR (breachP w (placed w s)) else slE w s
def planR (w : SWork) (s : List SSlot) : PV := if planE w s = 0 then .tup [.sl ((placed w s).map ePl), I 0] else .tup [.nil, I (planE w s)]
theorem atN_r {f : Nat → List SBr} (h : ∀ i, ∀ b ∈ f i, b.r ≠ 0) (n : Nat) : ∀ b ∈ atN f n, b.r ≠ 0 := fun b hb => by
  obtain ⟨i, _, hi⟩ := List.mem_flatMap.1 hb
  exact h i b hi
theorem breach_r {w : SWork} {l : List SPl} : ∀ b ∈ breachP w l, b.r ≠ 0 := by
  intro b hb
  obtain ⟨p, hp, hbp⟩ := List.mem_flatten.1 hb
  simp only [partsP, List.mem_cons, List.not_mem_nil, or_false] at hp
  rcases hp with rfl | rfl | rfl | rfl | rfl
  · obtain ⟨i, _, hi⟩ := List.mem_flatMap.1 hbp
    obtain ⟨k, _, hk⟩ := List.mem_flatMap.1 hi
    unfold earlyAt at hk
    split at hk
    · simp at hk; subst hk; simp
    · simp at hk
  · refine atN_r (fun i b hb => ?_) _ b hbp
    unfold crowdAt at hb
    split at hb
    · split at hb
      · simp at hb; subst hb; simp
      · simp at hb
    · simp at hb
  · refine atN_r (fun i b hb => ?_) _ b hbp
    obtain ⟨k, _, hk⟩ := List.mem_flatMap.1 hb
    unfold clashAt at hk
    split at hk
    · simp at hk; subst hk; simp
    · simp at hk
  · refine atN_r (fun i b hb => ?_) _ b hbp
    unfold haltAt at hb
    split at hb
    · simp at hb; subst hb; simp
    · simp at hb
  · refine atN_r (fun i b hb => ?_) _ b hbp
    unfold lateAt at hb
    split at hb
    · simp at hb; subst hb; simp
    · simp at hb
theorem planE_zero {w : SWork} {s : List SSlot} (h : planE w s = 0) : slE w s = 0 ∧ breachP w (placed w s) = [] := by
  unfold planE at h
  obtain ⟨h1, h2⟩ : slE w s = 0 ∧ firstR (breachP w (placed w s)) = 0 := by
    by_cases hz : slE w s = 0
    · rw [if_pos hz] at h; exact ⟨hz, h⟩
    · rw [if_neg hz] at h; exact absurd h hz
  refine ⟨h1, ?_⟩
  cases hb : breachP w (placed w s) with
  | nil => rfl
  | cons b l =>
    rw [hb] at h2
    exact absurd h2 (breach_r b (by rw [hb]; simp))
theorem plan_ret (w : SWork) (hw : Sane w) (s : List SSlot) : Ret Tryz.prog .shared 46 [.agg (eWork w), .sl (s.map eSlot)] (planR w s) := by
  have h43 := slotsErr_ret w hw s
  have h13 := breaches_ret w hw s
  by_cases hz : slE w s = 0
  · rw [breachR, if_pos hz] at h13
    rw [slotsR, if_pos hz] at h43
    cases hb : breachP w (placed w s) with
    | nil =>
      rw [hb] at h13
      have hp : planE w s = 0 := by rw [planE, if_pos hz, hb]; rfl
      refine Ret.of_pwp layOk mixed Go.Proofs.Tryz.func46 rfl (by decide) rfl rfl ?_
      repeat (refine stp rfl ?_ ?_;·repeat' constructor)
      apply qst;exact rfl;exact rfl;exact q_call rfl (h13) rfl (by repeat' constructor) rfl
      repeat (refine stp rfl ?_ ?_;·repeat' constructor)
      apply qst;exact rfl;exact rfl;exact q_call rfl (h43) rfl (by repeat' constructor) rfl
      repeat (refine stp rfl ?_ ?_;·repeat' constructor)
      exact end2 rfl rfl rfl rfl rfl trivial trivial (by rw [planR, if_pos hp])
    | cons b l =>
      rw [hb] at h13
      have hp : planE w s = b.r := by rw [planE, if_pos hz, hb]; rfl
      have hne : ¬ planE w s = 0 := by rw [hp]; exact breach_r b (by rw [hb]; simp)
      have h0 : (b :: l)[0]? = some b := rfl
      refine Ret.of_pwp layOk mixed Go.Proofs.Tryz.func46 rfl (by decide) rfl rfl ?_
      repeat (refine stp rfl ?_ ?_;·repeat' constructor)
      apply qst;exact rfl;exact rfl;exact q_call rfl (h13) rfl (by repeat' constructor) rfl
      repeat (refine stp rfl ?_ ?_;·repeat' constructor)
      refine pw_cond rfl (fun h => ?_) (fun h => ?_)
      · repeat (refine stp rfl ?_ ?_;·repeat' constructor)
        refine pw_draw 6 [20, 21, 22, 23, 4, 5] (by decide +kernel) ?_
        repeat (refine stp rfl ?_ ?_;·repeat' constructor)
        apply qst;exact rfl;exact rfl;exact q_idxm (n := (((0:Nat):Int) : Int)) rfl rfl rfl rfl rfl (by omega) h0 rfl
        repeat (refine stp rfl ?_ ?_;·repeat' constructor)
        exact end2 rfl rfl rfl rfl rfl trivial trivial (by rw [planR, if_neg hne, hp])
      · exact absurd (of_decide_eq_false h) (by simp)
  · rw [breachR, if_neg hz] at h13
    have hp : planE w s = slE w s := by rw [planE, if_neg hz]
    refine Ret.of_pwp layOk mixed Go.Proofs.Tryz.func46 rfl (by decide) rfl rfl ?_
    repeat (refine stp rfl ?_ ?_;·repeat' constructor)
    apply qst;exact rfl;exact rfl;exact q_call rfl (h13) rfl (by repeat' constructor) rfl
    repeat (refine stp rfl ?_ ?_;·repeat' constructor)
    refine pw_cond rfl (fun h => ?_) (fun h => ?_)
    · repeat (refine stp rfl ?_ ?_;·repeat' constructor)
      exact end2 rfl rfl rfl rfl rfl trivial trivial (by rw [planR, hp, if_neg hz])
    · exact absurd (by simpa using h) hz
theorem costF_ret (w : SWork) (hw : Sane w) (s : List SSlot) : Ret Tryz.prog .shared 15 [.agg (eWork w), .sl (s.map eSlot)] (.tup [I (if planE w s = 0 then costP w (placed w s) else 0), I (planE w s)]) := by
  have h45 := plan_ret w hw s
  by_cases hz : planE w s = 0
  · obtain ⟨hv, hf⟩ := full_of (planE_zero hz).1
    rw [planR, if_pos hz] at h45
    refine Ret.of_pwp layOk mixed Go.Proofs.Tryz.func15 rfl (by decide) rfl rfl ?_
    repeat (refine stp rfl ?_ ?_;·repeat' constructor)
    apply qst;exact rfl;exact rfl;exact q_call rfl (h45) rfl (by repeat' constructor) rfl
    repeat (refine stp rfl ?_ ?_;·repeat' constructor)
    apply qst;exact rfl;exact rfl;exact q_callP rfl (cost_ret w hw hv (placed w s) hf.toPlan) rfl (by repeat' constructor) rfl rfl
    repeat (refine stp rfl ?_ ?_;·repeat' constructor)
    exact end2 rfl rfl rfl rfl rfl trivial trivial (by rw [if_pos hz, hz])
  · rw [planR, if_neg hz] at h45
    refine Ret.of_pwp layOk mixed Go.Proofs.Tryz.func15 rfl (by decide) rfl rfl ?_
    repeat (refine stp rfl ?_ ?_;·repeat' constructor)
    apply qst;exact rfl;exact rfl;exact q_call rfl (h45) rfl (by repeat' constructor) rfl
    repeat (refine stp rfl ?_ ?_;·repeat' constructor)
    refine pw_cond rfl (fun h => ?_) (fun h => ?_)
    · repeat (refine stp rfl ?_ ?_;·repeat' constructor)
      exact end2 rfl rfl rfl rfl rfl trivial trivial (by rw [if_neg hz])
    · exact absurd (by simpa using h) hz
end Go.Pv


set_option maxHeartbeats 2000000
namespace Go.Pv
attribute [local irreducible] PWP POps PQuiet PSem XThen XBlock RetPost InlPost
open Go.Proofs
def sortOf (s : List SSlot) (x : SItem) : List SSlot := s.filter (·.item == x.name)
def sortK (w : SWork) (s : List SSlot) (k : Nat) : List SSlot := (w.items.take k).flatMap (sortOf s)
def sortS (w : SWork) (s : List SSlot) : List SSlot := w.items.flatMap (sortOf s)
def sortJ (w : SWork) (s : List SSlot) (k : Nat) (x : SItem) (j : Nat) : List SSlot := sortK w s k ++ sortOf (s.take j) x
theorem sortOf_len (s : List SSlot) (x : SItem) : (sortOf s x).length ≤ s.length := List.length_filter_le _ _
theorem sortK_len (w : SWork) (s : List SSlot) (k : Nat) (hk : k ≤ w.items.length) : (sortK w s k).length ≤ k * s.length := by
  have := flatMap_len (sortOf_len s) (w.items.take k)
  rw [List.length_take, Nat.min_eq_left hk] at this
  exact this
theorem sorted_ref (w : SWork) (hn : w.items.length ≤ 1000) (s : List SSlot) (hs : s.length ≤ 1000) : Ret Tryz.prog .shared 87 [.agg (eWork w), .sl (s.map eSlot)] (.sl ((sortS w s).map eSlot)) := by
  have hml : ((w.items.map eItem).length : Int) = w.items.length := by simp
  have hsl : ((s.map eSlot).length : Int) = s.length := by simp
  have hall : sortK w s w.items.length = sortS w s := by rw [sortK, List.take_length]; rfl
  refine Ret.of_pwp layOk mixed Go.Proofs.Tryz.func87 rfl (by decide) rfl rfl ?_
  ((repeat (first | refine ps_nil ?_ | refine pq_nil ?_ | refine x_norm ?_ | refine pw_seq ?_)); refine pw_region ?_)
  refine ps_run (o_box rfl rfl rfl (by repeat' constructor) rfl ?_)
  refine ps_v rfl trivial ?_
  ((repeat (first | refine ps_nil ?_ | refine pq_nil ?_ | refine x_norm ?_ | refine pw_seq ?_)); refine pw_region ?_)
  (first | refine ps_run (o_nilm 64 3 0 rfl rfl ?_) | refine ps_run (o_nila 64 3 0 rfl rfl ?_))
  repeat (refine stp rfl ?_ ?_;·repeat' constructor)
  refine pw_loop (fun k => k ≤ w.items.length) (fun k => [(1, .sl (s.map eSlot)), (2, .ptr 2 1 0 0), (5, .als 5 (1 + (sortK w s k).length) 0 ((sortK w s k).map eSlot).length), (6, I k)])
    (fun k => [(2, 1, ⟨28, 9, [eWork w], 2⟩), (5, 1 + (sortK w s k).length, ⟨64, 3, (sortK w s k).map eSlot, 0⟩)]) (fun k => w.items.length - k) 0 (Nat.zero_le _) ⟨rfl, rfl, rfl, rfl, rfl, rfl, trivial⟩ ?_
  intro k s1 hk
  repeat (refine stp rfl ?_ ?_;·repeat' constructor)
  refine pw_cond rfl (fun h => ?_) (fun h => ?_)
  · have hlt : k < w.items.length := by simpa using h
    clear h
    obtain ⟨x, hx⟩ := get_lt hlt
    have e0 : sortJ w s k x 0 = sortK w s k := by simp [sortJ, sortOf]
    have hsucc : sortK w s (k + 1) = sortJ w s k x s.length := by rw [sortJ, List.take_length, sortK, take_snoc hx, List.flatMap_append]; simp [sortK]
    have hkl := sortK_len w s k hk
    have hkb : k * s.length ≤ 1000 * 1000 := Nat.mul_le_mul (by omega) hs
    repeat (refine stp rfl ?_ ?_;·repeat' constructor)
    refine pw_loop (fun j => j ≤ s.length) (fun j => [(1, .sl (s.map eSlot)), (2, .ptr 2 1 0 0), (5, .als 5 (1 + (sortJ w s k x j).length) 0 ((sortJ w s k x j).map eSlot).length), (6, I k), (7, I j)])
      (fun j => [(2, 1, ⟨28, 9, [eWork w], 2⟩), (5, 1 + (sortJ w s k x j).length, ⟨64, 3, (sortJ w s k x j).map eSlot, 0⟩)]) (fun j => s.length - j) 0 (Nat.zero_le _) ⟨rfl, rfl, ?_, rfl, rfl, rfl, ?_, trivial⟩ ?_
    · rw [e0]; rfl
    · rw [e0]; rfl
    intro j s2 hj
    repeat (refine stp rfl ?_ ?_;·repeat' constructor)
    refine pw_cond rfl (fun h => ?_) (fun h => ?_)
    · have hlt' : j < s.length := by simpa using h
      clear h
      obtain ⟨sl, hsl'⟩ := get_lt hlt'
      have hb : (sortJ w s k x j).length ≤ 2000000 := by
        have h1 := sortOf_len (s.take j) x
        rw [List.length_take] at h1
        rw [sortJ, List.length_append]; omega
      have hstep : sortJ w s k x (j + 1) = sortJ w s k x j ++ (if sl.item = x.name then [sl] else []) := by
        rw [sortJ, take_snoc hsl', sortOf, List.filter_append, sortJ, List.append_assoc, sortOf]
        by_cases he : sl.item = x.name
        · simp [he]
        · simp [he]
      repeat (refine stp rfl ?_ ?_;·repeat' constructor)
      refine pw_draw 12 [21, 22, 23, 24, 25, 26, 27, 28, 29, 30, 31, 32] (by decide +kernel) ?_
      repeat (refine stp rfl ?_ ?_;·repeat' constructor)
      apply qst;exact rfl;exact rfl;exact q_idxm rfl rfl rfl rfl rfl (by omega) hsl' rfl
      repeat (refine stp rfl ?_ ?_;·repeat' constructor)
      apply qst;exact rfl;exact rfl;exact q_idxm rfl rfl rfl rfl rfl (by omega) hx rfl
      repeat (refine stp rfl ?_ ?_;·repeat' constructor)
      refine pw_cond rfl (fun h => ?_) (fun h => ?_)
      · have he : sl.item = x.name := of_decide_eq_true h
        clear h
        rw [if_pos he] at hstep
        repeat (refine stp rfl ?_ ?_;·repeat' constructor)
        apply qst;exact rfl;exact rfl;exact q_idxm rfl rfl rfl rfl rfl (by omega) hsl' rfl
        repeat (refine stp rfl ?_ ?_;·repeat' constructor)
        apply qst;exact rfl;exact rfl;exact q_slit rfl rfl rfl rfl rfl rfl rfl rfl rfl rfl (by repeat' constructor) rfl
        repeat (refine stp rfl ?_ ?_;·repeat' constructor)
        refine ps_run (o_app 0 rfl rfl rfl rfl rfl rfl rfl rfl rfl rfl rfl (by repeat' constructor) (by intro row hr; first | (simp at hr; subst hr; rfl) | simp at hr) rfl rfl (by simp; omega) (by simp; omega) ?_)
        repeat (refine stp rfl ?_ ?_;·repeat' constructor)
        refine ⟨j + 1, hlt', by omega, rfl, rfl, ?_, rfl, ?_, rfl, ?_, trivial⟩
        · rw [hstep]; exact als_snoc eSlot 5 1 (sortJ w s k x j) sl
        · exact i64_next (by omega) (by omega)
        · rw [hstep]; exact cont_snoc eSlot 1 64 3 0 (sortJ w s k x j) sl
      · have he : ¬ sl.item = x.name := of_decide_eq_false h
        clear h
        rw [if_neg he, List.append_nil] at hstep
        repeat (refine stp rfl ?_ ?_;·repeat' constructor)
        refine ⟨j + 1, hlt', by omega, rfl, rfl, ?_, rfl, ?_, rfl, ?_, trivial⟩
        · rw [hstep]; rfl
        · exact i64_next (by omega) (by omega)
        · rw [hstep]; rfl
    · have hge : j = s.length := by have := of_decide_eq_false h; omega
      subst hge
      clear h
      rw [← hsucc]
      repeat (refine stp rfl ?_ ?_;·repeat' constructor)
      exact ⟨k + 1, hlt, by omega, rfl, rfl, rfl, i64_next (by omega) (by omega), rfl, rfl, trivial⟩
  · have hge : k = w.items.length := by have := of_decide_eq_false h; omega
    subst hge
    clear h
    rw [hall]
    repeat (refine stp rfl ?_ ?_;·repeat' constructor)
    exact end1 rfl rfl rfl ⟨rfl, rfl, rfl⟩ rfl
end Go.Pv


set_option maxHeartbeats 2000000
namespace Go.Pv
attribute [local irreducible] PWP POps PQuiet PSem XThen XBlock RetPost InlPost
open Go.Proofs
def slOf (q : SItem × SPl) : SSlot := ⟨q.1.name, q.2.mode, q.2.day⟩
def srt (w : SWork) (l : List SPl) : List SSlot := (prs w l).map slOf
theorem filter_nodup : ∀ (s : List SSlot) (n : Str) (a : SSlot), (s.map (·.item)).Nodup → s.find? (·.item == n) = some a → s.filter (·.item == n) = [a]
  | [], _, _, _, h => by simp at h
  | b :: t, n, a, hn, h => by
    rw [List.map_cons, List.nodup_cons] at hn
    by_cases hb : b.item = n
    · have hba : b = a := by simpa [List.find?_cons, hb] using h
      rw [List.filter_cons, if_pos (by simp [hb]), ← hba]
      congr 1
      rw [List.filter_eq_nil_iff]
      intro c hc hcn
      exact hn.1 (List.mem_map.2 ⟨c, hc, by rw [hb]; simpa using hcn⟩)
    · have hbn : (b.item == n) = false := by simp [hb]
      rw [List.find?_cons, hbn] at h
      rw [List.filter_cons, hbn]
      exact filter_nodup t n a hn.2 h
theorem slots_nodup {w : SWork} {s : List SSlot} (h : slotsE w s = 0) : (s.map (·.item)).Nodup := by
  have hat := fun k sl => slot_of (k := k) (sl := sl) h
  rw [List.nodup_iff_pairwise_ne, List.pairwise_iff_getElem]
  intro i j hi hj hij he
  simp only [List.getElem_map] at he
  have hi' : i < s.length := by simpa using hi
  have hj' : j < s.length := by simpa using hj
  have := (hat j _ (List.getElem?_eq_getElem hj')).2.1
  rw [List.any_eq_false] at this
  refine this s[i] ?_ (by simp [he])
  rw [List.mem_take_iff_getElem]
  exact ⟨i, by omega, rfl⟩
theorem flatMap_one {α β : Type} {f : α → List β} {g : α → β} : ∀ {l : List α}, (∀ x ∈ l, f x = [g x]) → l.flatMap f = l.map g
  | [], _ => rfl
  | a :: l, h => by
    rw [List.flatMap_cons, List.map_cons, h a (by simp), flatMap_one fun x hx => h x (by simp [hx])]; rfl
theorem zip_self {α β γ : Type} (g : α → β) (f : α × β → γ) : ∀ l : List α, (l.zip (l.map g)).map f = l.map fun x => f (x, g x)
  | [] => rfl
  | a :: l => by simp [zip_self g f l]
theorem slE_parts {w : SWork} {s : List SSlot} (h : slE w s = 0) : workE w = 0 ∧ slotsE w s = 0 := by
  unfold slE at h
  by_cases hz : workE w = 0
  · rw [if_pos hz] at h; exact ⟨hz, h⟩
  · rw [if_neg hz] at h; exact absurd h hz
theorem sorted_eq {w : SWork} {s : List SSlot} (h : slE w s = 0) : sortS w s = srt w (placed w s) := by
  obtain ⟨hv, hf⟩ := full_of h
  have hn := slots_nodup (slE_parts h).2
  rw [srt, prs, placed, zip_self, sortS]
  refine flatMap_one fun x hx => ?_
  obtain ⟨i, hi, rfl⟩ := List.getElem_of_mem hx
  have hp : (placed w s)[i]? = some (pl s w.items[i].name) := by rw [placed, List.getElem?_map, List.getElem?_eq_getElem hi]; rfl
  have hon := hf.on i _ hp
  rw [sortOf]
  cases hfd : s.find? (·.item == w.items[i].name) with
  | none => rw [pl, hfd] at hon; cases hon
  | some a =>
    rw [filter_nodup s _ a hn hfd]
    have ha : a.item = w.items[i].name := by simpa using List.find?_some hfd
    show [a] = [slOf (w.items[i], pl s w.items[i].name)]
    rw [pl, hfd, slOf]
    show [a] = [⟨w.items[i].name, a.mode, a.day⟩]
    rw [← ha]
def qS (q : List (SItem × SPl)) : List SSlot := q.map slOf
structure QOk (w : SWork) (q : List (SItem × SPl)) : Prop where
  len : q.length ≤ 4000
  at_ : ∀ (k : Nat) x p, q[k]? = some (x, p) → x ∈ w.items ∧ PlOk x p ∧ p.on = true
theorem qS_at {q : List (SItem × SPl)} {k : Nat} {x : SItem} {p : SPl} (h : q[k]? = some (x, p)) : (qS q)[k]? = some ⟨x.name, p.mode, p.day⟩ := by
  rw [qS, List.getElem?_map, h]; rfl
theorem qS_len (q : List (SItem × SPl)) : (qS q).length = q.length := by simp [qS]
theorem slotAt_it {w : SWork} (hv : Well w) {x : SItem} {p : SPl} (hx : x ∈ w.items) (hok : PlOk x p) : SlotAt w ⟨x.name, p.mode, p.day⟩ x (modeAt x p.mode) := by
  obtain ⟨k, hk, rfl⟩ := List.getElem_of_mem hx
  have hu := hv.good.uniq k _ (List.getElem?_eq_getElem hk)
  exact ⟨by show 0 ≤ idx w.items (·.name == w.items[k].name); omega, by show w.items[(idx w.items (·.name == w.items[k].name)).toNat]? = _; rw [hu, Int.toNat_natCast, List.getElem?_eq_getElem hk], hok.lo, hok.mode, hok.day, hok.days⟩
theorem QOk.slotAt {w : SWork} {q : List (SItem × SPl)} (h : QOk w q) (hv : Well w) {k : Nat} {x : SItem} {p : SPl} (hk : q[k]? = some (x, p)) : SlotAt w ⟨x.name, p.mode, p.day⟩ x (modeAt x p.mode) :=
  slotAt_it hv (h.at_ k x p hk).1 (h.at_ k x p hk).2.1
def durQ (q : List (SItem × SPl)) : Int := q.foldl durF 0
theorem durQ_bound {w : SWork} {q : List (SItem × SPl)} (h : QOk w q) (k : Nat) : 0 ≤ (q.take k).foldl durF 0 ∧ (q.take k).foldl durF 0 ≤ 460 := by
  induction k with
  | zero => simp
  | succ k ih =>
    cases hq : q[k]? with
    | none => rw [List.take_of_length_le (by have := List.getElem?_eq_none_iff.1 hq; omega)] at ih ⊢; exact ih
    | some a =>
      obtain ⟨x, p⟩ := a
      rw [take_snoc hq, List.foldl_append]
      generalize List.foldl durF 0 (q.take k) = n at ih ⊢
      show 0 ≤ durF _ _ ∧ durF _ _ ≤ 460
      obtain ⟨_, hok, hon⟩ := h.at_ k x p hq
      have h1 := hok.day
      have h2 := hok.days
      have := imax_bound (N := 460) ih.1 ih.2 (show 0 ≤ endP x p by unfold endP; omega) (show endP x p ≤ 460 by unfold endP; omega)
      unfold durF
      simpa [hon] using this
theorem durQ_bd {w : SWork} {q : List (SItem × SPl)} (h : QOk w q) : 0 ≤ durQ q ∧ durQ q ≤ 460 := by
  have := durQ_bound h q.length
  rwa [List.take_length] at this
theorem QOk.of_full {w : SWork} {l : List SPl} (hv : Well w) (hf : Full w l) : QOk w (prs w l) := by
  refine ⟨?_, fun k x p h => ?_⟩
  · have := hv.n40
    simp only [prs, List.length_zip]
    omega
  · rw [prs, List.getElem?_zip_eq_some] at h
    exact ⟨List.mem_of_getElem? h.1, hf.at_ h.1 h.2, hf.on k p h.2⟩
theorem qS_prs (w : SWork) (l : List SPl) : qS (prs w l) = srt w l := rfl
theorem days_ref (w : SWork) (hw : Sane w) (hv : Well w) (q : List (SItem × SPl)) (hq : QOk w q) : Ret Tryz.prog .shared 124 [.agg (eWork w), .sl ((qS q).map eSlot)] (I (durQ q)) := by
  have hn := hq.len
  have hsl := qS_len q
  have hml : (((qS q).map eSlot).length : Int) = q.length := by simp [hsl]
  refine Ret.of_pwp layOk mixed Go.Proofs.Tryz.func124 rfl (by decide) rfl rfl ?_
  repeat (refine stp rfl ?_ ?_;·repeat' constructor)
  refine pw_loop (fun k => k ≤ q.length) (fun k => [(1, .sl ((qS q).map eSlot)), (2, .ptr 2 1 0 0), (5, I ((q.take k).foldl durF 0)), (6, I k)]) (fun _ => [(2, 1, ⟨28, 9, [eWork w], 2⟩)]) (fun k => q.length - k) 0 (Nat.zero_le _) ⟨rfl, rfl, rfl, rfl, rfl, trivial⟩ ?_
  intro k s hk
  repeat (refine stp rfl ?_ ?_;·repeat' constructor)
  refine pw_cond rfl (fun h => ?_) (fun h => ?_)
  · have hlt : k < q.length := by have := of_decide_eq_true h; omega
    obtain ⟨⟨x, p⟩, hp⟩ := get_lt hlt
    clear h
    have hb := durQ_bound hq k
    have hs := take_snoc hp
    obtain ⟨_, hok, hon⟩ := hq.at_ k x p hp
    have hsk := qS_at hp
    repeat (refine stp rfl ?_ ?_;·repeat' constructor)
    refine pw_draw 8 [13, 14, 15, 16, 17, 18, 19, 20] (by decide +kernel) ?_
    repeat (refine stp rfl ?_ ?_;·repeat' constructor)
    apply qst;exact rfl;exact rfl;exact q_idxm rfl rfl rfl rfl rfl (by omega) hsk rfl
    repeat (refine stp rfl ?_ ?_;·repeat' constructor)
    apply qst;exact rfl;exact rfl;exact q_callP rfl (end_ref w hw _ (hq.slotAt hv hp)) rfl (by repeat' constructor) rfl rfl
    repeat (refine stp rfl ?_ ?_;·repeat' constructor)
    refine ⟨k + 1, hlt, by omega, rfl, rfl, ?_, ?_, rfl, trivial⟩
    · rw [hs, List.foldl_append]
      show _ = I (durF _ _)
      rw [durF, hon, if_pos rfl, imax]
      rfl
    · exact i64_next (by omega) (by omega)
  · have hge : k = q.length := by have := of_decide_eq_false h; omega
    subst hge
    repeat (refine stp rfl ?_ ?_;·repeat' constructor)
    refine end1i rfl rfl ?_
    rw [List.take_length]
    rfl
end Go.Pv


set_option maxHeartbeats 2000000
namespace Go.Pv
attribute [local irreducible] PWP POps PQuiet PSem XThen XBlock RetPost InlPost
open Go.Proofs
theorem le_imax {a b : Int} : a ≤ imax a b ∧ b ≤ imax a b := by unfold imax; split <;> omega
theorem imax_le {a b B : Int} : imax a b ≤ B ↔ a ≤ B ∧ b ≤ B := by unfold imax; split <;> omega
theorem fold_le {α : Type} (f : α → Int) : ∀ (l : List α) (s B : Int), l.foldl (fun n x => imax n (f x)) s ≤ B ↔ s ≤ B ∧ ∀ x ∈ l, f x ≤ B
  | [], s, B => by simp
  | a :: l, s, B => by
    rw [List.foldl_cons, fold_le f l, imax_le]
    constructor
    · rintro ⟨⟨h1, h2⟩, h3⟩
      exact ⟨h1, fun x hx => by rcases List.mem_cons.1 hx with rfl | hx; · exact h2
                                · exact h3 x hx⟩
    · rintro ⟨h1, h2⟩
      exact ⟨⟨h1, h2 a (by simp)⟩, fun x hx => h2 x (by simp [hx])⟩
theorem durF_ge : ∀ (l : List (SItem × SPl)) (n : Int), n ≤ l.foldl durF n ∧ ∀ q ∈ l, q.2.on = true → endP q.1 q.2 ≤ l.foldl durF n
  | [], n => by simp
  | a :: l, n => by
    rw [List.foldl_cons]
    have ih := durF_ge l (durF n a)
    have h0 : n ≤ durF n a := by unfold durF; split
                                 · exact le_imax.1
                                 · exact Int.le_refl _
    refine ⟨Int.le_trans h0 ih.1, fun q hq hon => ?_⟩
    rcases List.mem_cons.1 hq with rfl | hq
    · refine Int.le_trans ?_ ih.1
      rw [durF, if_pos hon]; exact le_imax.2
    · exact ih.2 q hq hon
theorem end_le {w : SWork} {l : List SPl} (hf : Full w l) {k : Nat} {x : SItem} {p : SPl} (hx : w.items[k]? = some x) (hp : l[k]? = some p) : endP x p ≤ durP w l :=
  (durF_ge (prs w l) 0).2 (x, p) (List.mem_of_getElem? (prs_at hx hp)) (hf.on k p hp)
def bumpL (a : List Int) (d : Nat) (c : Int) : List Int := a.set d (a.getD d 0 + c)
def spanL (a : List Int) (d : Nat) (c : Int) (j : Nat) : List Int := (List.range j).foldl (fun a i => bumpL a (d + i) c) a
theorem spanL_succ (a : List Int) (d : Nat) (c : Int) (j : Nat) : spanL a d c (j + 1) = bumpL (spanL a d c j) (d + j) c := by
  rw [spanL, List.range_succ, List.foldl_append]; rfl
theorem spanL_len (a : List Int) (d : Nat) (c : Int) (j : Nat) : (spanL a d c j).length = a.length := by
  induction j with
  | zero => rfl
  | succ j ih => rw [spanL_succ, bumpL, List.length_set, ih]
def loadF (t : Str) (a : List Int) (q : SItem × SPl) : List Int := if q.1.trade = t then spanL a q.2.day.toNat (modeAt q.1 q.2.mode).crew (modeAt q.1 q.2.mode).days.toNat else a
def loadK (w : SWork) (l : List SPl) (t : Str) (k : Nat) : List Int := ((prs w l).take k).foldl (loadF t) (List.replicate (durP w l).toNat 0)
def loadA (w : SWork) (l : List SPl) (t : Str) : List Int := (prs w l).foldl (loadF t) (List.replicate (durP w l).toNat 0)
theorem loadF_len (t : Str) (a : List Int) (q : SItem × SPl) : (loadF t a q).length = a.length := by
  unfold loadF; split
  · exact spanL_len _ _ _ _
  · rfl
theorem loadK_succ {w : SWork} {l : List SPl} {t : Str} {k : Nat} {x : SItem} {p : SPl} (hx : w.items[k]? = some x) (hp : l[k]? = some p) : loadK w l t (k + 1) = loadF t (loadK w l t k) (x, p) := by
  rw [loadK, take_snoc (prs_at hx hp), List.foldl_append]; rfl
theorem loadK_len (w : SWork) (l : List SPl) (t : Str) (k : Nat) : (loadK w l t k).length = (durP w l).toNat := by
  unfold loadK
  generalize (prs w l).take k = q
  have : ∀ (q : List (SItem × SPl)) (a : List Int), (q.foldl (loadF t) a).length = a.length := by
    intro q
    induction q with
    | nil => intro a; rfl
    | cons b q ih => intro a; rw [List.foldl_cons, ih, loadF_len]
  rw [this, List.length_replicate]
structure Same (m : List (Int × Int)) (a : List Int) : Prop where
  nodup : (m.map (·.1)).Nodup
  keys : ∀ e ∈ m, 0 ≤ e.1 ∧ e.1 < a.length
  get : ∀ d : Nat, d < a.length → aget m d = a.getD d 0
theorem aget_put (m : List (Int × Int)) (k v j : Int) : aget (aput k v m) j = if k = j then v else aget m j := by
  induction m with
  | nil => simp [aput, aget]
  | cons e m ih =>
    obtain ⟨d, c⟩ := e
    unfold aput
    by_cases hd : d = k
    · rw [if_pos hd]
      subst hd
      unfold aget
      by_cases hj : d = j
      · rw [if_pos hj, if_pos hj]
      · rw [if_neg hj, if_neg hj, if_neg hj]
    · rw [if_neg hd]
      unfold aget
      by_cases hj : d = j
      · rw [if_pos hj, if_pos hj, if_neg (by omega)]
      · rw [if_neg hj, if_neg hj, ih]
theorem aput_keys (m : List (Int × Int)) (k v : Int) : ∀ x, x ∈ (aput k v m).map (·.1) → x = k ∨ x ∈ m.map (·.1) := by
  induction m with
  | nil => intro x hx; simp [aput] at hx; exact .inl hx
  | cons e m ih =>
    obtain ⟨d, c⟩ := e
    intro x hx
    unfold aput at hx
    by_cases hd : d = k
    · rw [if_pos hd] at hx
      exact .inr hx
    · rw [if_neg hd, List.map_cons, List.mem_cons] at hx
      rcases hx with rfl | hx
      · exact .inr (by simp)
      · rcases ih x hx with h | h
        · exact .inl h
        · exact .inr (by rw [List.map_cons, List.mem_cons]; exact .inr h)
theorem aput_nodup (m : List (Int × Int)) (k v : Int) (h : (m.map (·.1)).Nodup) : ((aput k v m).map (·.1)).Nodup := by
  induction m with
  | nil => simp [aput]
  | cons e m ih =>
    obtain ⟨d, c⟩ := e
    rw [List.map_cons, List.nodup_cons] at h
    unfold aput
    by_cases hd : d = k
    · rw [if_pos hd, List.map_cons, List.nodup_cons]; exact h
    · rw [if_neg hd, List.map_cons, List.nodup_cons]
      refine ⟨fun hx => ?_, ih h.2⟩
      rcases aput_keys m k v d hx with h1 | h1
      · exact hd h1
      · exact h.1 h1
theorem Same.add {m : List (Int × Int)} {a : List Int} (h : Same m a) {d : Nat} (hd : d < a.length) (c : Int) : Same (addM m d c) (bumpL a d c) := by
  refine ⟨aput_nodup _ _ _ h.nodup, fun e he => ?_, fun j hj => ?_⟩
  · rw [bumpL, List.length_set]
    rcases aput_keys m d _ e.1 (List.mem_map.2 ⟨e, he, rfl⟩) with h1 | h1
    · omega
    · obtain ⟨e', he', hk⟩ := List.mem_map.1 h1
      have := h.keys e' he'
      omega
  · rw [bumpL, List.length_set] at hj
    rw [addM, aget_put, bumpL, List.getD_eq_getElem?_getD]
    by_cases hjd : (d : Int) = j
    · have : d = j := by omega
      subst this
      rw [if_pos rfl, List.getElem?_set_self hd, h.get d hd]; rfl
    · rw [if_neg hjd, List.getElem?_set_ne (by omega), h.get j hj, List.getD_eq_getElem?_getD]
theorem Same.span {m : List (Int × Int)} {a : List Int} (h : Same m a) {d : Nat} (c : Int) : ∀ j : Nat, d + j ≤ a.length → Same (pplJ m d c j) (spanL a d c j)
  | 0, _ => h
  | j + 1, hj => by
    have ih := Same.span h (d := d) c j (by omega)
    rw [pplJ_succ, spanL_succ]
    have := ih.add (d := d + j) (by rw [spanL_len]; omega) c
    rw [Int.natCast_add] at this
    exact this
theorem same_K {w : SWork} {l : List SPl} (hf : Full w l) (t : Str) (k : Nat) (hk : k ≤ w.items.length) : Same (peopleK w l t k) (loadK w l t k) := by
  induction k with
  | zero =>
    refine ⟨by simp [peopleK], fun e he => by simp [peopleK] at he, fun d hd => ?_⟩
    have h0 : loadK w l t 0 = List.replicate (durP w l).toNat 0 := rfl
    rw [h0, List.getD_eq_getElem?_getD, List.getElem?_replicate]
    show (0 : Int) = _
    split <;> rfl
  | succ k ih =>
    have ih := ih (by omega)
    have hl := hf.len
    obtain ⟨x, hx⟩ := get_lt (show k < w.items.length by omega)
    obtain ⟨p, hp⟩ := get_lt (show k < l.length by omega)
    have hon := hf.on k p hp
    have hok := hf.at_ hx hp
    have h1 := hok.day
    have h2 := hok.days
    have he := end_le hf hx hp
    rw [peopleK_succ hx hp, loadK_succ hx hp]
    unfold peopleF loadF
    show Same (if p.on && decide (x.trade = t) then _ else _) (if x.trade = t then _ else _)
    rw [hon, Bool.true_and]
    by_cases ht : x.trade = t
    · rw [if_pos (decide_eq_true ht), if_pos ht]
      have := ih.span (d := p.day.toNat) (modeAt x p.mode).crew (modeAt x p.mode).days.toNat (by rw [loadK_len]; unfold endP at he; omega)
      rw [Int.toNat_of_nonneg h1.1] at this
      exact this
    · rw [if_neg (by simpa using ht), if_neg ht]
      exact ih
theorem prs_len {w : SWork} {l : List SPl} (h : Plan w l) : (prs w l).length = w.items.length := by simp [prs, h.len]
theorem same_A {w : SWork} {l : List SPl} (hf : Full w l) (t : Str) : Same (peopleP w l t) (loadA w l t) := by
  have := same_K hf t w.items.length (Nat.le_refl _)
  rwa [peopleK, loadK, List.take_of_length_le (by rw [prs_len hf.toPlan]; omega)] at this
theorem aget_mem (m : List (Int × Int)) (k : Int) : aget m k = 0 ∨ ∃ e ∈ m, e.2 = aget m k := by
  induction m with
  | nil => exact .inl rfl
  | cons e m ih =>
    obtain ⟨d, c⟩ := e
    unfold aget
    split
    · exact .inr ⟨(d, c), by simp, rfl⟩
    · rcases ih with h | ⟨e, he, h⟩
      · exact .inl h
      · exact .inr ⟨e, by simp [he], h⟩
theorem aget_of (m : List (Int × Int)) (hn : (m.map (·.1)).Nodup) : ∀ e ∈ m, aget m e.1 = e.2 := by
  induction m with
  | nil => intro e he; cases he
  | cons a m ih =>
    obtain ⟨d, c⟩ := a
    rw [List.map_cons, List.nodup_cons] at hn
    intro e he
    unfold aget
    rcases List.mem_cons.1 he with rfl | he
    · rw [if_pos rfl]
    · rw [if_neg fun h => hn.1 (List.mem_map.2 ⟨e, he, h.symm⟩)]
      exact ih hn.2 e he
theorem most_eq {m : List (Int × Int)} {a : List Int} (h : Same m a) : mostP m = a.foldl imax 0 := by
  have h1 : ∀ B, mostP m ≤ B ↔ 0 ≤ B ∧ ∀ e ∈ m, e.2 ≤ B := fun B => fold_le (fun e : Int × Int => e.2) m 0 B
  have h2 : ∀ B, a.foldl imax 0 ≤ B ↔ 0 ≤ B ∧ ∀ x ∈ a, x ≤ B := fun B => fold_le (fun x : Int => x) a 0 B
  have h3 : ∀ B : Int, (∀ e ∈ m, e.2 ≤ B) ∧ 0 ≤ B ↔ (∀ x ∈ a, x ≤ B) ∧ 0 ≤ B := fun B => by
    constructor
    · rintro ⟨g1, g2⟩
      refine ⟨fun x hx => ?_, g2⟩
      obtain ⟨d, hd, rfl⟩ := List.getElem_of_mem hx
      have := h.get d hd
      rw [List.getD_eq_getElem?_getD, List.getElem?_eq_getElem hd] at this
      rcases aget_mem m d with g3 | ⟨e, he, g3⟩
      · rw [g3] at this
        show a[d] ≤ B
        have h0 : (0 : Int) = a[d] := this
        omega
      · have := g1 e he
        have h0 : aget m d = a[d] := ‹aget m d = _›
        omega
    · rintro ⟨g1, g2⟩
      refine ⟨fun e he => ?_, g2⟩
      have hk := h.keys e he
      have hg := h.get e.1.toNat (by omega)
      rw [Int.toNat_of_nonneg hk.1, aget_of m h.nodup e he, List.getD_eq_getElem?_getD, List.getElem?_eq_getElem (by omega)] at hg
      have := g1 _ (List.getElem_mem (show e.1.toNat < a.length by omega))
      have h0 : e.2 = a[e.1.toNat]'(by omega) := hg
      omega
  apply Int.le_antisymm
  · rw [h1, and_comm, h3, and_comm, ← h2]; exact Int.le_refl _
  · rw [h2, and_comm, ← h3, and_comm, ← h1]; exact Int.le_refl _
end Go.Pv


set_option maxHeartbeats 2000000
namespace Go.Pv
attribute [local irreducible] PWP POps PQuiet PSem XThen XBlock RetPost InlPost
open Go.Proofs
def BndL (a : List Int) (B : Int) : Prop := ∀ v ∈ a, 0 ≤ v ∧ v ≤ B
theorem BndL.get {a : List Int} {B : Int} (h : BndL a B) {d : Nat} (hd : d < a.length) : 0 ≤ a.getD d 0 ∧ a.getD d 0 ≤ B := by
  rw [List.getD_eq_getElem?_getD, List.getElem?_eq_getElem hd]
  exact h _ (List.getElem_mem hd)
theorem BndL.mono {a : List Int} {B B' : Int} (h : BndL a B) (hB : B ≤ B') : BndL a B' := fun v hv => ⟨(h v hv).1, Int.le_trans (h v hv).2 hB⟩
theorem BndL.bump {a : List Int} {B : Int} (h : BndL a B) {d : Nat} (hd : d < a.length) {c : Int} (hc : 0 ≤ c ∧ c ≤ 1000) : BndL (bumpL a d c) (B + 1000) := by
  intro v hv
  have := h.get hd
  rcases List.mem_or_eq_of_mem_set hv with h1 | rfl
  · have := h v h1; omega
  · omega
theorem BndL.span {a : List Int} {B : Int} (h : BndL a B) {d : Nat} {c : Int} (hc : 0 ≤ c ∧ c ≤ 1000) : ∀ j : Nat, d + j ≤ a.length → BndL (spanL a d c j) (B + 1000 * j)
  | 0, _ => by
    have : spanL a d c 0 = a := rfl
    rw [this]
    exact h.mono (by omega)
  | j + 1, hj => by
    have ih := BndL.span h (d := d) hc j (by omega)
    rw [spanL_succ]
    exact (ih.bump (d := d + j) (by rw [spanL_len]; omega) hc).mono (by omega)
def loadQK (q : List (SItem × SPl)) (t : Str) (k : Nat) : List Int := (q.take k).foldl (loadF t) (List.replicate (durQ q).toNat 0)
def loadQ (q : List (SItem × SPl)) (t : Str) : List Int := q.foldl (loadF t) (List.replicate (durQ q).toNat 0)
theorem loadQK_all (q : List (SItem × SPl)) (t : Str) : loadQK q t q.length = loadQ q t := by rw [loadQK, List.take_length]; rfl
theorem loadQK_succ {q : List (SItem × SPl)} {t : Str} {k : Nat} {x : SItem} {p : SPl} (hk : q[k]? = some (x, p)) : loadQK q t (k + 1) = loadF t (loadQK q t k) (x, p) := by
  rw [loadQK, take_snoc hk, List.foldl_append]; rfl
theorem loadFold_len (t : Str) (q : List (SItem × SPl)) (a : List Int) : (q.foldl (loadF t) a).length = a.length := by
  induction q generalizing a with
  | nil => rfl
  | cons b q ih => rw [List.foldl_cons, ih, loadF_len]
theorem loadQK_len (q : List (SItem × SPl)) (t : Str) (k : Nat) : (loadQK q t k).length = (durQ q).toNat := by
  rw [loadQK, loadFold_len, List.length_replicate]
theorem loadQ_len (q : List (SItem × SPl)) (t : Str) : (loadQ q t).length = (durQ q).toNat := by
  rw [loadQ, loadFold_len, List.length_replicate]
theorem endQ_le {w : SWork} {q : List (SItem × SPl)} (h : QOk w q) {k : Nat} {x : SItem} {p : SPl} (hk : q[k]? = some (x, p)) : endP x p ≤ durQ q :=
  (durF_ge q 0).2 (x, p) (List.mem_of_getElem? hk) (h.at_ k x p hk).2.2
theorem loadQK_bound {w : SWork} {q : List (SItem × SPl)} (h : QOk w q) (t : Str) (k : Nat) (hk : k ≤ q.length) : BndL (loadQK q t k) (60000 * k) := by
  induction k with
  | zero =>
    intro v hv
    have h0 : loadQK q t 0 = List.replicate (durQ q).toNat 0 := rfl
    rw [h0] at hv
    have := List.eq_of_mem_replicate hv
    omega
  | succ k ih =>
    have ih := ih (by omega)
    obtain ⟨⟨x, p⟩, hq⟩ := get_lt (show k < q.length by omega)
    obtain ⟨_, hok, _⟩ := h.at_ k x p hq
    have h1 := hok.day
    have h2 := hok.days
    have he := endQ_le h hq
    unfold endP at he
    rw [loadQK_succ hq]
    unfold loadF
    split
    · exact (ih.span (d := p.day.toNat) hok.crew (modeAt x p.mode).days.toNat (by rw [loadQK_len]; omega)).mono (by omega)
    · exact ih.mono (by omega)
set_option maxRecDepth 20000 in
theorem load_ref (w : SWork) (hw : Sane w) (hv : Well w) (q : List (SItem × SPl)) (hq : QOk w q) (t : Str) : Ret Tryz.prog .shared 88 [.agg (eWork w), .sl ((qS q).map eSlot), .str t] (.sl ((loadQ q t).map eI)) := by
  have hn := hq.len
  have hsl := qS_len q
  have hdb := durQ_bd hq
  have hml : (((qS q).map eSlot).length : Int) = q.length := by simp [hsl]
  have hall := loadQK_all q t
  refine Ret.of_pwp layOk mixed Go.Proofs.Tryz.func88 rfl (by decide) rfl rfl ?_
  repeat (refine stp rfl ?_ ?_;·repeat' constructor)
  apply qst;exact rfl;exact rfl;exact q_callP rfl (days_ref w hw hv q hq) rfl (by repeat' constructor) rfl rfl
  repeat (refine stp rfl ?_ ?_;·repeat' constructor)
  refine ps_run (o_make rfl rfl rfl rfl rfl rfl rfl rfl (by omega) (by show ((8 : Nat) : Int) * _ ≤ _; omega) (by omega) ?_)
  repeat (refine stp rfl ?_ ?_;·repeat' constructor)
  refine pw_loop (fun k => k ≤ q.length) (fun k => [(1, .sl ((qS q).map eSlot)), (2, .str t), (3, .ptr 3 1 0 0), (7, .als 13 1 0 (durQ q).toNat), (8, I k)])
    (fun k => [(3, 1, ⟨28, 9, [eWork w], 2⟩), (13, 1, ⟨3, 1, (loadQK q t k).map eI, 0⟩)]) (fun k => q.length - k) 0 (Nat.zero_le _) ⟨rfl, rfl, rfl, ?_, rfl, rfl, ?_, trivial⟩ ?_
  · show PV.als 13 1 0 (List.replicate (durQ q).toNat [I 0]).length = _
    rw [List.length_replicate]
  · show (1, some (Cont.mk 3 1 (List.replicate (durQ q).toNat [I 0]) 0)) = (1, some (Cont.mk 3 1 ((List.replicate (durQ q).toNat 0).map eI) 0))
    rw [List.map_replicate]; rfl
  intro k s hk
  repeat (refine stp rfl ?_ ?_;·repeat' constructor)
  refine pw_cond rfl (fun h => ?_) (fun h => ?_)
  · have hlt : k < q.length := by have := of_decide_eq_true h; omega
    obtain ⟨⟨x, p⟩, hp⟩ := get_lt hlt
    clear h
    have hsk := qS_at hp
    have hsa := hq.slotAt hv hp
    obtain ⟨_, hok, _⟩ := hq.at_ k x p hp
    have h1 := hok.day
    have h2 := hok.days
    have h3 := hok.crew
    have hle := endQ_le hq hp
    have hbm := loadQK_bound hq t k hk
    have hKl := loadQK_len q t k
    unfold endP at hle
    repeat (refine stp rfl ?_ ?_;·repeat' constructor)
    refine pw_draw 9 [20, 21, 22, 23, 24, 25, 26, 27, 28] (by decide +kernel) ?_
    repeat (refine stp rfl ?_ ?_;·repeat' constructor)
    apply qst;exact rfl;exact rfl;exact q_idxm rfl rfl rfl rfl rfl (by omega) hsk rfl
    repeat (refine stp rfl ?_ ?_;·repeat' constructor)
    apply qst;exact rfl;exact rfl;exact q_call rfl (item_ref w hw _ hsa) rfl (by repeat' constructor) rfl
    repeat (refine stp rfl ?_ ?_;·repeat' constructor)
    refine pw_cond rfl (fun h => ?_) (fun h => ?_)
    · have ht : ¬ x.trade = t := by simpa using h
      clear h
      repeat (refine stp rfl ?_ ?_;·repeat' constructor)
      refine ⟨k + 1, hlt, by omega, rfl, rfl, rfl, rfl, i64_next (by omega) (by omega), rfl, ?_, trivial⟩
      rw [loadQK_succ hp, loadF, if_neg ht]; rfl
    · have ht : x.trade = t := by simpa using h
      clear h
      repeat (refine stp rfl ?_ ?_;·repeat' constructor)
      apply qst;exact rfl;exact rfl;exact q_idxm rfl rfl rfl rfl rfl (by omega) hsk rfl
      repeat (refine stp rfl ?_ ?_;·repeat' constructor)
      refine pw_loop (fun j => j ≤ (modeAt x p.mode).days.toNat) (fun j => [(1, .sl ((qS q).map eSlot)), (2, .str t), (3, .ptr 3 1 0 0), (7, .als 13 1 0 (durQ q).toNat), (8, I k), (9, I (p.day + j))])
        (fun j => [(3, 1, ⟨28, 9, [eWork w], 2⟩), (13, 1, ⟨3, 1, (spanL (loadQK q t k) p.day.toNat (modeAt x p.mode).crew j).map eI, 0⟩)]) (fun j => (modeAt x p.mode).days.toNat - j) 0 (Nat.zero_le _) ⟨rfl, rfl, rfl, rfl, rfl, ?_, rfl, rfl, trivial⟩ ?_
      · show I p.day = I (p.day + ((0 : Nat) : Int))
        congr 1
        omega
      intro j s2 hj
      have hbj := hbm.span (d := p.day.toNat) h3 j (by omega)
      have hlj := spanL_len (loadQK q t k) p.day.toNat (modeAt x p.mode).crew j
      repeat (refine stp rfl ?_ ?_;·repeat' constructor)
      refine pw_draw 8 [34, 35, 36, 37, 38, 39, 40, 41] (by decide +kernel) ?_
      repeat (refine stp rfl ?_ ?_;·repeat' constructor)
      apply qst;exact rfl;exact rfl;exact q_idxm rfl rfl rfl rfl rfl (by omega) hsk rfl
      repeat (refine stp rfl ?_ ?_;·repeat' constructor)
      apply qst;exact rfl;exact rfl;exact q_callP rfl (end_ref w hw _ hsa) rfl (by repeat' constructor) rfl rfl
      repeat (refine stp rfl ?_ ?_;·repeat' constructor)
      refine pw_cond rfl (fun h => ?_) (fun h => ?_)
      · have hlj' : p.day + (j : Int) < p.day + (modeAt x p.mode).days := of_decide_eq_true h
        clear h
        have hd : p.day.toNat + j < (spanL (loadQK q t k) p.day.toNat (modeAt x p.mode).crew j).length := by omega
        have hvb := hbj.get hd
        have hsucc := spanL_succ (loadQK q t k) p.day.toNat (modeAt x p.mode).crew j
        generalize hA : spanL (loadQK q t k) p.day.toNat (modeAt x p.mode).crew j = A at *
        have hdn : (p.day + (j : Int)).toNat = p.day.toNat + j := by omega
        have hrow : (A.map eI)[0 + (p.day + (j : Int)).toNat]? = some (eI (A.getD (p.day.toNat + j) 0)) := by
          rw [Nat.zero_add, hdn, List.getElem?_map, List.getD_eq_getElem?_getD, List.getElem?_eq_getElem hd]; rfl
        rw [bumpL] at hsucc
        generalize hV : A.getD (p.day.toNat + j) 0 = v at *
        repeat (refine stp rfl ?_ ?_;·repeat' constructor)
        refine pw_draw 15 [44, 45, 46, 47, 48, 49, 50, 51, 52, 53, 54, 55, 56, 57, 58] (by decide +kernel) ?_
        repeat (refine stp rfl ?_ ?_;·repeat' constructor)
        refine zqq rfl (q_idxA rfl rfl rfl rfl rfl rfl rfl (by omega) (by omega)) ?_
        repeat (refine stp rfl ?_ ?_;·repeat' constructor)
        refine zqq rfl (q_ldp rfl rfl rfl hrow rfl) ?_
        repeat (refine stp rfl ?_ ?_;·repeat' constructor)
        apply qst;exact rfl;exact rfl;exact q_idxm rfl rfl rfl rfl rfl (by omega) hsk rfl
        repeat (refine stp rfl ?_ ?_;·repeat' constructor)
        apply qst;exact rfl;exact rfl;exact q_call rfl (mode_ref w hw _ hsa) rfl (by repeat' constructor) rfl
        repeat (refine stp rfl ?_ ?_;·repeat' constructor)
        refine zqq rfl (q_idxA rfl rfl rfl rfl rfl rfl rfl (by omega) (by omega)) ?_
        repeat (refine stp rfl ?_ ?_;·repeat' constructor)
        refine ps_run0 (o_store (kd' := 0) rfl rfl rfl hrow rfl rfl (by repeat' constructor) rfl rfl rfl rfl ?_)
        repeat (refine stp rfl ?_ ?_;·repeat' constructor)
        refine ⟨j + 1, by omega, by omega, rfl, rfl, rfl, rfl, rfl, ?_, rfl, ?_, trivial⟩
        · show PV.int .i64 (IntKind.i64.wrap (p.day + (j : Int) + 1)) = I (p.day + ((j + 1 : Nat) : Int))
          rw [wrap_i64 (by omega) (by omega)]
          congr 1
          omega
        · rw [hsucc, List.map_set]
          show (1, some (Cont.mk 3 1 ((A.map eI).set (0 + (p.day + (j : Int)).toNat) [I (IntKind.i64.wrap (v + (modeAt x p.mode).crew))]) 0)) = _
          rw [Nat.zero_add, hdn, wrap_i64 (by omega) (by omega)]
          rfl
      · have hge : j = (modeAt x p.mode).days.toNat := by have : ¬ p.day + (j : Int) < p.day + (modeAt x p.mode).days := of_decide_eq_false h
                                                          omega
        subst hge
        clear h
        repeat (refine stp rfl ?_ ?_;·repeat' constructor)
        refine ⟨k + 1, hlt, by omega, rfl, rfl, rfl, rfl, i64_next (by omega) (by omega), rfl, ?_, trivial⟩
        rw [loadQK_succ hp, loadF, if_pos ht]; rfl
  · have hge : k = q.length := by have := of_decide_eq_false h; omega
    subst hge
    clear h
    rw [hall, show (durQ q).toNat = ((loadQ q t).map eI).length by rw [List.length_map, loadQ_len]]
    repeat (refine stp rfl ?_ ?_;·repeat' constructor)
    exact end1 rfl rfl rfl ⟨rfl, rfl, rfl⟩ rfl
end Go.Pv


namespace Go.Pv
open Go.RowKit Go.ChangeShapes Go.WideShapes Go.ChangeAt
def contig (L : Lay) : List (Nat × TypeId) → Nat → Nat → Bool
  | [], o, tot => Nat.beq o tot
  | (off, T) :: fs, o, tot => match L T with | some r => Nat.beq off o && contig L fs (o + r.size) tot | none => false
def plainT (L : Lay) : Nat → TypeId → Bool
  | 0, _ => false
  | n + 1, T => match L T with
    | some r => (match r.sh with
      | .bool | .int _ | .str => true
      | .sl e => (match L e with | some re => Nat.blt 0 re.size && plainT L n e | none => false)
      | .st fs => contig L fs 0 r.size && fs.all (fun f => plainT L n f.2)
      | _ => false)
    | none => false
def tyP (L : Lay) : Nat → TypeId → List PV → Prop
  | 0, _, _ => False
  | n + 1, T, cs => ∃ r, L T = some r ∧ (match r.sh with
    | .bool => ∃ b, cs = [.bool b]
    | .int k => ∃ m, cs = [.int k m] ∧ k.min ≤ m ∧ m ≤ k.max
    | .str => ∃ s : List UInt8, cs = [.str s] ∧ s.length ≤ maxLen
    | .sl e => ∃ rows, cs = [.sl rows] ∧ rows.length ≤ maxLen ∧ ∀ row ∈ rows, tyP L n e row
    | .st fs => ∃ parts : List (List PV), cs = parts.flatten ∧ parts.length = fs.length ∧ ∀ (i : Nat) f p, fs[i]? = some f → parts[i]? = some p → tyP L n f.2 p
    | _ => False)
section
variable {L : Lay} {n : Nat} {T : TypeId} {cs : List PV}
theorem tyP_sh {r : LRow} {sh : Sh} (hr : L T = some r) (hs : (L T).map (·.sh) = some sh) : r.sh = sh := by rw [hr] at hs; exact Option.some.inj hs
theorem tyP_bool (h : tyP L (n + 1) T cs) (hs : (L T).map (·.sh) = some .bool) : ∃ b, cs = [.bool b] := by
  obtain ⟨r, hr, h⟩ := h
  rw [tyP_sh hr hs] at h; exact h
theorem tyP_intB {k : IntKind} (h : tyP L (n + 1) T cs) (hs : (L T).map (·.sh) = some (.int k)) : ∃ m, cs = [.int k m] ∧ k.min ≤ m ∧ m ≤ k.max := by
  obtain ⟨r, hr, h⟩ := h
  rw [tyP_sh hr hs] at h; exact h
theorem tyP_int {k : IntKind} (h : tyP L (n + 1) T cs) (hs : (L T).map (·.sh) = some (.int k)) : ∃ m, cs = [.int k m] := let ⟨m, e, _⟩ := tyP_intB h hs; ⟨m, e⟩
theorem tyP_strB (h : tyP L (n + 1) T cs) (hs : (L T).map (·.sh) = some .str) : ∃ s : List UInt8, cs = [.str s] ∧ s.length ≤ maxLen := by
  obtain ⟨r, hr, h⟩ := h
  rw [tyP_sh hr hs] at h; exact h
theorem tyP_str (h : tyP L (n + 1) T cs) (hs : (L T).map (·.sh) = some .str) : ∃ s, cs = [.str s] := let ⟨m, e, _⟩ := tyP_strB h hs; ⟨m, e⟩
theorem tyP_slB {e : TypeId} (h : tyP L (n + 1) T cs) (hs : (L T).map (·.sh) = some (.sl e)) : ∃ rows, cs = [.sl rows] ∧ rows.length ≤ maxLen ∧ ∀ row ∈ rows, tyP L n e row := by
  obtain ⟨r, hr, h⟩ := h
  rw [tyP_sh hr hs] at h; exact h
theorem tyP_sl {e : TypeId} (h : tyP L (n + 1) T cs) (hs : (L T).map (·.sh) = some (.sl e)) : ∃ rows, cs = [.sl rows] ∧ ∀ row ∈ rows, tyP L n e row := let ⟨m, e, _, h⟩ := tyP_slB h hs; ⟨m, e, h⟩
theorem tyP_st {fs : List (Nat × TypeId)} (h : tyP L (n + 1) T cs) (hs : (L T).map (·.sh) = some (.st fs)) : ∃ parts : List (List PV), cs = parts.flatten ∧ parts.length = fs.length ∧ ∀ (i : Nat) f p, fs[i]? = some f → parts[i]? = some p → tyP L n f.2 p := by
  obtain ⟨r, hr, h⟩ := h
  rw [tyP_sh hr hs] at h; exact h
end
def Reads (w : World) (pvs : List PV) (cs : List Value) : Prop :=
  pvs.length = cs.length ∧ ∀ (i : Nat) (c : PV) (v : Value), pvs[i]? = some c → cs[i]? = some v → DRep w (fun b => b < w.heap.size) c v ∧ v.oneCell' = true
theorem Reads.append {w : World} {p1 p2 : List PV} {c1 c2 : List Value} (h1 : Reads w p1 c1) (h2 : Reads w p2 c2) : Reads w (p1 ++ p2) (c1 ++ c2) := by
  refine ⟨by simp [h1.1, h2.1], fun i c v e1 e2 => ?_⟩
  rw [List.getElem?_append] at e1 e2
  split at e1
  · rename_i hlt
    rw [if_pos (by rw [← h1.1]; exact hlt)] at e2
    exact h1.2 i c v e1 e2
  · rename_i hlt
    rw [if_neg (by rw [← h1.1]; exact hlt), ← h1.1] at e2
    exact h2.2 _ c v e1 e2
section
variable {H : Type} {enc : TypeId × Value → H} {P : Program} {L : Lay} {w : World} {sp : Nat → Bool} {held : Bool}
theorem cellsOf_eq (hL : LOk P L) {T : TypeId} {r : LRow} (hr : L T = some r) : P.cellsOf T = r.size := by
  obtain ⟨i, d, hi, _, hs, _⟩ := LRow.spec (hL T r hr)
  simp [Program.cellsOf, hi, hs]
theorem contig_le : ∀ (fs : List (Nat × TypeId)) (o tot : Nat), contig L fs o tot = true → o ≤ tot
  | [], o, tot, h => by simp [contig] at h; omega
  | (off, T) :: fs, o, tot, h => by
    simp only [contig] at h
    split at h
    · rename_i r hr
      simp only [Bool.and_eq_true] at h
      have := contig_le fs _ _ h.2
      omega
    · cases h
theorem dec_fields (hL : LOk P L) {n : Nat} {cs : List Value}
    (IH : ∀ (T : TypeId) (cs : List Value) (fuel : Nat) x, plainT L n T = true → DataW.trod enc P w 0 sp held fuel T cs = some x → ∃ pvs, Reads w pvs cs ∧ tyP L n T pvs) :
    ∀ (fs : List (Nat × TypeId)) (o : Nat), contig L fs o cs.length = true → fs.all (fun f => plainT L n f.2) = true →
      (∀ f ∈ fs, ∃ m x, DataW.trod enc P w 0 sp held m f.2 ((cs.drop f.1).take (P.cellsOf f.2)) = some x) →
      ∃ parts : List (List PV), Reads w parts.flatten (cs.drop o) ∧ parts.length = fs.length ∧ ∀ (i : Nat) f p, fs[i]? = some f → parts[i]? = some p → tyP L n f.2 p
  | [], o, h, _, _ => by
    simp [contig] at h
    refine ⟨[], ⟨by simp [h], fun i c v e => by simp at e⟩, rfl, fun i f p e => by simp at e⟩
  | (off, T) :: fs, o, h, hall, hd => by
    simp only [contig] at h
    split at h
    · rename_i r hr
      simp only [Bool.and_eq_true, Nat.beq_eq] at h
      obtain ⟨rfl, h⟩ := h
      simp only [List.all_cons, Bool.and_eq_true] at hall
      have hle := contig_le fs _ _ h
      obtain ⟨m, x, hx⟩ := hd (off, T) (by simp)
      obtain ⟨pvs, hp1, hp2⟩ := IH T _ m x hall.1 hx
      obtain ⟨parts, g1, g2, g3⟩ := dec_fields hL IH fs (off + r.size) h hall.2 (fun f hf => hd f (by simp [hf]))
      rw [cellsOf_eq hL hr] at hp1
      refine ⟨pvs :: parts, ?_, by simp [g2], fun i f p e1 e2 => ?_⟩
      · have hsplit : cs.drop off = (cs.drop off).take r.size ++ cs.drop (off + r.size) := by rw [← List.drop_drop, List.take_append_drop]
        rw [hsplit, List.flatten_cons]
        exact hp1.append g1
      · cases i with
        | zero => simp at e1 e2; subst e1; subst e2; exact hp2
        | succ i => exact g3 i f p (by simpa using e1) (by simpa using e2)
    · cases h
theorem trod_dec (hL : LOk P L) : ∀ (n : Nat) (T : TypeId) (cs : List Value) (fuel : Nat) (x : DataW H × List MemPlace), plainT L n T = true → DataW.trod enc P w 0 sp held fuel T cs = some x → ∃ pvs, Reads w pvs cs ∧ tyP L n T pvs
  | 0, _, _, _, _, h, _ => by simp [plainT] at h
  | n + 1, T, cs, fuel, x, h, ht => by
    simp only [plainT] at h
    split at h
    · rename_i r hr
      have hfit := hL T r hr
      have one : ∀ {c : PV} {v : Value}, DRep w (fun b => b < w.heap.size) c v → v.oneCell' = true → Reads w [c] [v] := fun h1 h2 => ⟨rfl, fun i c v e1 e2 => by
        cases i with
        | zero => simp at e1 e2; subst e1; subst e2; exact ⟨h1, h2⟩
        | succ i => simp at e1⟩
      split at h
      · rename_i hs
        obtain ⟨b, rfl, _⟩ := DataW.trod_bool (und_bool hfit hs) ht
        exact ⟨[.bool b], one (.bool b) rfl, r, hr, by rw [hs]; exact ⟨b, rfl⟩⟩
      · rename_i k hs
        obtain ⟨m, rfl, _, hwf⟩ := DataW.trod_int (und_int hfit hs) ht
        simp only [Lit.wf, Bool.and_eq_true, decide_eq_true_eq] at hwf
        exact ⟨[.int k m], one (.int k m) rfl, r, hr, by rw [hs]; exact ⟨m, rfl, hwf⟩⟩
      · rename_i hs
        obtain ⟨s, rfl, _, hsz⟩ := DataW.trod_string (und_str hfit hs) ht
        exact ⟨[.str s.data.toList], one (.str s.data.toList) rfl, r, hr, by rw [hs]; exact ⟨_, rfl, by rw [Array.length_toList]; exact hsz⟩⟩
      · rename_i e hs
        split at h
        · rename_i re hre
          simp only [Bool.and_eq_true] at h
          have hsz : 0 < re.size := by simpa using h.1
          have hce := cellsOf_eq hL hre
          rcases DataW.trod_slice (und_sl hfit hs) ht with ⟨rfl, _⟩ | ⟨a, len, cap, elems, rest, m, rfl, rfl, _, _, hlc, hcm, hel, hat, _⟩
          · exact ⟨[.sl []], one (.sl0 none 0) rfl, r, hr, by rw [hs]; exact ⟨[], rfl, Nat.zero_le _, fun row hrow => by cases hrow⟩⟩
          · rw [hce] at hat
            have key : ∀ i, i < len → ∃ ecs, w.cells? 0 (a.add (i * re.size)) re.size = some ecs ∧ ∃ pvs, Reads w pvs ecs ∧ tyP L n e pvs := by
              intro i hi
              have h1 := hat i hi
              rw [List.getElem?_eq_getElem (by omega)] at h1
              obtain ⟨ecs, e1, e2⟩ := Option.bind_eq_some_iff.1 h1
              obtain ⟨pvs, g1, g2⟩ := trod_dec hL n e ecs m _ h.2 e2
              exact ⟨ecs, e1, pvs, g1, g2⟩
            by_cases h0 : len = 0
            · subst h0
              exact ⟨[.sl []], one (.sl0 _ _) rfl, r, hr, by rw [hs]; exact ⟨[], rfl, Nat.zero_le _, fun row hrow => by cases hrow⟩⟩
            ·
              have cellAt : ∀ (i : Nat) ecs, w.cells? 0 (a.add (i * re.size)) re.size = some ecs → ecs.length = re.size ∧ ∀ j v, ecs[j]? = some v → w.cell? ((a.add (i * re.size)).add j) = some v := by
                intro i ecs he
                unfold World.cells? at he
                rw [if_pos (Nat.zero_le _)] at he
                refine ⟨by simpa using mapM_some_length he, fun j v hv => ?_⟩
                have hj : j < re.size := by have := mapM_some_length he; have := (List.getElem?_eq_some_iff.1 hv).1; simp at *; omega
                have := mapM_some_get he j j (by simp [hj])
                rw [hv] at this
                exact this
              obtain ⟨b, off, spot⟩ := a
              obtain ⟨ecs0, f1, pvs0, f2, _⟩ := key 0 (by omega)
              obtain ⟨f3, f4⟩ := cellAt 0 ecs0 f1
              have hc0 : ∃ v, w.cell? (((⟨b, off, spot⟩ : Addr).add (0 * re.size)).add 0) = some v := ⟨ecs0[0], f4 0 _ (List.getElem?_eq_getElem (by omega))⟩
              have hspot : spot = none := by
                obtain ⟨v, hv⟩ := hc0
                simpa [Addr.add] using World.cell?_spot hv
              subst hspot
              have hbl : b < w.heap.size := by
                obtain ⟨v, hv⟩ := hc0
                simp only [Nat.zero_mul, Addr.add_mk, Nat.add_zero] at hv
                rcases Nat.lt_or_ge b w.heap.size with hlt | hge
                · exact hlt
                · simp [World.cell?, Array.getElem?_eq_none hge] at hv
              have hch : ∀ i : Nat, ∃ p : List PV × List Value, i < len → w.cells? 0 ((⟨b, off, none⟩ : Addr).add (i * re.size)) re.size = some p.2 ∧ Reads w p.1 p.2 ∧ tyP L n e p.1 := by
                intro i
                by_cases hi : i < len
                · obtain ⟨ecs, e1, pvs, e2, e3⟩ := key i hi
                  exact ⟨(pvs, ecs), fun _ => ⟨e1, e2, e3⟩⟩
                · exact ⟨([], []), fun h => absurd h hi⟩
              let g : Nat → List PV × List Value := fun i => Classical.choose (hch i)
              have hg : ∀ i, i < len → w.cells? 0 ((⟨b, off, none⟩ : Addr).add (i * re.size)) re.size = some (g i).2 ∧ Reads w (g i).1 (g i).2 ∧ tyP L n e (g i).1 := fun i hi => Classical.choose_spec (hch i) hi
              have hrow : ∀ (i : Nat) (row : List PV), ((List.range len).map fun i => (g i).1)[i]? = some row → i < len ∧ row = (g i).1 := by
                intro i row hrow
                rw [List.getElem?_map] at hrow
                rcases Nat.lt_or_ge i len with hlt | hge
                · rw [List.getElem?_range hlt] at hrow
                  simp at hrow
                  exact ⟨hlt, hrow.symm⟩
                · rw [List.getElem?_eq_none (by simpa using hge)] at hrow
                  simp at hrow
              have hmem : ∀ row ∈ (List.range len).map fun i => (g i).1, ∃ i, i < len ∧ row = (g i).1 := by
                intro row hrow
                obtain ⟨i, hi, rfl⟩ := List.mem_map.1 hrow
                exact ⟨i, List.mem_range.1 hi, rfl⟩
              have hlen : ((List.range len).map fun i => (g i).1).length = len := by simp
              have hlen' : ∀ i, i < len → (g i).1.length = re.size := fun i hi => by
                rw [(hg i hi).2.1.1]; exact (cellAt i _ (hg i hi).1).1
              have hD : DRep w (fun b => b < w.heap.size) (.sl ((List.range len).map fun i => (g i).1)) (.slice (some ⟨b, off, none⟩) len cap) := by
                have := DRep.sl (w := w) (ok := fun b => b < w.heap.size) ((List.range len).map fun i => (g i).1) b off cap re.size (fun i j => ((g i).2[j]?).getD undef) hbl hsz (by rw [hlen]; exact hlc)
                  (fun row hr => by obtain ⟨i, hi, rfl⟩ := hmem row hr; exact hlen' i hi)
                  (fun i j row c e1 e2 => by
                    obtain ⟨hi, rfl⟩ := hrow i row e1
                    have hj : j < (g i).2.length := by rw [← (hg i hi).2.1.1]; exact (List.getElem?_eq_some_iff.1 e2).1
                    have hv : (g i).2[j]? = some (g i).2[j] := List.getElem?_eq_getElem hj
                    have := (cellAt i _ (hg i hi).1).2 j _ hv
                    rw [Addr.add_mk, Addr.add_mk] at this
                    rw [hv]
                    exact ⟨this, ((hg i hi).2.1.2 j c _ e2 hv).2⟩)
                  (fun i j row c e1 e2 => by
                    obtain ⟨hi, rfl⟩ := hrow i row e1
                    have hj : j < (g i).2.length := by rw [← (hg i hi).2.1.1]; exact (List.getElem?_eq_some_iff.1 e2).1
                    have hv : (g i).2[j]? = some (g i).2[j] := List.getElem?_eq_getElem hj
                    rw [hv]
                    exact ((hg i hi).2.1.2 j c _ e2 hv).1)
                rw [hlen] at this
                exact this
              exact ⟨[.sl ((List.range len).map fun i => (g i).1)], one hD rfl, r, hr, by
                rw [hs]
                exact ⟨_, rfl, by rw [hlen]; exact Nat.le_trans hlc hcm, fun row hr => by obtain ⟨i, hi, rfl⟩ := hmem row hr; exact (hg i hi).2.2⟩⟩
        · cases h
      · rename_i fs hs
        simp only [Bool.and_eq_true] at h
        obtain ⟨fs', hu, hm⟩ := und_st hfit hs
        obtain ⟨xs, m, _, _, hlen, hxl, hf⟩ := DataW.trod_struct hu ht
        rw [cellsOf_eq hL hr] at hlen
        obtain ⟨parts, g1, g2, g3⟩ := dec_fields hL (cs := cs) (fun T cs fuel x a b => trod_dec hL n T cs fuel x a b) fs 0 (by rw [hlen]; exact h.1) h.2 (fun f hf' => by
          rw [← hm] at hf'
          obtain ⟨fd, hfd, rfl⟩ := List.mem_map.1 hf'
          obtain ⟨i, hi, hie⟩ := List.getElem_of_mem hfd
          have hi' : i < fs'.size := by simpa using hi
          have h1 : fs'[i]? = some fd := by rw [Array.getElem?_eq_getElem hi']; simpa using hie
          have h2 := hf i fd h1
          rw [List.getElem?_eq_getElem (by omega)] at h2
          exact ⟨m, _, h2⟩)
        exact ⟨parts.flatten, by simpa using g1, r, hr, by rw [hs]; exact ⟨parts, rfl, g2, g3⟩⟩
      · cases h
    · cases h
def argP (L : Lay) (T : TypeId) (c : PV) : Prop := match L T with
  | some r => bif r.sh.agg then ∃ cs, c = .agg cs ∧ tyP L 6 T cs else tyP L 6 T [c]
  | none => False
theorem arg_dec (hL : LOk P L) {base : Nat} {T : TypeId} {v : Value} {d : DataW H} {ps : List MemPlace} (hp : plainT L 6 T = true) (h : DataW.Trod enc P w 0 sp held T v d ps) (hok : Value.okWide P w .any base T v) : ∃ c, DRep w (fun b => b < w.heap.size) c v ∧ argP L T c := by
  obtain ⟨fuel, h⟩ := h
  obtain ⟨pvs, h1, h2⟩ := trod_dec hL 6 T _ fuel _ hp h
  have hp' := hp
  simp only [plainT] at hp
  split at hp
  · rename_i r hr
    have hfit := hL T r hr
    have leaf : r.sh.agg = false → (∃ c, pvs = [c]) → (v.cells.toList.length = 1 → v.cells = #[v]) → ∃ c, DRep w (fun b => b < w.heap.size) c v ∧ argP L T c := by
      rintro ha ⟨c, rfl⟩ hv
      have hc := hv (by rw [← h1.1]; rfl)
      have hd := h1.2 0 c v rfl (by rw [hc]; rfl)
      refine ⟨c, hd.1, ?_⟩
      unfold argP
      rw [hr]
      simp only [ha, cond_false]
      exact h2
    have nagg : (∀ cs, v ≠ .agg cs) → v.cells = #[v] := by
      intro h
      cases v <;> first | rfl | exact absurd rfl (h _)
    have hty : ∃ r', L T = some r' ∧ _ := h2
    obtain ⟨r', hr', hty⟩ := hty
    rw [hr] at hr'
    have hr' := Option.some.inj hr'
    subst hr'
    split at hp
    · rename_i hs
      rw [hs] at hty
      obtain ⟨b, rfl⟩ := hty
      obtain ⟨b', rfl⟩ : ∃ b', v = .bool b' := by
        have := okWide_bool (und_bool hfit hs) hok; exact this
      exact leaf (by rw [hs]; rfl) ⟨_, rfl⟩ (fun _ => rfl)
    · rename_i k hs
      rw [hs] at hty
      obtain ⟨m, rfl, _⟩ := hty
      obtain ⟨m', rfl⟩ := okWide_int (und_int hfit hs) hok
      exact leaf (by rw [hs]; rfl) ⟨_, rfl⟩ (fun _ => rfl)
    · rename_i hs
      rw [hs] at hty
      obtain ⟨s, rfl, _⟩ := hty
      obtain ⟨s', rfl⟩ := okWide_string (und_str hfit hs) hok
      exact leaf (by rw [hs]; rfl) ⟨_, rfl⟩ (fun _ => rfl)
    · rename_i e hs
      rw [hs] at hty
      obtain ⟨rows, rfl, _⟩ := hty
      obtain ⟨a, l, c, rfl⟩ := okWide_slice (und_sl hfit hs) hok
      exact leaf (by rw [hs]; rfl) ⟨_, rfl⟩ (fun _ => rfl)
    · rename_i fs hs
      obtain ⟨fs', hu, _⟩ := und_st hfit hs
      obtain ⟨cs, rfl, _⟩ := okWide_struct hu hok
      refine ⟨.agg pvs, ?_, ?_⟩
      · have := DRep.agg (w := w) (ok := fun b => b < w.heap.size) pvs cs.toList h1.1 (fun i c v e1 e2 => (h1.2 i c v e1 e2).1)
        simpa using this
      · unfold argP
        rw [hr]
        simp only [hs, Sh.agg, cond_true]
        exact ⟨pvs, rfl, h2⟩
    · cases hp
  · cases hp
theorem args_dec (hL : LOk P L) {base : Nat} : ∀ (ts : List TypeId) (vs : List Value) (ds : List (DataW H)) (ps : List MemPlace), ts.all (plainT L 6) = true → DataW.TrodAll enc P w 0 sp held ts vs ds ps →
    (∀ (j : Nat) t v, ts[j]? = some t → vs[j]? = some v → Value.okWide P w .any base t v) →
    ∃ pargs : List PV, pargs.length = vs.length ∧ ts.length = vs.length ∧ ds.length = vs.length ∧ (∀ (i : Nat) (c : PV) (v : Value), pargs[i]? = some c → vs[i]? = some v → DRep w (fun b => b < w.heap.size) c v) ∧ ∀ (i : Nat) t c, ts[i]? = some t → pargs[i]? = some c → argP L t c
  | [], vs, ds, ps, _, h, _ => by
    obtain ⟨rfl, rfl, _⟩ := trodAll_nil h
    exact ⟨[], rfl, rfl, rfl, fun i c v e => by simp at e, fun i t c e => by simp at e⟩
  | t :: ts, vs, ds, ps, hp, h, hok => by
    obtain ⟨v, vs', d, ds', p, q, rfl, rfl, rfl, h1, h2⟩ := trodAll_cons h
    simp only [List.all_cons, Bool.and_eq_true] at hp
    obtain ⟨c, g1, g2⟩ := arg_dec hL hp.1 h1 (hok 0 t v rfl rfl)
    obtain ⟨pargs, e1, e2, e3, e4, e5⟩ := args_dec hL ts vs' ds' q hp.2 h2 (fun j t v a b => hok (j + 1) t v (by simpa using a) (by simpa using b))
    refine ⟨c :: pargs, by simp [e1], by simp [e2], by simp [e3], fun i c' v' a b => ?_, fun i t' c' a b => ?_⟩
    · cases i with
      | zero => simp at a b; subst a; subst b; exact g1
      | succ i => exact e4 i c' v' (by simpa using a) (by simpa using b)
    · cases i with
      | zero => simp at a b; subst a; subst b; exact g2
      | succ i => exact e5 i t' c' (by simpa using a) (by simpa using b)
theorem trodAll_below (hl : laidOutB P = true) {W W' : World} (hb : Below W.heap.size W W') : ∀ (ts : List TypeId) (vs : List Value) (ds : List (DataW H)) (ps : List MemPlace), (∀ t ∈ ts, P.readableRec t = true ∧ t < P.types.size) →
    DataW.TrodAll enc P W 0 (fun _ => true) true ts vs ds ps → (∀ x ∈ ps, x.block < W.heap.size) → DataW.TrodAll enc P W' 0 (fun b => decide (b < W.heap.size)) true ts vs ds ps
  | [], vs, ds, ps, _, h, _ => by
    obtain ⟨rfl, rfl, rfl⟩ := trodAll_nil h
    exact trodAll_mk0
  | t :: ts, vs, ds, ps, hr, h, hlt => by
    obtain ⟨v, vs', d, ds', p, q, rfl, rfl, rfl, h1, h2⟩ := trodAll_cons h
    have ht := hr t (by simp)
    exact ⟨p, q, Below.trod hl ht.1 ht.2 h1 hb (fun x hx => hlt x (by simp [hx])), trodAll_below hl hb ts vs' ds' q (fun t ht => hr t (by simp [ht])) h2 (fun x hx => hlt x (by simp [hx])), rfl⟩
theorem law_step [Globs] (hL : LOk P L) (hl : laidOutB P = true) {f : FuncId} {fn : Func} {s : ChangeSpec} {ts : List TypeId} {T : TypeId} (hvars : s.vars = []) (hts : fn.params.toList = ts) (hplain : ts.all (plainT L 6) = true)
    (hread : ts.all (fun t => P.readableRec t && decide (t < P.types.size)) = true) (hres : fn.resultTypes = #[T]) (hT : P.underlying T = some .bool)
    (hspec : ∀ ds : List (DataW H), ds.length = ts.length → (s.fn H ds).results = [.lit (.bool true)] ∧ (s.fn H ds).args = ds ∧ (s.fn H ds).vars = [])
    (law : ∀ pargs : List PV, pargs.length = ts.length → (∀ (i : Nat) t c, ts[i]? = some t → pargs[i]? = some c → argP L t c) → Ret P .shared f pargs (.bool true))
    {W : World} {base : Nat} {args : Array Value} {ds gs : List (DataW H)} {before : List MemPlace} (hval : ∀ (j : Nat) t v, fn.params[j]? = some t → args[j]? = some v → Value.okWide P W .any base t v)
    (hglob : Globs.glob W) (hW : DataW.Whole enc P fn.params.toList s.vars false W args.toList ds gs before) :
    Calls P f args W fun e W' => ∃ v, e = .returned v ∧ s.post enc P fn false true false false W args v W' := by
  have hW' := hW
  obtain ⟨p, q, hA, hV, hpq, hfz, hnd⟩ := hW
  rw [hvars] at hV
  obtain ⟨rfl, rfl⟩ := trodVars_none hV
  rw [hts] at hA
  obtain ⟨pargs, e1, e2, e3, e4, e5⟩ := args_dec hL (base := base) ts _ _ _ hplain hA (fun j t v a b => hval j t v (by rw [← hts] at a; simpa using a) (by simpa using b))
  have hret := law pargs (by omega) e5
  have hcall := hret.2 W (fun _ => False) args.toList hglob (fun b hb => hb.elim) (by omega) (fun i c v a b => (e4 i c v a b).weaken fun b hb => ⟨hb, fun h => h⟩)
  have hargs : args.toList.toArray = args := by simp
  rw [hargs] at hcall
  refine hcall.mono ?_
  rintro e W' ⟨v, rfl, hb, hd⟩
  refine ⟨v, rfl, ?_⟩
  have hv : v = .bool true := by cases hd; rfl
  subst hv
  have hlt : ∀ x ∈ p, x.block < W.heap.size := fun x hx => by
    have := hW'.lt x (by rw [hpq]; simp [hx])
    simpa using this
  obtain ⟨s1, s2, s3⟩ := hspec ds (by omega)
  have hgs : ds ++ ([] : List (DataW H)) = ds := List.append_nil ds
  refine ⟨ds, [], before, [], p, [], hW', ?_, ?_, ?_, World.keptBut_mono (fun x hx => hx.elim) (hb.frame (fun _ => False)), fun h => by cases h⟩
  · rw [hgs, s1, hres]
    exact trodAll_mk1 (shut_bool hT true)
  · rw [hgs, s2, hts]
    exact trodAll_below hl hb ts _ _ _ (fun t ht => by
      have := List.all_eq_true.1 hread t ht
      simpa using this) hA hlt
  · rw [hgs, s3, hvars]
    exact rfl
end
end Go.Pv


set_option maxHeartbeats 2000000
namespace Go.Pv
attribute [local irreducible] PWP POps PQuiet PSem XThen XBlock RetPost InlPost
open Go.Proofs
theorem rows_map {α : Type} {f : α → List PV} : ∀ {rows : List (List PV)}, (∀ row ∈ rows, ∃ x, row = f x) → ∃ l : List α, rows = l.map f
  | [], _ => ⟨[], rfl⟩
  | row :: rows, h => by
    obtain ⟨x, rfl⟩ := h row (by simp)
    obtain ⟨l, rfl⟩ := rows_map (rows := rows) fun r hr => h r (by simp [hr])
    exact ⟨x :: l, rfl⟩
theorem dec_mode {cs : List PV} (h : tyP lay.get 2 111 cs) : ∃ m, cs = eMode m := by
  obtain ⟨parts, rfl, hl, hp⟩ := tyP_st h rfl
  match parts, hl, hp with
  | [p0, p1], _, hp =>
    obtain ⟨a, rfl⟩ := tyP_int (hp 0 _ p0 rfl rfl) rfl
    obtain ⟨b, rfl⟩ := tyP_int (hp 1 _ p1 rfl rfl) rfl
    exact ⟨⟨a, b⟩, rfl⟩
theorem dec_texts {n : Nat} {cs : List PV} (h : tyP lay.get (n + 2) 65 cs) : ∃ l : List Str, cs = [.sl (l.map eS)] := by
  obtain ⟨rows, rfl, hr⟩ := tyP_sl h rfl
  obtain ⟨l, rfl⟩ := rows_map (f := eS) fun row hrow => by
    obtain ⟨s, rfl⟩ := tyP_str (hr row hrow) rfl
    exact ⟨s, rfl⟩
  exact ⟨l, rfl⟩
theorem dec_item {cs : List PV} (h : tyP lay.get 4 73 cs) : ∃ x, cs = eItem x := by
  obtain ⟨parts, rfl, hl, hp⟩ := tyP_st h rfl
  match parts, hl, hp with
  | [p0, p1, p2, p3, p4, p5, p6], _, hp =>
    obtain ⟨a, rfl⟩ := tyP_str (hp 0 _ p0 rfl rfl) rfl
    obtain ⟨b, rfl⟩ := tyP_str (hp 1 _ p1 rfl rfl) rfl
    obtain ⟨rows, rfl, hr⟩ := tyP_sl (hp 2 _ p2 rfl rfl) rfl
    obtain ⟨ms, rfl⟩ := rows_map (f := eMode) fun row hrow => dec_mode (hr row hrow)
    obtain ⟨d, rfl⟩ := tyP_str (hp 3 _ p3 rfl rfl) rfl
    obtain ⟨e, rfl⟩ := tyP_int (hp 4 _ p4 rfl rfl) rfl
    obtain ⟨f, rfl⟩ := tyP_bool (hp 5 _ p5 rfl rfl) rfl
    obtain ⟨g, rfl⟩ := dec_texts (hp 6 _ p6 rfl rfl)
    exact ⟨⟨a, b, ms, d, e, f, g⟩, rfl⟩
theorem dec_trade {cs : List PV} (h : tyP lay.get 4 93 cs) : ∃ x, cs = eTrade x := by
  obtain ⟨parts, rfl, hl, hp⟩ := tyP_st h rfl
  match parts, hl, hp with
  | [p0, p1, p2], _, hp =>
    obtain ⟨a, rfl⟩ := tyP_str (hp 0 _ p0 rfl rfl) rfl
    obtain ⟨b, rfl⟩ := tyP_int (hp 1 _ p1 rfl rfl) rfl
    obtain ⟨c, rfl⟩ := tyP_int (hp 2 _ p2 rfl rfl) rfl
    exact ⟨⟨a, b, c⟩, rfl⟩
theorem dec_space {cs : List PV} (h : tyP lay.get 4 95 cs) : ∃ x, cs = eSpace x := by
  obtain ⟨parts, rfl, hl, hp⟩ := tyP_st h rfl
  match parts, hl, hp with
  | [p0, p1, p2], _, hp =>
    obtain ⟨a, rfl⟩ := tyP_str (hp 0 _ p0 rfl rfl) rfl
    obtain ⟨b, rfl⟩ := tyP_bool (hp 1 _ p1 rfl rfl) rfl
    obtain ⟨c, rfl⟩ := dec_texts (hp 2 _ p2 rfl rfl)
    exact ⟨⟨a, b, c⟩, rfl⟩
theorem dec_excl {cs : List PV} (h : tyP lay.get 4 126 cs) : ∃ x, cs = eExcl x := by
  obtain ⟨parts, rfl, hl, hp⟩ := tyP_st h rfl
  match parts, hl, hp with
  | [p0, p1, p2], _, hp =>
    obtain ⟨a, rfl⟩ := tyP_int (hp 0 _ p0 rfl rfl) rfl
    obtain ⟨b, rfl⟩ := tyP_int (hp 1 _ p1 rfl rfl) rfl
    obtain ⟨c, rfl⟩ := tyP_int (hp 2 _ p2 rfl rfl) rfl
    exact ⟨⟨a, b, c⟩, rfl⟩
theorem dec_out {cs : List PV} (h : tyP lay.get 4 129 cs) : ∃ x, cs = eOut x := by
  obtain ⟨parts, rfl, hl, hp⟩ := tyP_st h rfl
  match parts, hl, hp with
  | [p0, p1], _, hp =>
    obtain ⟨a, rfl⟩ := tyP_int (hp 0 _ p0 rfl rfl) rfl
    obtain ⟨b, rfl⟩ := tyP_int (hp 1 _ p1 rfl rfl) rfl
    exact ⟨⟨a, b⟩, rfl⟩
theorem dec_work {c : PV} (h : argP lay.get 28 c) : ∃ w, c = .agg (eWork w) := by
  obtain ⟨cs, rfl, h⟩ : ∃ cs, c = .agg cs ∧ tyP lay.get 6 28 cs := h
  obtain ⟨parts, rfl, hl, hp⟩ := tyP_st h rfl
  match parts, hl, hp with
  | [p0, p1, p2, p3, p4, p5, p6, p7, p8], _, hp =>
    obtain ⟨r0, rfl, h0⟩ := tyP_sl (hp 0 _ p0 rfl rfl) rfl
    obtain ⟨l0, rfl⟩ := rows_map (f := eItem) fun row hrow => dec_item (h0 row hrow)
    obtain ⟨r1, rfl, h1⟩ := tyP_sl (hp 1 _ p1 rfl rfl) rfl
    obtain ⟨l1, rfl⟩ := rows_map (f := eTrade) fun row hrow => dec_trade (h1 row hrow)
    obtain ⟨r2, rfl, h2⟩ := tyP_sl (hp 2 _ p2 rfl rfl) rfl
    obtain ⟨l2, rfl⟩ := rows_map (f := eSpace) fun row hrow => dec_space (h2 row hrow)
    obtain ⟨r3, rfl, h3⟩ := tyP_sl (hp 3 _ p3 rfl rfl) rfl
    obtain ⟨l3, rfl⟩ := rows_map (f := eExcl) fun row hrow => dec_excl (h3 row hrow)
    obtain ⟨r4, rfl, h4⟩ := tyP_sl (hp 4 _ p4 rfl rfl) rfl
    obtain ⟨l4, rfl⟩ := rows_map (f := eOut) fun row hrow => dec_out (h4 row hrow)
    obtain ⟨a, rfl⟩ := tyP_int (hp 5 _ p5 rfl rfl) rfl
    obtain ⟨b, rfl⟩ := tyP_int (hp 6 _ p6 rfl rfl) rfl
    obtain ⟨c, rfl⟩ := tyP_int (hp 7 _ p7 rfl rfl) rfl
    obtain ⟨d, rfl⟩ := tyP_int (hp 8 _ p8 rfl rfl) rfl
    exact ⟨⟨l0, l1, l2, l3, l4, a, b, c, d⟩, rfl⟩
theorem dec_slot {n : Nat} {cs : List PV} (h : tyP lay.get (n + 2) 64 cs) : ∃ x, cs = eSlot x := by
  obtain ⟨parts, rfl, hl, hp⟩ := tyP_st h rfl
  match parts, hl, hp with
  | [p0, p1, p2], _, hp =>
    obtain ⟨a, rfl⟩ := tyP_str (hp 0 _ p0 rfl rfl) rfl
    obtain ⟨b, rfl⟩ := tyP_int (hp 1 _ p1 rfl rfl) rfl
    obtain ⟨c, rfl⟩ := tyP_int (hp 2 _ p2 rfl rfl) rfl
    exact ⟨⟨a, b, c⟩, rfl⟩
theorem dec_slots {c : PV} (h : argP lay.get 29 c) : ∃ s : List SSlot, c = .sl (s.map eSlot) := by
  obtain ⟨rows, hr, h2⟩ := tyP_sl (show tyP lay.get 6 29 [c] from h) rfl
  cases hr
  obtain ⟨l, rfl⟩ := rows_map (f := eSlot) fun row hrow => dec_slot (h2 row hrow)
  exact ⟨l, rfl⟩
theorem ord_len (f : Nat) (b : List (List Int)) (out : List Int) : (orderF f b out).length ≤ out.length + f := by
  induction f generalizing out with
  | zero => simp [orderF]
  | succ f ih =>
    unfold orderF
    split
    · omega
    · have := ih (out ++ [nextO b out])
      simp at this
      omega
theorem ordS_len (w : SWork) : (ordS w).length ≤ w.items.length := by
  have := ord_len (bef w).length (bef w) []
  simpa [ordS, bef] using this
theorem texts2_ret (a b : List Str) (hw : a.length ≤ 1000000) : Ret Tryz.prog .shared 30 [.sl (a.map eS), .sl (b.map eS)] (.bool (decide (a = b))) := by
  refine Ret.of_pwp layOk mixed Go.Proofs.Tryz.func30 rfl (by decide) rfl rfl ?_
  repeat (refine stp rfl ?_ ?_;·repeat' constructor)
  refine pw_cond rfl (fun h => ?_) (fun h => ?_)
  · have hne : ¬ a = b := by rintro rfl; simp at h
    repeat (refine stp rfl ?_ ?_;·repeat' constructor)
    exact end1b rfl rfl (by rw [decide_eq_false hne])
  have hlen : a.length = b.length := by simp at h; omega
  clear h
  repeat (refine stp rfl ?_ ?_;·repeat' constructor)
  refine pw_loop (fun k => k ≤ a.length ∧ a.take k = b.take k) (fun k => [(0, .sl (a.map eS)), (1, .sl (b.map eS)), (5, I k)]) (fun _ => []) (fun k => a.length - k) 0 ⟨Nat.zero_le _, rfl⟩ ⟨rfl, rfl, rfl, trivial⟩ ?_
  rintro k s ⟨hk, hab⟩
  repeat (refine stp rfl ?_ ?_;·repeat' constructor)
  refine pw_cond rfl (fun h => ?_) (fun h => ?_)
  · have hlt : k < a.length := by simpa using h
    obtain ⟨x, hx⟩ := get_lt hlt
    obtain ⟨y, hy⟩ := get_lt (show k < b.length by omega)
    clear h
    repeat (refine stp rfl ?_ ?_;·repeat' constructor)
    refine pw_draw 9 [17, 18, 19, 20, 21, 22, 23, 24, 25] (by decide +kernel) ?_
    repeat (refine stp rfl ?_ ?_;·repeat' constructor)
    apply qst;exact rfl;exact rfl;exact q_idxm rfl rfl rfl rfl rfl (by omega) hx rfl
    repeat (refine stp rfl ?_ ?_;·repeat' constructor)
    apply qst;exact rfl;exact rfl;exact q_idxm rfl rfl rfl rfl rfl (by omega) hy rfl
    repeat (refine stp rfl ?_ ?_;·repeat' constructor)
    refine pw_cond rfl (fun h => ?_) (fun h => ?_)
    · have hne : ¬ a = b := by rintro rfl; rw [hx] at hy; cases hy; simp at h
      repeat (refine stp rfl ?_ ?_;·repeat' constructor)
      exact end1b rfl rfl (by rw [decide_eq_false hne])
    · have he : x = y := by simpa using h
      subst he
      repeat (refine stp rfl ?_ ?_;·repeat' constructor)
      refine ⟨k + 1, ⟨hlt, by rw [take_snoc hx, take_snoc hy, hab]⟩, by omega, rfl, rfl, ?_, trivial⟩
      exact i64_next (by omega) (by omega)
  · have hge : k = a.length := by simp at h; omega
    have he : a = b := by
      rw [hge, List.take_length, hlen, List.take_length] at hab
      exact hab
    repeat (refine stp rfl ?_ ?_;·repeat' constructor)
    exact end1b rfl rfl (by rw [decide_eq_true he])
end Go.Pv


set_option maxHeartbeats 2000000
namespace Go.Pv
attribute [local irreducible] PWP POps PQuiet PSem XThen XBlock RetPost InlPost
open Go.Proofs
theorem space_uniq {w : SWork} (h : workE w = 0) (i : Nat) (x : SSpace) (hx : w.spaces[i]? = some x) : idx w.spaces (·.name == x.name) = i := by
  unfold workE at h
  obtain ⟨_, h⟩ := ite_self_zero h
  obtain ⟨h2, _⟩ := ite_self_zero h
  unfold roomE at h2
  obtain ⟨r1, _⟩ := ite_self_zero h2
  unfold spacesE at r1
  obtain ⟨_, r1⟩ := ite_zero' r1 (by omega)
  have := fstE_zero r1 i x hx
  obtain ⟨_, g2⟩ := ite_zero this (by omega)
  exact (ite_zero g2 (by omega)).1
theorem idx_get {α : Type} {l : List α} {p : α → Bool} (h : l.any p = true) : 0 ≤ idx l p ∧ ∃ x, l[(idx l p).toNat]? = some x ∧ p x = true := by
  obtain ⟨x, hx, hp⟩ := List.any_eq_true.1 h
  unfold idx
  cases hf : l.findIdx? p with
  | none => rw [List.findIdx?_eq_none_iff] at hf; simp [hf x hx] at hp
  | some i =>
    rw [List.findIdx?_eq_some_iff_getElem] at hf
    obtain ⟨hi, h1, _⟩ := hf
    exact ⟨Int.natCast_nonneg _, l[i], by simp [hi], h1⟩
structure SpaceAt (w : SWork) (a : Str) (s : SSpace) : Prop where
  nonneg : 0 ≤ idx w.spaces (·.name == a)
  at' : w.spaces[(idx w.spaces (·.name == a)).toNat]? = some s
  name : s.name = a
theorem spaceAt_of {w : SWork} {a : Str} (h : noSpace w a = false) : ∃ s, SpaceAt w a s := by
  unfold noSpace at h
  have h2 : w.spaces.any (fun s => s.name == a) = true := by
    rw [List.any_map] at h
    simpa [Function.comp_def] using h
  obtain ⟨h0, s, h1, h3⟩ := idx_get h2
  exact ⟨s, h0, h1, by simpa using h3⟩
theorem nearS_any {w : SWork} (hz : workE w = 0) {a b : Str} {sa sb : SSpace} (ha : SpaceAt w a sa) (hb : SpaceAt w b sb) : w.spaces.any (nearS a b) = (sa.next.any (· == b) || sb.next.any (· == a)) := by
  have uniq : ∀ (c : Str) (sc : SSpace), SpaceAt w c sc → ∀ s ∈ w.spaces, s.name = c → s = sc := fun c sc hc s hs hn => by
    obtain ⟨i, hi, rfl⟩ := List.getElem_of_mem hs
    have h1 := space_uniq hz i _ (List.getElem?_eq_getElem hi)
    rw [hn] at h1
    have h2 := hc.at'
    rw [h1, Int.toNat_natCast, List.getElem?_eq_getElem hi] at h2
    exact Option.some.inj h2
  rw [Bool.eq_iff_iff, List.any_eq_true]
  constructor
  · rintro ⟨s, hs, h⟩
    unfold nearS at h
    rw [Bool.or_eq_true, Bool.and_eq_true, Bool.and_eq_true, decide_eq_true_eq, decide_eq_true_eq] at h
    rw [Bool.or_eq_true]
    rcases h with ⟨h1, h2⟩ | ⟨h1, h2⟩
    · rw [uniq a sa ha s hs h1] at h2; exact .inl h2
    · rw [uniq b sb hb s hs h1] at h2; exact .inr h2
  · intro h
    rw [Bool.or_eq_true] at h
    rcases h with h | h
    · exact ⟨sa, List.mem_of_getElem? ha.at', by simp only [nearS]; rw [decide_eq_true ha.name, h]; rfl⟩
    · exact ⟨sb, List.mem_of_getElem? hb.at', by simp only [nearS]; rw [decide_eq_true hb.name, h]; simp⟩
theorem near_ref (w : SWork) (hw : Sane w) (hz : workE w = 0) (hn : ∀ s ∈ w.spaces, s.next.length ≤ 100000) {a b : Str} {sa sb : SSpace} (ha : SpaceAt w a sa) (hb : SpaceAt w b sb) :
    Ret Tryz.prog .shared 157 [.agg (eWork w), .str a, .str b] (.bool (decide (nearP w a b ≤ 1))) := by
  have h3 := hw.spaces
  have ha0 := ha.nonneg
  have hb0 := hb.nonneg
  have hna := hn _ (List.mem_of_getElem? ha.at')
  have hnb := hn _ (List.mem_of_getElem? hb.at')
  have hnn := nearS_any hz ha hb
  refine Ret.of_pwp layOk mixed Go.Proofs.Tryz.func157 rfl (by decide) rfl rfl ?_
  repeat (refine stp rfl ?_ ?_;·repeat' constructor)
  refine pw_draw 28 [7, 8, 9, 10, 11, 12, 13, 14, 15, 16, 17, 18, 19, 20, 21, 22, 23, 24, 25, 26, 27, 28, 29, 30, 31, 32, 33, 6] (by decide +kernel) ?_
  repeat (refine stp rfl ?_ ?_;·repeat' constructor)
  (first | refine ps_split rfl rfl (fun h => ?_) (fun h => ?_) | refine pq_split rfl rfl (fun h => ?_) (fun h => ?_) | refine p3_split rfl rfl (fun h => ?_) (fun h => ?_))
  · have hab := of_decide_eq_true h
    clear h
    repeat (refine stp rfl ?_ ?_;·repeat' constructor)
    exact end1b rfl rfl (by simp [nearP, hab])
  · have hab := of_decide_eq_false h
    clear h
    repeat (refine stp rfl ?_ ?_;·repeat' constructor)
    apply qst;exact rfl;exact rfl;exact q_callP rfl (spaceOf_ret w a (by omega)) rfl (by repeat' constructor) rfl rfl
    repeat (refine stp rfl ?_ ?_;·repeat' constructor)
    apply qst;exact rfl;exact rfl;exact q_idxm rfl rfl rfl rfl rfl (by omega) ha.at' rfl
    repeat (refine stp rfl ?_ ?_;·repeat' constructor)
    apply qst;exact rfl;exact rfl;exact q_callP rfl (among_ret sa.next b (by omega)) rfl (by repeat' constructor) rfl rfl
    repeat (refine stp rfl ?_ ?_;·repeat' constructor)
    (first | refine ps_split rfl rfl (fun h => ?_) (fun h => ?_) | refine pq_split rfl rfl (fun h => ?_) (fun h => ?_) | refine p3_split rfl rfl (fun h => ?_) (fun h => ?_))
    · repeat (refine stp rfl ?_ ?_;·repeat' constructor)
      refine end1b rfl rfl ?_
      rw [nearP, if_neg hab, hnn, show sa.next.any (· == b) = true from h]; rfl
    · repeat (refine stp rfl ?_ ?_;·repeat' constructor)
      apply qst;exact rfl;exact rfl;exact q_callP rfl (spaceOf_ret w b (by omega)) rfl (by repeat' constructor) rfl rfl
      repeat (refine stp rfl ?_ ?_;·repeat' constructor)
      apply qst;exact rfl;exact rfl;exact q_idxm rfl rfl rfl rfl rfl (by omega) hb.at' rfl
      repeat (refine stp rfl ?_ ?_;·repeat' constructor)
      apply qst;exact rfl;exact rfl;exact q_callP rfl (among_ret sb.next a (by omega)) rfl (by repeat' constructor) rfl rfl
      repeat (refine stp rfl ?_ ?_;·repeat' constructor)
      refine end1b rfl rfl ?_
      rw [nearP, if_neg hab, hnn, show sa.next.any (· == b) = false from h, Bool.false_or]
      cases sb.next.any (· == a) <;> rfl
end Go.Pv


set_option maxHeartbeats 2000000
namespace Go.Pv
attribute [local irreducible] PWP POps PQuiet PSem XThen XBlock RetPost InlPost
open Go.Proofs
theorem nearP_02 (w : SWork) (a b : Str) : (nearP w a b = 0 ∧ a = b) ∨ ((nearP w a b = 1 ∨ nearP w a b = 2) ∧ a ≠ b) := by
  unfold nearP
  split
  · exact .inl ⟨rfl, ‹_›⟩
  · split
    · exact .inr ⟨.inl rfl, ‹_›⟩
    · exact .inr ⟨.inr rfl, ‹_›⟩
set_option maxRecDepth 20000 in
theorem excl_ref (w : SWork) (hw : Sane w) (hv : Well w) (hz : workE w = 0) (x y : SItem) (hx : x ∈ w.items) (hy : y ∈ w.items) : Ret Tryz.prog .shared 126 [.agg (eWork w), .agg (eItem x), .agg (eItem y)] (.bool (exclP w x y)) := by
  have h4 := hw.excls
  have hml : ((w.excls.map eExcl).length : Int) = w.excls.length := by simp
  have hix := hv.item x hx
  have hiy := hv.item y hy
  refine Ret.of_pwp layOk mixed Go.Proofs.Tryz.func126 rfl (by decide) rfl rfl ?_
  repeat (refine stp rfl ?_ ?_;·repeat' constructor)
  (first | refine ps_split rfl rfl (fun h => ?_) (fun h => ?_) | refine pq_split rfl rfl (fun h => ?_) (fun h => ?_) | refine p3_split rfl rfl (fun h => ?_) (fun h => ?_))
  · have h1 := of_decide_eq_true h
    clear h
    repeat (refine stp rfl ?_ ?_;·repeat' constructor)
    exact end1b rfl rfl (by simp [exclP, h1])
  have h1 := of_decide_eq_false h
  clear h
  repeat (refine stp rfl ?_ ?_;·repeat' constructor)
  (first | refine ps_split rfl rfl (fun h => ?_) (fun h => ?_) | refine pq_split rfl rfl (fun h => ?_) (fun h => ?_) | refine p3_split rfl rfl (fun h => ?_) (fun h => ?_))
  · have h2 := of_decide_eq_true h
    clear h
    repeat (refine stp rfl ?_ ?_;·repeat' constructor)
    exact end1b rfl rfl (by simp [exclP, h2])
  have h2 := of_decide_eq_false h
  clear h
  repeat (refine stp rfl ?_ ?_;·repeat' constructor)
  refine pw_cond rfl (fun h => ?_) (fun h => ?_)
  · have h3 := of_decide_eq_true h
    clear h
    repeat (refine stp rfl ?_ ?_;·repeat' constructor)
    exact end1b rfl rfl (by simp [exclP, h3])
  have h3 := of_decide_eq_false h
  clear h
  have hP : exclP w x y = w.excls.any (exclB w x y) := by simp [exclP, h1, h2, h3]
  obtain ⟨sx, hsx⟩ := spaceAt_of (hix.space (hix.kspace (by omega)))
  obtain ⟨sy, hsy⟩ := spaceAt_of (hiy.space (hiy.kspace (by omega)))
  repeat (refine stp rfl ?_ ?_;·repeat' constructor)
  refine pw_loop (Clear w.excls (exclB w x y)) (fun k => [(3, .ptr 3 1 0 0), (4, .ptr 4 1 0 0), (5, .ptr 5 1 0 0), (7, I k)]) (fun _ => [(3, 1, ⟨28, 9, [eWork w], 2⟩), (4, 1, ⟨73, 7, [eItem x], 2⟩), (5, 1, ⟨73, 7, [eItem y], 2⟩)])
    (fun k => w.excls.length - k) 0 .zero ⟨rfl, rfl, rfl, rfl, rfl, rfl, rfl, trivial⟩ ?_
  intro k s hk
  repeat (refine stp rfl ?_ ?_;·repeat' constructor)
  refine pw_cond rfl (fun h => ?_) (fun h => ?_)
  · have hlt : k < w.excls.length := by simpa using h
    obtain ⟨e, he⟩ := get_lt hlt
    clear h
    have heo := hv.excl e (List.mem_of_getElem? he)
    have hnp := nearP_02 w x.space y.space
    repeat (refine stp rfl ?_ ?_;·repeat' constructor)
    apply qst;exact rfl;exact rfl;exact q_idxm rfl rfl rfl rfl rfl (by omega) he rfl
    repeat (refine stp rfl ?_ ?_;·repeat' constructor)
    refine ps_cut 100 [(3, .ptr 3 1 0 0), (4, .ptr 4 1 0 0), (5, .ptr 5 1 0 0), (7, I k), (8, .ptr 8 ((s.own 8).1 + 1) 0 0), (62, .bool (!exclK x y e))] [(3, 1, ⟨28, 9, [eWork w], 2⟩), (4, 1, ⟨73, 7, [eItem x], 2⟩), (5, 1, ⟨73, 7, [eItem y], 2⟩), (8, (s.own 8).1 + 1, ⟨126, 3, [eExcl e], 2⟩)] ?_ ?_
    · repeat' (first|(refine stp rfl ?_ ?_;·repeat' constructor)|refine ps_split rfl rfl (fun h => ?_) (fun h => ?_)|refine pq_split rfl rfl (fun h => ?_) (fun h => ?_)|refine p3_split rfl rfl (fun h => ?_) (fun h => ?_))
      all_goals exact ⟨rfl, rfl, rfl, rfl, rfl, (congrArg PV.bool (by simp_all [exclK])), rfl, rfl, rfl, rfl, trivial⟩
    intro s2
    repeat (refine stp rfl ?_ ?_;·repeat' constructor)
    refine pw_cond rfl (fun h => ?_) (fun h => ?_)
    · have hK : exclK x y e = false := by simpa using h
      repeat (refine stp rfl ?_ ?_;·repeat' constructor)
      exact ⟨k + 1, hk.succ he (by simp [exclB, hK]), by omega, rfl, rfl, rfl, i64_next (by omega) (by omega), rfl, rfl, rfl, trivial⟩
    · have hK : exclK x y e = true := by simpa using h
      clear h
      repeat (refine stp rfl ?_ ?_;·repeat' constructor)
      refine ps_cut 100 [(3, .ptr 3 1 0 0), (4, .ptr 4 1 0 0), (5, .ptr 5 1 0 0), (7, I k), (85, .bool (decide (nearP w x.space y.space ≤ e.reach)))] [(3, 1, ⟨28, 9, [eWork w], 2⟩), (4, 1, ⟨73, 7, [eItem x], 2⟩), (5, 1, ⟨73, 7, [eItem y], 2⟩)] ?_ ?_
      · (first | refine ps_split rfl rfl (fun h => ?_) (fun h => ?_) | refine pq_split rfl rfl (fun h => ?_) (fun h => ?_) | refine p3_split rfl rfl (fun h => ?_) (fun h => ?_))
        · have g1 := of_decide_eq_true h
          clear h
          repeat (refine stp rfl ?_ ?_;·repeat' constructor)
          exact ⟨rfl, rfl, rfl, rfl, (congrArg PV.bool (by symm; rw [decide_eq_true_eq]; omega)), rfl, rfl, rfl, trivial⟩
        have g1 := of_decide_eq_false h
        clear h
        repeat (refine stp rfl ?_ ?_;·repeat' constructor)
        (first | refine ps_split rfl rfl (fun h => ?_) (fun h => ?_) | refine pq_split rfl rfl (fun h => ?_) (fun h => ?_) | refine p3_split rfl rfl (fun h => ?_) (fun h => ?_))
        · have g2 := of_decide_eq_true h
          clear h
          repeat (refine stp rfl ?_ ?_;·repeat' constructor)
          exact ⟨rfl, rfl, rfl, rfl, (congrArg PV.bool (by symm; rw [decide_eq_true_eq]; exact hnp.elim (fun h => by omega) fun h => absurd g2 h.2)), rfl, rfl, rfl, trivial⟩
        have g2 := of_decide_eq_false h
        clear h
        repeat (refine stp rfl ?_ ?_;·repeat' constructor)
        (first | refine ps_split rfl rfl (fun h => ?_) (fun h => ?_) | refine pq_split rfl rfl (fun h => ?_) (fun h => ?_) | refine p3_split rfl rfl (fun h => ?_) (fun h => ?_))
        · have g3 := of_decide_eq_true h
          clear h
          repeat (refine stp rfl ?_ ?_;·repeat' constructor)
          apply qst;exact rfl;exact rfl;exact q_callP rfl (near_ref w hw hz hw.next hsx hsy) rfl (by repeat' constructor) rfl rfl
          repeat (refine stp rfl ?_ ?_;·repeat' constructor)
          exact ⟨rfl, rfl, rfl, rfl, (congrArg PV.bool (by rw [g3])), rfl, rfl, rfl, trivial⟩
        · have g3 := of_decide_eq_false h
          clear h
          repeat (refine stp rfl ?_ ?_;·repeat' constructor)
          exact ⟨rfl, rfl, rfl, rfl, (congrArg PV.bool (by symm; rw [decide_eq_false_iff_not]; exact hnp.elim (fun h => absurd h.2 g2) fun h => by omega)), rfl, rfl, rfl, trivial⟩
      intro s3
      repeat (refine stp rfl ?_ ?_;·repeat' constructor)
      refine pw_cond rfl (fun h => ?_) (fun h => ?_)
      · have hB : exclB w x y e = true := by rw [exclB, hK]; exact h
        repeat (refine stp rfl ?_ ?_;·repeat' constructor)
        exact end1b rfl rfl (by rw [hP, any_of he hB])
      · have hB : exclB w x y e = false := by rw [exclB, hK]; exact h
        repeat (refine stp rfl ?_ ?_;·repeat' constructor)
        exact ⟨k + 1, hk.succ he hB, by omega, rfl, rfl, rfl, i64_next (by omega) (by omega), rfl, rfl, rfl, trivial⟩
  · have hge : ¬ k < w.excls.length := by simpa using h
    repeat (refine stp rfl ?_ ?_;·repeat' constructor)
    exact end1b rfl rfl (by rw [hP, hk.any hge])
end Go.Pv


set_option maxHeartbeats 2000000
namespace Go.Pv
attribute [local irreducible] PWP POps PQuiet PSem XThen XBlock RetPost InlPost
open Go.Proofs
def meetR (a b : SSlot) (m n : SMode) : Bool := decide (a.day < b.day + n.days) && decide (b.day < a.day + m.days)
theorem together_ref (w : SWork) (hw : Sane w) (a b : SSlot) {x y : SItem} {m n : SMode} (ha : SlotAt w a x m) (hb : SlotAt w b y n) : Ret Tryz.prog .shared 125 [.agg (eWork w), .agg (eSlot a), .agg (eSlot b)] (.bool (meetR a b m n)) := by
  refine Ret.of_pwp layOk mixed Go.Proofs.Tryz.func125 rfl (by decide) rfl rfl ?_
  repeat (refine stp rfl ?_ ?_;·repeat' constructor)
  refine pw_draw 15 [7, 8, 9, 10, 11, 12, 13, 14, 15, 16, 17, 18, 19, 20, 6] (by decide +kernel) ?_
  repeat (refine stp rfl ?_ ?_;·repeat' constructor)
  apply qst;exact rfl;exact rfl;exact q_callP rfl (end_ref w hw b hb) rfl (by repeat' constructor) rfl rfl
  repeat (refine stp rfl ?_ ?_;·repeat' constructor)
  (first | refine ps_split rfl rfl (fun h => ?_) (fun h => ?_) | refine pq_split rfl rfl (fun h => ?_) (fun h => ?_) | refine p3_split rfl rfl (fun h => ?_) (fun h => ?_))
  · repeat (refine stp rfl ?_ ?_;·repeat' constructor)
    apply qst;exact rfl;exact rfl;exact q_callP rfl (end_ref w hw a ha) rfl (by repeat' constructor) rfl rfl
    repeat (refine stp rfl ?_ ?_;·repeat' constructor)
    exact end1b rfl rfl (by rw [meetR, show decide (a.day < b.day + n.days) = true from h, Bool.true_and])
  · repeat (refine stp rfl ?_ ?_;·repeat' constructor)
    exact end1b rfl rfl (by rw [meetR, show decide (a.day < b.day + n.days) = false from h, Bool.false_and])
theorem clash_ref (w : SWork) (hw : Sane w) (hv : Well w) (hz : workE w = 0) (a b : SSlot) {x y : SItem} {m n : SMode} (ha : SlotAt w a x m) (hb : SlotAt w b y n) : Ret Tryz.prog .shared 89 [.agg (eWork w), .agg (eSlot a), .agg (eSlot b)] (.bool (meetR a b m n && apartP w x y)) := by
  have hx := List.mem_of_getElem? ha.item
  have hy := List.mem_of_getElem? hb.item
  refine Ret.of_pwp layOk mixed Go.Proofs.Tryz.func89 rfl (by decide) rfl rfl ?_
  repeat (refine stp rfl ?_ ?_;·repeat' constructor)
  refine pw_draw2 6 2 [9, 10, 11, 12, 13, 14, 7, 8] [] (by decide +kernel) rfl ?_
  repeat (refine stp rfl ?_ ?_;·repeat' constructor)
  apply qst;exact rfl;exact rfl;exact q_call rfl (item_ref w hw a ha) rfl (by repeat' constructor) rfl
  repeat (refine stp rfl ?_ ?_;·repeat' constructor)
  apply qst;exact rfl;exact rfl;exact q_call rfl (item_ref w hw b hb) rfl (by repeat' constructor) rfl
  repeat (refine stp rfl ?_ ?_;·repeat' constructor)
  apply qst;exact rfl;exact rfl;exact q_callP rfl (together_ref w hw a b ha hb) rfl (by repeat' constructor) rfl rfl
  repeat (refine stp rfl ?_ ?_;·repeat' constructor)
  have hX := excl_ref w hw hv hz x y hx hy
  unfold apartP
  generalize exclP w x y = v2 at hX ⊢
  generalize meetR a b m n = v1
  cases v1
  · repeat (refine stp rfl ?_ ?_;·repeat' constructor)
    exact end1b rfl rfl rfl
  repeat (refine stp rfl ?_ ?_;·repeat' constructor)
  (first | refine ps_split rfl rfl (fun h => ?_) (fun h => ?_) | refine pq_split rfl rfl (fun h => ?_) (fun h => ?_) | refine p3_split rfl rfl (fun h => ?_) (fun h => ?_))
  · have g1 : x.crane = true := h
    clear h
    repeat (refine stp rfl ?_ ?_;·repeat' constructor)
    (first | refine ps_split rfl rfl (fun h => ?_) (fun h => ?_) | refine pq_split rfl rfl (fun h => ?_) (fun h => ?_) | refine p3_split rfl rfl (fun h => ?_) (fun h => ?_))
    · have g2 : y.crane = true := h
      clear h
      repeat (refine stp rfl ?_ ?_;·repeat' constructor)
      exact end1b rfl rfl (by rw [g1, g2]; rfl)
    · have g2 : y.crane = false := h
      clear h
      repeat (refine stp rfl ?_ ?_;·repeat' constructor)
      apply qst;exact rfl;exact rfl;exact q_callP rfl (hX) rfl (by repeat' constructor) rfl rfl
      repeat (refine stp rfl ?_ ?_;·repeat' constructor)
      exact end1b rfl rfl (by rw [g1, g2]; rfl)
  · have g1 : x.crane = false := h
    clear h
    repeat (refine stp rfl ?_ ?_;·repeat' constructor)
    apply qst;exact rfl;exact rfl;exact q_callP rfl (hX) rfl (by repeat' constructor) rfl rfl
    repeat (refine stp rfl ?_ ?_;·repeat' constructor)
    exact end1b rfl rfl (by rw [g1]; rfl)
theorem out_ref (w : SWork) (hw : Sane w) (hv : Well w) (s : SSlot) {x : SItem} {m : SMode} (h : SlotAt w s x m) : Ret Tryz.prog .shared 90 [.agg (eWork w), .agg (eSlot s)] (.bool (x.crane && w.outs.any fun o => decide (s.day < o.to) && decide (o.frm < s.day + m.days))) := by
  have h5 := hw.outs
  have hml : ((w.outs.map eOut).length : Int) = w.outs.length := by simp
  refine Ret.of_pwp layOk mixed Go.Proofs.Tryz.func90 rfl (by decide) rfl rfl ?_
  repeat (refine stp rfl ?_ ?_;·repeat' constructor)
  apply qst;exact rfl;exact rfl;exact q_call rfl (item_ref w hw s h) rfl (by repeat' constructor) rfl
  repeat (refine stp rfl ?_ ?_;·repeat' constructor)
  refine pw_cond rfl (fun h => ?_) (fun h => ?_)
  · have hc : x.crane = false := by simpa using h
    repeat (refine stp rfl ?_ ?_;·repeat' constructor)
    exact end1b rfl rfl (by rw [hc]; rfl)
  have hc : x.crane = true := by simpa using h
  rw [hc, Bool.true_and]
  clear h
  repeat (refine stp rfl ?_ ?_;·repeat' constructor)
  refine pw_loop (Clear w.outs fun o => decide (s.day < o.to) && decide (o.frm < s.day + m.days)) (fun k => [(2, .ptr 2 1 0 0), (3, .ptr 3 1 0 0), (5, I k)]) (fun _ => [(2, 1, ⟨28, 9, [eWork w], 2⟩), (3, 1, ⟨64, 3, [eSlot s], 2⟩)])
    (fun k => w.outs.length - k) 0 .zero ⟨rfl, rfl, rfl, rfl, rfl, trivial⟩ ?_
  intro k s2 hk
  repeat (refine stp rfl ?_ ?_;·repeat' constructor)
  refine pw_cond rfl (fun h => ?_) (fun h => ?_)
  · have hlt : k < w.outs.length := by simpa using h
    obtain ⟨o, ho⟩ := get_lt hlt
    clear h
    repeat (refine stp rfl ?_ ?_;·repeat' constructor)
    refine pw_draw 21 [18, 19, 20, 21, 22, 23, 24, 25, 26, 27, 28, 29, 30, 31, 32, 33, 34, 35, 36, 37, 38] (by decide +kernel) ?_
    repeat (refine stp rfl ?_ ?_;·repeat' constructor)
    apply qst;exact rfl;exact rfl;exact q_idxm rfl rfl rfl rfl rfl (by omega) ho rfl
    repeat (refine stp rfl ?_ ?_;·repeat' constructor)
    (first | refine ps_split rfl rfl (fun h => ?_) (fun h => ?_) | refine pq_split rfl rfl (fun h => ?_) (fun h => ?_) | refine p3_split rfl rfl (fun h => ?_) (fun h => ?_))
    · have g1 : decide (s.day < o.to) = true := h
      clear h
      repeat (refine stp rfl ?_ ?_;·repeat' constructor)
      apply qst;exact rfl;exact rfl;exact q_idxm rfl rfl rfl rfl rfl (by omega) ho rfl
      repeat (refine stp rfl ?_ ?_;·repeat' constructor)
      apply qst;exact rfl;exact rfl;exact q_callP rfl (end_ref w hw s ‹_›) rfl (by repeat' constructor) rfl rfl
      repeat (refine stp rfl ?_ ?_;·repeat' constructor)
      refine pw_cond rfl (fun h => ?_) (fun h => ?_)
      · have g2 : decide (o.frm < s.day + m.days) = true := h
        repeat (refine stp rfl ?_ ?_;·repeat' constructor)
        exact end1b rfl rfl (by rw [any_of ho (by rw [g1, g2]; rfl)])
      · have g2 : decide (o.frm < s.day + m.days) = false := h
        repeat (refine stp rfl ?_ ?_;·repeat' constructor)
        exact ⟨k + 1, hk.succ ho (by rw [g1, g2]; rfl), by omega, rfl, rfl, i64_next (by omega) (by omega), rfl, rfl, trivial⟩
    · have g1 : decide (s.day < o.to) = false := h
      clear h
      repeat (refine stp rfl ?_ ?_;·repeat' constructor)
      exact ⟨k + 1, hk.succ ho (by rw [g1]; rfl), by omega, rfl, rfl, i64_next (by omega) (by omega), rfl, rfl, trivial⟩
  · have hge : ¬ k < w.outs.length := by simpa using h
    repeat (refine stp rfl ?_ ?_;·repeat' constructor)
    exact end1b rfl rfl (by rw [hk.any hge])
end Go.Pv


set_option maxHeartbeats 2000000
namespace Go.Pv
attribute [local irreducible] PWP POps PQuiet PSem XThen XBlock RetPost InlPost
open Go.Proofs
theorem flatMap_len' {α β : Type} {f : α → List β} {c : Nat} : ∀ l : List α, (∀ x ∈ l, (f x).length ≤ c) → (l.flatMap f).length ≤ l.length * c
  | [], _ => by simp
  | a :: l, h => by
    have := flatMap_len' l fun x hx => h x (by simp [hx])
    have := h a (by simp)
    rw [List.flatMap_cons, List.length_append, List.length_cons, Nat.add_mul]
    omega
theorem flatMap_snoc {α β : Type} {l : List α} {k : Nat} {x : α} (hx : l[k]? = some x) (f : α → List β) : (l.take (k + 1)).flatMap f = (l.take k).flatMap f ++ f x := by
  rw [take_snoc hx, List.flatMap_append]; simp
theorem flatMap_take_len {α β : Type} {f : α → List β} {c n : Nat} {l : List α} (h : ∀ x ∈ l, (f x).length ≤ c) (hn : l.length ≤ n) (k : Nat) : ((l.take k).flatMap f).length ≤ n * c := by
  have h1 := flatMap_len' (l.take k) fun x hx => h x (List.mem_of_mem_take hx)
  have h2 : (l.take k).length ≤ n := by rw [List.length_take]; omega
  exact Nat.le_trans h1 (Nat.mul_le_mul_right c h2)
abbrev IP := SItem × SPl
def early1 (a : IP) (nm : Str) (b : IP) : List SBr := if b.1.name = nm then (if a.2.day < endP b.1 b.2 then [⟨b.1.name, a.1.name, 10⟩] else []) else []
def earlyB (q : List IP) (a : IP) (nm : Str) : List SBr := q.flatMap (early1 a nm)
def earlyA (q : List IP) (a : IP) : List SBr := a.1.after.flatMap (earlyB q a)
def earlyQ (q : List IP) : List SBr := q.flatMap (earlyA q)
def crowdT (q : List IP) (t : STrade) : List SBr := if t.crew < (loadQ q t.name).foldl imax 0 then [⟨t.name, [], 23⟩] else []
def crowdQ (w : SWork) (q : List IP) : List SBr := w.trades.flatMap (crowdT q)
def meetQ (a b : IP) : Bool := decide (a.2.day < endP b.1 b.2) && decide (b.2.day < endP a.1 a.2)
def clash1 (w : SWork) (a b : IP) : List SBr := if (meetQ a b && apartP w a.1 b.1) = true then [⟨a.1.name, b.1.name, 17⟩] else []
def clashI (w : SWork) (q : List IP) (i : Nat) : List SBr := match q[i]? with | some a => (q.drop (i + 1)).flatMap (clash1 w a) | none => []
def clashQ (w : SWork) (q : List IP) : List SBr := (List.range q.length).flatMap (clashI w q)
def haltA (w : SWork) (a : IP) : List SBr := if stopP w a.1 a.2 = true then [⟨a.1.name, [], 18⟩] else []
def haltQ (w : SWork) (q : List IP) : List SBr := q.flatMap (haltA w)
def lateA (w : SWork) (a : IP) : List SBr := if w.last < endP a.1 a.2 then [⟨a.1.name, [], 16⟩] else []
def lateQ (w : SWork) (q : List IP) : List SBr := q.flatMap (lateA w)
def breachQ (w : SWork) (q : List IP) : List SBr := earlyQ q ++ crowdQ w q ++ clashQ w q ++ haltQ w q ++ lateQ w q
theorem early1_len (a : IP) (nm : Str) (b : IP) : (early1 a nm b).length ≤ 1 := by unfold early1; (repeat' split) <;> simp
theorem crowdT_len (q : List IP) (t : STrade) : (crowdT q t).length ≤ 1 := by unfold crowdT; split <;> simp
theorem clash1_len (w : SWork) (a b : IP) : (clash1 w a b).length ≤ 1 := by unfold clash1; split <;> simp
theorem haltA_len (w : SWork) (a : IP) : (haltA w a).length ≤ 1 := by unfold haltA; split <;> simp
theorem lateA_len (w : SWork) (a : IP) : (lateA w a).length ≤ 1 := by unfold lateA; split <;> simp
theorem earlyB_len {w : SWork} {q : List IP} (hq : QOk w q) (a : IP) (nm : Str) : (earlyB q a nm).length ≤ 4000 := by
  have := flatMap_take_len (l := q) (f := early1 a nm) (c := 1) (fun b _ => early1_len a nm b) hq.len q.length
  rw [List.take_length] at this
  simpa [earlyB] using this
theorem earlyA_len {w : SWork} (hw : Sane w) {q : List IP} (hq : QOk w q) : ∀ a ∈ q, (earlyA q a).length ≤ 400000000 := by
  intro a ha
  obtain ⟨k, hk, rfl⟩ := List.getElem_of_mem ha
  obtain ⟨hx, _⟩ := hq.at_ k q[k].1 q[k].2 (List.getElem?_eq_getElem hk)
  have := flatMap_take_len (l := q[k].1.after) (f := earlyB q q[k]) (c := 4000) (fun nm _ => earlyB_len hq _ nm) (hw.after _ hx) q[k].1.after.length
  rw [List.take_length] at this
  simpa [earlyA] using this
theorem clashI_len (w : SWork) {q : List IP} (hl : q.length ≤ 4000) (i : Nat) : (clashI w q i).length ≤ 4000 := by
  unfold clashI
  split
  · rename_i a _
    have := flatMap_take_len (l := q.drop (i + 1)) (f := clash1 w a) (c := 1) (fun b _ => clash1_len w a b) (show (q.drop (i + 1)).length ≤ 4000 by rw [List.length_drop]; omega) (q.drop (i + 1)).length
    rw [List.take_length] at this
    simpa using this
  · simp
theorem Ret.toShared {P : Program} {f : FuncId} {args : List PV} {r : PV} (h : Ret P .fresh f args r) : Ret P .shared f args r :=
  ⟨h.1, fun w X a hg hX hl ha => (h.2 w X a hg hX hl ha).mono fun _ w' ⟨v, e1, e2, e3⟩ => ⟨v, e1, e2, e3.mono (fun b hb => ⟨hb.2, fun hx => by have := hX b hx; have := hb.1; omega⟩) (fun _ _ _ _ h => h) (fun _ _ _ _ h => h)⟩⟩
set_option maxRecDepth 40000 in
theorem breaches_refF (w : SWork) (hw : Sane w) (hv : Well w) (hz : workE w = 0) (s : List SSlot) (q : List IP) (hq : QOk w q) (hsort : Ret Tryz.prog .shared 87 [.agg (eWork w), .sl (s.map eSlot)] (.sl ((qS q).map eSlot))) :
    Ret Tryz.prog .fresh 58 [.agg (eWork w), .sl (s.map eSlot)] (.sl ((breachQ w q).map eBr)) := by
  have hn := hq.len
  have hsl := qS_len q
  have hml : (((qS q).map eSlot).length : Int) = q.length := by simp [hsl]
  have htl := hw.trades
  have hE := fun k => flatMap_take_len (earlyA_len hw hq) hn k
  refine Ret.of_pwp layOk mixed Go.Proofs.Tryz.func58 rfl (by decide) rfl rfl ?_
  repeat (refine stp rfl ?_ ?_;·repeat' constructor)
  apply qst;exact rfl;exact rfl;exact q_call rfl (hsort) rfl (by repeat' constructor) rfl
  repeat (refine stp rfl ?_ ?_;·repeat' constructor)
  refine pw_ghost (Ghost.nilreg (k := 6) (t := 6) 119 3 0 rfl rfl) ?_
  refine pw_loop (fun k => k ≤ q.length) (fun k => [(2, .ptr 2 1 0 0), (5, .sl ((qS q).map eSlot)), (6, .als 6 (1 + ((q.take k).flatMap (earlyA q)).length) 0 (((q.take k).flatMap (earlyA q)).map eBr).length), (7, I k)])
    (fun k => [(2, 1, ⟨28, 9, [eWork w], 2⟩), (6, 1 + ((q.take k).flatMap (earlyA q)).length, ⟨119, 3, ((q.take k).flatMap (earlyA q)).map eBr, 0⟩)]) (fun k => q.length - k) 0 (Nat.zero_le _) ⟨rfl, rfl, rfl, rfl, rfl, rfl, trivial⟩ ?_
  intro k s1 hk
  have hEk := hE k
  repeat (refine stp rfl ?_ ?_;·repeat' constructor)
  refine pw_cond rfl (fun h => ?_) (fun h => ?_)
  · have hlt : k < q.length := by have := of_decide_eq_true h; omega
    clear h
    obtain ⟨⟨x, p⟩, hp⟩ := get_lt hlt
    have hsk := qS_at hp
    have hsa := hq.slotAt hv hp
    obtain ⟨hxm, hok, _⟩ := hq.at_ k x p hp
    have hax := hw.after x hxm
    have hsucc := flatMap_snoc hp (earlyA q)
    have e0 : (q.take k).flatMap (earlyA q) = (q.take k).flatMap (earlyA q) ++ (x.after.take 0).flatMap (earlyB q (x, p)) := by simp
    have e9 : earlyA q (x, p) = (x.after.take x.after.length).flatMap (earlyB q (x, p)) := by rw [List.take_length]; rfl
    have hB := fun j => flatMap_take_len (l := x.after) (f := earlyB q (x, p)) (c := 4000) (fun nm _ => earlyB_len hq _ nm) hax j
    rw [e9] at hsucc
    generalize (q.take k).flatMap (earlyA q) = PRE at *
    repeat (refine stp rfl ?_ ?_;·repeat' constructor)
    refine pw_draw 8 [28, 29, 30, 31, 32, 33, 34, 8] (by decide +kernel) ?_
    repeat (refine stp rfl ?_ ?_;·repeat' constructor)
    apply qst;exact rfl;exact rfl;exact q_idxm rfl rfl rfl rfl rfl (by omega) hsk rfl
    repeat (refine stp rfl ?_ ?_;·repeat' constructor)
    apply qst;exact rfl;exact rfl;exact q_call rfl (item_ref w hw _ hsa) rfl (by repeat' constructor) rfl
    repeat (refine stp rfl ?_ ?_;·repeat' constructor)
    refine pw_loop (fun j => j ≤ x.after.length) (fun j => [(2, .ptr 2 1 0 0), (5, .sl ((qS q).map eSlot)), (6, .als 6 (1 + (PRE ++ (x.after.take j).flatMap (earlyB q (x, p))).length) 0 ((PRE ++ (x.after.take j).flatMap (earlyB q (x, p))).map eBr).length), (7, I k), (8, .sl (x.after.map eS)), (9, I j)])
      (fun j => [(2, 1, ⟨28, 9, [eWork w], 2⟩), (6, 1 + (PRE ++ (x.after.take j).flatMap (earlyB q (x, p))).length, ⟨119, 3, (PRE ++ (x.after.take j).flatMap (earlyB q (x, p))).map eBr, 0⟩)]) (fun j => x.after.length - j) 0 (Nat.zero_le _) ⟨rfl, rfl, ?_, rfl, rfl, rfl, rfl, ?_, trivial⟩ ?_
    · rw [← e0]; rfl
    · rw [← e0]; rfl
    intro j s2 hj
    have hBj := hB j
    repeat (refine stp rfl ?_ ?_;·repeat' constructor)
    refine pw_cond rfl (fun h => ?_) (fun h => ?_)
    · have hlt' : j < x.after.length := by simpa using h
      clear h
      obtain ⟨nm, hnm⟩ := get_lt hlt'
      have hstep := flatMap_snoc hnm (earlyB q (x, p))
      have hbl : (PRE ++ (x.after.take j).flatMap (earlyB q (x, p))).length ≤ 1600400000000 := by rw [List.length_append]; omega
      have f0 : PRE ++ (x.after.take j).flatMap (earlyB q (x, p)) = PRE ++ (x.after.take j).flatMap (earlyB q (x, p)) ++ (q.take 0).flatMap (early1 (x, p) nm) := by simp
      have f9 : earlyB q (x, p) nm = (q.take q.length).flatMap (early1 (x, p) nm) := by rw [List.take_length]; rfl
      have hC := fun m => flatMap_take_len (l := q) (f := early1 (x, p) nm) (c := 1) (fun b _ => early1_len _ nm b) hn m
      have hstep : PRE ++ (x.after.take (j + 1)).flatMap (earlyB q (x, p)) = PRE ++ (x.after.take j).flatMap (earlyB q (x, p)) ++ (q.take q.length).flatMap (early1 (x, p) nm) := by rw [hstep, f9, List.append_assoc]
      generalize PRE ++ (x.after.take j).flatMap (earlyB q (x, p)) = PR2 at *
      repeat (refine stp rfl ?_ ?_;·repeat' constructor)
      refine pw_loop (fun m => m ≤ q.length) (fun m => [(2, .ptr 2 1 0 0), (5, .sl ((qS q).map eSlot)), (6, .als 6 (1 + (PR2 ++ (q.take m).flatMap (early1 (x, p) nm)).length) 0 ((PR2 ++ (q.take m).flatMap (early1 (x, p) nm)).map eBr).length), (7, I k), (8, .sl (x.after.map eS)), (9, I j), (10, I m)])
        (fun m => [(2, 1, ⟨28, 9, [eWork w], 2⟩), (6, 1 + (PR2 ++ (q.take m).flatMap (early1 (x, p) nm)).length, ⟨119, 3, (PR2 ++ (q.take m).flatMap (early1 (x, p) nm)).map eBr, 0⟩)]) (fun m => q.length - m) 0 (Nat.zero_le _) ⟨rfl, rfl, ?_, rfl, rfl, rfl, rfl, rfl, ?_, trivial⟩ ?_
      · rw [← f0]; rfl
      · rw [← f0]; rfl
      intro m s3 hm
      have hCm := hC m
      repeat (refine stp rfl ?_ ?_;·repeat' constructor)
      refine pw_cond rfl (fun h => ?_) (fun h => ?_)
      · have hltm : m < q.length := by have := of_decide_eq_true h; omega
        clear h
        obtain ⟨⟨y2, q2⟩, hq2⟩ := get_lt hltm
        have hsm := qS_at hq2
        have hsam := hq.slotAt hv hq2
        have hat : early1 (x, p) nm (y2, q2) = if y2.name = nm then (if p.day < endP y2 q2 then [⟨y2.name, x.name, 10⟩] else []) else [] := rfl
        have hs3 : PR2 ++ (q.take (m + 1)).flatMap (early1 (x, p) nm) = PR2 ++ (q.take m).flatMap (early1 (x, p) nm) ++ early1 (x, p) nm (y2, q2) := by rw [flatMap_snoc hq2, List.append_assoc]
        have hb3 : (PR2 ++ (q.take m).flatMap (early1 (x, p) nm)).length ≤ 1700000000000 := by rw [List.length_append]; omega
        generalize PR2 ++ (q.take m).flatMap (early1 (x, p) nm) = ACC at *
        repeat (refine stp rfl ?_ ?_;·repeat' constructor)
        refine pw_draw 24 [47, 48, 49, 50, 51, 52, 53, 54, 55, 56, 57, 58, 59, 60, 61, 62, 63, 64, 65, 66, 67, 68, 69, 70] (by decide +kernel) ?_
        repeat (refine stp rfl ?_ ?_;·repeat' constructor)
        apply qst;exact rfl;exact rfl;exact q_idxm rfl rfl rfl rfl rfl (by omega) hsm rfl
        repeat (refine stp rfl ?_ ?_;·repeat' constructor)
        apply qst;exact rfl;exact rfl;exact q_idxm rfl rfl rfl rfl rfl (by omega) hnm rfl
        repeat (refine stp rfl ?_ ?_;·repeat' constructor)
        (first | refine ps_split rfl rfl (fun h => ?_) (fun h => ?_) | refine pq_split rfl rfl (fun h => ?_) (fun h => ?_) | refine p3_split rfl rfl (fun h => ?_) (fun h => ?_))
        · have he : y2.name = nm := of_decide_eq_true h
          clear h
          rw [if_pos he] at hat
          repeat (refine stp rfl ?_ ?_;·repeat' constructor)
          apply qst;exact rfl;exact rfl;exact q_idxm rfl rfl rfl rfl rfl (by omega) hsm rfl
          repeat (refine stp rfl ?_ ?_;·repeat' constructor)
          apply qst;exact rfl;exact rfl;exact q_callP rfl (end_ref w hw _ hsam) rfl (by repeat' constructor) rfl rfl
          repeat (refine stp rfl ?_ ?_;·repeat' constructor)
          apply qst;exact rfl;exact rfl;exact q_idxm rfl rfl rfl rfl rfl (by omega) hsk rfl
          repeat (refine stp rfl ?_ ?_;·repeat' constructor)
          refine pw_cond rfl (fun h => ?_) (fun h => ?_)
          · have hc : p.day < endP y2 q2 := of_decide_eq_true h
            clear h
            rw [if_pos hc] at hat
            repeat (refine stp rfl ?_ ?_;·repeat' constructor)
            refine pw_draw 13 [71, 72, 73, 74, 75, 76, 77, 78, 79, 80, 81, 82, 83] (by decide +kernel) ?_
            repeat (refine stp rfl ?_ ?_;·repeat' constructor)
            apply qst;exact rfl;exact rfl;exact q_idxm rfl rfl rfl rfl rfl (by omega) hsm rfl
            repeat (refine stp rfl ?_ ?_;·repeat' constructor)
            apply qst;exact rfl;exact rfl;exact q_idxm rfl rfl rfl rfl rfl (by omega) hsk rfl
            repeat (refine stp rfl ?_ ?_;·repeat' constructor)
            apply qst;exact rfl;exact rfl;exact q_slit rfl rfl rfl rfl rfl rfl rfl rfl rfl rfl (by repeat' constructor) rfl
            repeat (refine stp rfl ?_ ?_;·repeat' constructor)
            refine ps_run (o_app 0 rfl rfl rfl rfl rfl rfl rfl rfl rfl rfl rfl (by repeat' constructor) (by intro row hr; first | (simp at hr; subst hr; rfl) | simp at hr) rfl rfl (by simp; omega) (by simp; omega) ?_)
            repeat (refine stp rfl ?_ ?_;·repeat' constructor)
            refine ⟨m + 1, hltm, by omega, rfl, rfl, ?_, rfl, rfl, rfl, i64_next (by omega) (by omega), rfl, ?_, trivial⟩
            · rw [hs3, hat]; exact als_snoc eBr 6 1 ACC ⟨y2.name, x.name, 10⟩
            · rw [hs3, hat]; exact cont_snoc eBr 1 119 3 0 ACC ⟨y2.name, x.name, 10⟩
          · have hc : ¬ p.day < endP y2 q2 := of_decide_eq_false h
            clear h
            rw [if_neg hc] at hat
            repeat (refine stp rfl ?_ ?_;·repeat' constructor)
            refine ⟨m + 1, hltm, by omega, rfl, rfl, ?_, rfl, rfl, rfl, i64_next (by omega) (by omega), rfl, ?_, trivial⟩
            · rw [hs3, hat, List.append_nil]; rfl
            · rw [hs3, hat, List.append_nil]; rfl
        · have he : ¬ y2.name = nm := of_decide_eq_false h
          clear h
          rw [if_neg he] at hat
          repeat (refine stp rfl ?_ ?_;·repeat' constructor)
          refine ⟨m + 1, hltm, by omega, rfl, rfl, ?_, rfl, rfl, rfl, i64_next (by omega) (by omega), rfl, ?_, trivial⟩
          · rw [hs3, hat, List.append_nil]; rfl
          · rw [hs3, hat, List.append_nil]; rfl
      · have hge : m = q.length := by have := of_decide_eq_false h; omega
        subst hge
        clear h
        repeat (refine stp rfl ?_ ?_;·repeat' constructor)
        refine ⟨j + 1, hlt', by omega, rfl, rfl, ?_, rfl, rfl, i64_next (by omega) (by omega), rfl, ?_, trivial⟩
        · rw [hstep]; rfl
        · rw [hstep]; rfl
    · have hge : j = x.after.length := by have : ¬ j < x.after.length := by simpa using h
                                          omega
      subst hge
      clear h
      rw [← hsucc]
      repeat (refine stp rfl ?_ ?_;·repeat' constructor)
      exact ⟨k + 1, hlt, by omega, rfl, rfl, rfl, i64_next (by omega) (by omega), rfl, rfl, trivial⟩
  · have hge : k = q.length := by have := of_decide_eq_false h; omega
    subst hge
    clear h
    rw [List.take_length] at hEk ⊢
    have eE : q.flatMap (earlyA q) = earlyQ q := rfl
    rw [eE] at hEk ⊢
    clear hE
    have c0 : earlyQ q = earlyQ q ++ (w.trades.take 0).flatMap (crowdT q) := by simp
    have hC := fun k => flatMap_take_len (l := w.trades) (f := crowdT q) (c := 1) (fun t _ => crowdT_len q t) htl k
    have cfin : breachQ w q = earlyQ q ++ (w.trades.take w.trades.length).flatMap (crowdT q) ++ clashQ w q ++ haltQ w q ++ lateQ w q := by rw [List.take_length]; rfl
    rw [cfin]
    clear cfin
    generalize earlyQ q = E at *
    repeat (refine stp rfl ?_ ?_;·repeat' constructor)
    refine pw_loop (fun k => k ≤ w.trades.length) (fun k => [(2, .ptr 2 1 0 0), (5, .sl ((qS q).map eSlot)), (6, .als 6 (1 + (E ++ (w.trades.take k).flatMap (crowdT q)).length) 0 ((E ++ (w.trades.take k).flatMap (crowdT q)).map eBr).length), (11, I k)])
      (fun k => [(2, 1, ⟨28, 9, [eWork w], 2⟩), (6, 1 + (E ++ (w.trades.take k).flatMap (crowdT q)).length, ⟨119, 3, (E ++ (w.trades.take k).flatMap (crowdT q)).map eBr, 0⟩)]) (fun k => w.trades.length - k) 0 (Nat.zero_le _) ⟨rfl, rfl, ?_, rfl, rfl, ?_, trivial⟩ ?_
    · rw [← c0]; rfl
    · rw [← c0]; rfl
    intro k s2 hk
    have hCk := hC k
    repeat (refine stp rfl ?_ ?_;·repeat' constructor)
    refine pw_cond rfl (fun h => ?_) (fun h => ?_)
    · have hlt : k < w.trades.length := by simpa using h
      clear h
      obtain ⟨t, ht⟩ := get_lt hlt
      have hstep : E ++ (w.trades.take (k + 1)).flatMap (crowdT q) = E ++ (w.trades.take k).flatMap (crowdT q) ++ crowdT q t := by rw [flatMap_snoc ht, List.append_assoc]
      have hlen : (E ++ (w.trades.take k).flatMap (crowdT q)).length ≤ 1700000000000 := by rw [List.length_append]; omega
      have hat : crowdT q t = if t.crew < (loadQ q t.name).foldl imax 0 then [⟨t.name, [], 23⟩] else [] := rfl
      have hLl : ((loadQ q t.name).map eI).length = (loadQ q t.name).length := by simp
      have hL60 : (loadQ q t.name).length ≤ 460 := by rw [loadQ_len]; have := durQ_bd hq; omega
      generalize E ++ (w.trades.take k).flatMap (crowdT q) = ACC at *
      have hload := load_ref w hw hv q hq t.name
      generalize loadQ q t.name = LD at *
      repeat (refine stp rfl ?_ ?_;·repeat' constructor)
      refine pw_draw 10 [92, 93, 94, 95, 96, 97, 98, 99, 100, 12] (by decide +kernel) ?_
      repeat (refine stp rfl ?_ ?_;·repeat' constructor)
      apply qst;exact rfl;exact rfl;exact q_idxm rfl rfl rfl rfl rfl (by omega) ht rfl
      repeat (refine stp rfl ?_ ?_;·repeat' constructor)
      apply qst;exact rfl;exact rfl;exact q_call rfl (hload) rfl (by repeat' constructor) rfl
      repeat (refine stp rfl ?_ ?_;·repeat' constructor)
      refine pw_loop (fun j => j ≤ LD.length) (fun j => [(2, .ptr 2 1 0 0), (5, .sl ((qS q).map eSlot)), (6, .als 6 (1 + ACC.length) 0 (ACC.map eBr).length), (11, I k), (12, .sl (LD.map eI)), (13, I ((LD.take j).foldl imax 0)), (14, I j)])
        (fun j => [(2, 1, ⟨28, 9, [eWork w], 2⟩), (6, 1 + ACC.length, ⟨119, 3, ACC.map eBr, 0⟩)]) (fun j => LD.length - j) 0 (Nat.zero_le _) ⟨rfl, rfl, rfl, rfl, rfl, rfl, rfl, rfl, rfl, trivial⟩ ?_
      intro j s3 hj
      repeat (refine stp rfl ?_ ?_;·repeat' constructor)
      refine pw_cond rfl (fun h => ?_) (fun h => ?_)
      · have hlt' : j < LD.length := by simpa using h
        clear h
        obtain ⟨v, hvj⟩ := get_lt hlt'
        repeat (refine stp rfl ?_ ?_;·repeat' constructor)
        apply qst;exact rfl;exact rfl;exact q_idxm rfl rfl rfl rfl rfl (by omega) hvj rfl
        repeat (refine stp rfl ?_ ?_;·repeat' constructor)
        refine ⟨j + 1, hlt', by omega, rfl, rfl, rfl, rfl, rfl, ?_, i64_next (by omega) (by omega), rfl, rfl, trivial⟩
        rw [take_snoc hvj, List.foldl_append]; rfl
      · have hge : j = LD.length := by have := of_decide_eq_false h; simp at this; omega
        subst hge
        clear h
        rw [show LD.take LD.length = LD from List.take_length]
        repeat (refine stp rfl ?_ ?_;·repeat' constructor)
        apply qst;exact rfl;exact rfl;exact q_idxm rfl rfl rfl rfl rfl (by omega) ht rfl
        repeat (refine stp rfl ?_ ?_;·repeat' constructor)
        refine pw_cond rfl (fun h => ?_) (fun h => ?_)
        · have hc : t.crew < LD.foldl imax 0 := of_decide_eq_true h
          clear h
          rw [if_pos hc] at hat
          repeat (refine stp rfl ?_ ?_;·repeat' constructor)
          apply qst;exact rfl;exact rfl;exact q_idxm rfl rfl rfl rfl rfl (by omega) ht rfl
          repeat (refine stp rfl ?_ ?_;·repeat' constructor)
          apply qst;exact rfl;exact rfl;exact q_slit rfl rfl rfl rfl rfl rfl rfl rfl rfl rfl (by repeat' constructor) rfl
          repeat (refine stp rfl ?_ ?_;·repeat' constructor)
          refine ps_run (o_app 0 rfl rfl rfl rfl rfl rfl rfl rfl rfl rfl rfl (by repeat' constructor) (by intro row hr; first | (simp at hr; subst hr; rfl) | simp at hr) rfl rfl (by simp; omega) (by simp; omega) ?_)
          repeat (refine stp rfl ?_ ?_;·repeat' constructor)
          refine ⟨k + 1, hlt, by omega, rfl, rfl, ?_, i64_next (by omega) (by omega), rfl, ?_, trivial⟩
          · rw [hstep, hat]; exact als_snoc eBr 6 1 ACC ⟨t.name, [], 23⟩
          · rw [hstep, hat]; exact cont_snoc eBr 1 119 3 0 ACC ⟨t.name, [], 23⟩
        · have hc : ¬ t.crew < LD.foldl imax 0 := of_decide_eq_false h
          clear h
          rw [if_neg hc] at hat
          repeat (refine stp rfl ?_ ?_;·repeat' constructor)
          refine ⟨k + 1, hlt, by omega, rfl, rfl, ?_, i64_next (by omega) (by omega), rfl, ?_, trivial⟩
          · rw [hstep, hat, List.append_nil]; rfl
          · rw [hstep, hat, List.append_nil]; rfl
    · have hge : k = w.trades.length := by have : ¬ k < w.trades.length := by simpa using h
                                           omega
      subst hge
      clear h
      have hPl : (E ++ (w.trades.take w.trades.length).flatMap (crowdT q)).length ≤ 1601000000000 := by rw [List.length_append]; omega
      generalize E ++ (w.trades.take w.trades.length).flatMap (crowdT q) = PRE at *
      clear hC hCk c0 hEk
      have hR := fun i => flatMap_take_len (l := List.range q.length) (f := clashI w q) (c := 4000) (fun i _ => clashI_len w hn i) (n := 4000) (by rw [List.length_range]; exact hn) i
      have d0 : PRE = PRE ++ (List.range 0).flatMap (clashI w q) := by simp
      have hR2 : ∀ i, i ≤ q.length → ((List.range i).flatMap (clashI w q)).length ≤ 16000000 := fun i hi => by
        have := hR i
        rwa [List.take_range, Nat.min_eq_left hi] at this
      have dfin : PRE ++ clashQ w q ++ haltQ w q ++ lateQ w q = PRE ++ (List.range q.length).flatMap (clashI w q) ++ haltQ w q ++ lateQ w q := rfl
      rw [dfin]
      repeat (refine stp rfl ?_ ?_;·repeat' constructor)
      refine pw_loop (fun k => k ≤ q.length) (fun k => [(2, .ptr 2 1 0 0), (5, .sl ((qS q).map eSlot)), (6, .als 6 (1 + (PRE ++ (List.range k).flatMap (clashI w q)).length) 0 ((PRE ++ (List.range k).flatMap (clashI w q)).map eBr).length), (15, I k)])
        (fun k => [(2, 1, ⟨28, 9, [eWork w], 2⟩), (6, 1 + (PRE ++ (List.range k).flatMap (clashI w q)).length, ⟨119, 3, (PRE ++ (List.range k).flatMap (clashI w q)).map eBr, 0⟩)]) (fun k => q.length - k) 0 (Nat.zero_le _) ⟨rfl, rfl, ?_, rfl, rfl, ?_, trivial⟩ ?_
      · rw [← d0]; rfl
      · rw [← d0]; rfl
      intro k s2 hk
      have hRk := hR2 k hk
      repeat (refine stp rfl ?_ ?_;·repeat' constructor)
      refine pw_cond rfl (fun h => ?_) (fun h => ?_)
      · have hlt : k < q.length := by have := of_decide_eq_true h; omega
        clear h
        obtain ⟨⟨x, p⟩, hp⟩ := get_lt hlt
        have hsk := qS_at hp
        have hsa := hq.slotAt hv hp
        have hD : (q.drop (k + 1)).length = q.length - (k + 1) := by simp
        have hstep : PRE ++ (List.range (k + 1)).flatMap (clashI w q) = PRE ++ (List.range k).flatMap (clashI w q) ++ ((q.drop (k + 1)).take (q.drop (k + 1)).length).flatMap (clash1 w (x, p)) := by
          rw [range_flatMap, List.append_assoc, List.take_length]
          congr 2
          rw [clashI, hp]
        have hT := fun j => flatMap_take_len (l := q.drop (k + 1)) (f := clash1 w (x, p)) (c := 1) (n := 4000) (fun b _ => clash1_len w _ b) (by omega) j
        have hlen : (PRE ++ (List.range k).flatMap (clashI w q)).length ≤ 1602000000000 := by rw [List.length_append]; omega
        have g0 : PRE ++ (List.range k).flatMap (clashI w q) = PRE ++ (List.range k).flatMap (clashI w q) ++ ((q.drop (k + 1)).take 0).flatMap (clash1 w (x, p)) := by simp
        generalize PRE ++ (List.range k).flatMap (clashI w q) = PR2 at *
        generalize hDR : q.drop (k + 1) = DR at *
        repeat (refine stp rfl ?_ ?_;·repeat' constructor)
        refine pw_loop (fun j => j ≤ DR.length) (fun j => [(2, .ptr 2 1 0 0), (5, .sl ((qS q).map eSlot)), (6, .als 6 (1 + (PR2 ++ (DR.take j).flatMap (clash1 w (x, p))).length) 0 ((PR2 ++ (DR.take j).flatMap (clash1 w (x, p))).map eBr).length), (15, I k), (16, I ((k + 1 + j : Nat) : Int))])
          (fun j => [(2, 1, ⟨28, 9, [eWork w], 2⟩), (6, 1 + (PR2 ++ (DR.take j).flatMap (clash1 w (x, p))).length, ⟨119, 3, (PR2 ++ (DR.take j).flatMap (clash1 w (x, p))).map eBr, 0⟩)]) (fun j => DR.length - j) 0 (Nat.zero_le _) ⟨rfl, rfl, ?_, rfl, ?_, rfl, ?_, trivial⟩ ?_
        · rw [← g0]; rfl
        · exact i64_next (by omega) (by omega)
        · rw [← g0]; rfl
        intro j s3 hj
        have hTj := hT j
        repeat (refine stp rfl ?_ ?_;·repeat' constructor)
        refine pw_cond rfl (fun h => ?_) (fun h => ?_)
        · have hlt' : j < DR.length := by have := of_decide_eq_true h; omega
          clear h
          obtain ⟨⟨y, r⟩, hyr⟩ := get_lt hlt'
          have hqj : q[k + 1 + j]? = some (y, r) := by rw [← hDR, List.getElem?_drop] at hyr; exact hyr
          have hsj := qS_at hqj
          have hsaj := hq.slotAt hv hqj
          have hs3 : PR2 ++ (DR.take (j + 1)).flatMap (clash1 w (x, p)) = PR2 ++ (DR.take j).flatMap (clash1 w (x, p)) ++ clash1 w (x, p) (y, r) := by rw [flatMap_snoc hyr, List.append_assoc]
          have hb3 : (PR2 ++ (DR.take j).flatMap (clash1 w (x, p))).length ≤ 1603000000000 := by rw [List.length_append]; omega
          have hat : clash1 w (x, p) (y, r) = if (meetQ (x, p) (y, r) && apartP w x y) = true then [⟨x.name, y.name, 17⟩] else [] := rfl
          have hcl := clash_ref w hw hv hz _ _ hsa hsaj
          rw [show meetR ⟨x.name, p.mode, p.day⟩ ⟨y.name, r.mode, r.day⟩ (modeAt x p.mode) (modeAt y r.mode) = meetQ (x, p) (y, r) from rfl] at hcl
          generalize (meetQ (x, p) (y, r) && apartP w x y) = CB at *
          generalize PR2 ++ (DR.take j).flatMap (clash1 w (x, p)) = ACC at *
          repeat (refine stp rfl ?_ ?_;·repeat' constructor)
          refine pw_draw 10 [145, 146, 147, 148, 149, 150, 151, 152, 153, 154] (by decide +kernel) ?_
          repeat (refine stp rfl ?_ ?_;·repeat' constructor)
          apply qst;exact rfl;exact rfl;exact q_idxm rfl rfl rfl rfl rfl (by omega) hsk rfl
          repeat (refine stp rfl ?_ ?_;·repeat' constructor)
          apply qst;exact rfl;exact rfl;exact q_idxm (n := (((k + 1 + j : Nat) : Int) : Int)) rfl rfl rfl rfl rfl (by omega) hsj rfl
          repeat (refine stp rfl ?_ ?_;·repeat' constructor)
          apply qst;exact rfl;exact rfl;exact q_callP rfl (hcl) rfl (by repeat' constructor) rfl rfl
          repeat (refine stp rfl ?_ ?_;·repeat' constructor)
          refine pw_cond rfl (fun h => ?_) (fun h => ?_)
          · subst h
            rw [if_pos rfl] at hat
            repeat (refine stp rfl ?_ ?_;·repeat' constructor)
            refine pw_draw 13 [155, 156, 157, 158, 159, 160, 161, 162, 163, 164, 165, 166, 167] (by decide +kernel) ?_
            repeat (refine stp rfl ?_ ?_;·repeat' constructor)
            apply qst;exact rfl;exact rfl;exact q_idxm rfl rfl rfl rfl rfl (by omega) hsk rfl
            repeat (refine stp rfl ?_ ?_;·repeat' constructor)
            apply qst;exact rfl;exact rfl;exact q_idxm (n := (((k + 1 + j : Nat) : Int) : Int)) rfl rfl rfl rfl rfl (by omega) hsj rfl
            repeat (refine stp rfl ?_ ?_;·repeat' constructor)
            apply qst;exact rfl;exact rfl;exact q_slit rfl rfl rfl rfl rfl rfl rfl rfl rfl rfl (by repeat' constructor) rfl
            repeat (refine stp rfl ?_ ?_;·repeat' constructor)
            refine ps_run (o_app 0 rfl rfl rfl rfl rfl rfl rfl rfl rfl rfl rfl (by repeat' constructor) (by intro row hr; first | (simp at hr; subst hr; rfl) | simp at hr) rfl rfl (by simp; omega) (by simp; omega) ?_)
            repeat (refine stp rfl ?_ ?_;·repeat' constructor)
            refine ⟨j + 1, hlt', by omega, rfl, rfl, ?_, rfl, i64_next (by omega) (by omega), rfl, ?_, trivial⟩
            · rw [hs3, hat]; exact als_snoc eBr 6 1 ACC ⟨x.name, y.name, 17⟩
            · rw [hs3, hat]; exact cont_snoc eBr 1 119 3 0 ACC ⟨x.name, y.name, 17⟩
          · subst h
            rw [if_neg (by simp)] at hat
            repeat (refine stp rfl ?_ ?_;·repeat' constructor)
            refine ⟨j + 1, hlt', by omega, rfl, rfl, ?_, rfl, i64_next (by omega) (by omega), rfl, ?_, trivial⟩
            · rw [hs3, hat, List.append_nil]; rfl
            · rw [hs3, hat, List.append_nil]; rfl
        · have hge : j = DR.length := by have := of_decide_eq_false h; omega
          subst hge
          clear h
          repeat (refine stp rfl ?_ ?_;·repeat' constructor)
          refine ⟨k + 1, hlt, by omega, rfl, rfl, ?_, i64_next (by omega) (by omega), rfl, ?_, trivial⟩
          · rw [hstep]; rfl
          · rw [hstep]; rfl
      · have hge : k = q.length := by have := of_decide_eq_false h; omega
        subst hge
        clear h
        have hP2 : (PRE ++ (List.range q.length).flatMap (clashI w q)).length ≤ 1602000000000 := by rw [List.length_append]; omega
        generalize PRE ++ (List.range q.length).flatMap (clashI w q) = PR2 at *
        clear hRk hR2 d0 hR hPl dfin
        have hH := fun k => flatMap_take_len (l := q) (f := haltA w) (c := 1) (fun a _ => haltA_len w a) hn k
        have hLt := fun k => flatMap_take_len (l := q) (f := lateA w) (c := 1) (fun a _ => lateA_len w a) hn k
        have e0 : PR2 = PR2 ++ (q.take 0).flatMap (haltA w) := by simp
        have efin : PR2 ++ haltQ w q ++ lateQ w q = PR2 ++ (q.take q.length).flatMap (haltA w) ++ lateQ w q := by rw [List.take_length]; rfl
        rw [efin]
        clear efin
        repeat (refine stp rfl ?_ ?_;·repeat' constructor)
        refine pw_loop (fun k => k ≤ q.length) (fun k => [(2, .ptr 2 1 0 0), (5, .sl ((qS q).map eSlot)), (6, .als 6 (1 + (PR2 ++ (q.take k).flatMap (haltA w)).length) 0 ((PR2 ++ (q.take k).flatMap (haltA w)).map eBr).length), (17, I k)])
          (fun k => [(2, 1, ⟨28, 9, [eWork w], 2⟩), (6, 1 + (PR2 ++ (q.take k).flatMap (haltA w)).length, ⟨119, 3, (PR2 ++ (q.take k).flatMap (haltA w)).map eBr, 0⟩)]) (fun k => q.length - k) 0 (Nat.zero_le _) ⟨rfl, rfl, ?_, rfl, rfl, ?_, trivial⟩ ?_
        · rw [← e0]; rfl
        · rw [← e0]; rfl
        intro k s2 hk
        have hHk := hH k
        repeat (refine stp rfl ?_ ?_;·repeat' constructor)
        refine pw_cond rfl (fun h => ?_) (fun h => ?_)
        · have hlt : k < q.length := by have := of_decide_eq_true h; omega
          clear h
          obtain ⟨⟨x, p⟩, hp⟩ := get_lt hlt
          have hsk := qS_at hp
          have hsa := hq.slotAt hv hp
          have hstep : PR2 ++ (q.take (k + 1)).flatMap (haltA w) = PR2 ++ (q.take k).flatMap (haltA w) ++ haltA w (x, p) := by rw [flatMap_snoc hp, List.append_assoc]
          have hlen : (PR2 ++ (q.take k).flatMap (haltA w)).length ≤ 1604000000000 := by rw [List.length_append]; omega
          have hat : haltA w (x, p) = if stopP w x p = true then [⟨x.name, [], 18⟩] else [] := rfl
          have ho := out_ref w hw hv _ hsa
          have hob : (x.crane && w.outs.any fun o => decide (p.day < o.to) && decide (o.frm < p.day + (modeAt x p.mode).days)) = stopP w x p := rfl
          rw [hob] at ho
          generalize stopP w x p = SB at *
          generalize PR2 ++ (q.take k).flatMap (haltA w) = ACC at *
          repeat (refine stp rfl ?_ ?_;·repeat' constructor)
          refine pw_draw 6 [175, 176, 177, 178, 179, 180] (by decide +kernel) ?_
          repeat (refine stp rfl ?_ ?_;·repeat' constructor)
          apply qst;exact rfl;exact rfl;exact q_idxm rfl rfl rfl rfl rfl (by omega) hsk rfl
          repeat (refine stp rfl ?_ ?_;·repeat' constructor)
          apply qst;exact rfl;exact rfl;exact q_callP rfl (ho) rfl (by repeat' constructor) rfl rfl
          repeat (refine stp rfl ?_ ?_;·repeat' constructor)
          refine pw_cond rfl (fun h => ?_) (fun h => ?_)
          · subst h
            rw [if_pos rfl] at hat
            repeat (refine stp rfl ?_ ?_;·repeat' constructor)
            apply qst;exact rfl;exact rfl;exact q_idxm rfl rfl rfl rfl rfl (by omega) hsk rfl
            repeat (refine stp rfl ?_ ?_;·repeat' constructor)
            apply qst;exact rfl;exact rfl;exact q_slit rfl rfl rfl rfl rfl rfl rfl rfl rfl rfl (by repeat' constructor) rfl
            repeat (refine stp rfl ?_ ?_;·repeat' constructor)
            refine ps_run (o_app 0 rfl rfl rfl rfl rfl rfl rfl rfl rfl rfl rfl (by repeat' constructor) (by intro row hr; first | (simp at hr; subst hr; rfl) | simp at hr) rfl rfl (by simp; omega) (by simp; omega) ?_)
            repeat (refine stp rfl ?_ ?_;·repeat' constructor)
            refine ⟨k + 1, hlt, by omega, rfl, rfl, ?_, i64_next (by omega) (by omega), rfl, ?_, trivial⟩
            · rw [hstep, hat]; exact als_snoc eBr 6 1 ACC ⟨x.name, [], 18⟩
            · rw [hstep, hat]; exact cont_snoc eBr 1 119 3 0 ACC ⟨x.name, [], 18⟩
          · subst h
            rw [if_neg (by simp)] at hat
            repeat (refine stp rfl ?_ ?_;·repeat' constructor)
            refine ⟨k + 1, hlt, by omega, rfl, rfl, ?_, i64_next (by omega) (by omega), rfl, ?_, trivial⟩
            · rw [hstep, hat, List.append_nil]; rfl
            · rw [hstep, hat, List.append_nil]; rfl
        · have hge : k = q.length := by have := of_decide_eq_false h; omega
          subst hge
          clear h
          have hP3 : (PR2 ++ (q.take q.length).flatMap (haltA w)).length ≤ 1604000000000 := by rw [List.length_append]; omega
          generalize PR2 ++ (q.take q.length).flatMap (haltA w) = PR3 at *
          have f0 : PR3 = PR3 ++ (q.take 0).flatMap (lateA w) := by simp
          have ffin : PR3 ++ lateQ w q = PR3 ++ (q.take q.length).flatMap (lateA w) := by rw [List.take_length]; rfl
          rw [ffin]
          clear ffin e0 hHk hH
          repeat (refine stp rfl ?_ ?_;·repeat' constructor)
          refine pw_loop (fun k => k ≤ q.length) (fun k => [(2, .ptr 2 1 0 0), (5, .sl ((qS q).map eSlot)), (6, .als 6 (1 + (PR3 ++ (q.take k).flatMap (lateA w)).length) 0 ((PR3 ++ (q.take k).flatMap (lateA w)).map eBr).length), (18, I k)])
            (fun k => [(2, 1, ⟨28, 9, [eWork w], 2⟩), (6, 1 + (PR3 ++ (q.take k).flatMap (lateA w)).length, ⟨119, 3, (PR3 ++ (q.take k).flatMap (lateA w)).map eBr, 0⟩)]) (fun k => q.length - k) 0 (Nat.zero_le _) ⟨rfl, rfl, ?_, rfl, rfl, ?_, trivial⟩ ?_
          · rw [← f0]; rfl
          · rw [← f0]; rfl
          intro k s2 hk
          have hLk := hLt k
          repeat (refine stp rfl ?_ ?_;·repeat' constructor)
          refine pw_cond rfl (fun h => ?_) (fun h => ?_)
          · have hlt : k < q.length := by have := of_decide_eq_true h; omega
            clear h
            obtain ⟨⟨x, p⟩, hp⟩ := get_lt hlt
            have hsk := qS_at hp
            have hsa := hq.slotAt hv hp
            have hstep : PR3 ++ (q.take (k + 1)).flatMap (lateA w) = PR3 ++ (q.take k).flatMap (lateA w) ++ lateA w (x, p) := by rw [flatMap_snoc hp, List.append_assoc]
            have hlen : (PR3 ++ (q.take k).flatMap (lateA w)).length ≤ 1605000000000 := by rw [List.length_append]; omega
            have hat : lateA w (x, p) = if w.last < endP x p then [⟨x.name, [], 16⟩] else [] := rfl
            generalize PR3 ++ (q.take k).flatMap (lateA w) = ACC at *
            repeat (refine stp rfl ?_ ?_;·repeat' constructor)
            refine pw_draw 9 [196, 197, 198, 199, 200, 201, 202, 203, 204] (by decide +kernel) ?_
            repeat (refine stp rfl ?_ ?_;·repeat' constructor)
            apply qst;exact rfl;exact rfl;exact q_idxm rfl rfl rfl rfl rfl (by omega) hsk rfl
            repeat (refine stp rfl ?_ ?_;·repeat' constructor)
            apply qst;exact rfl;exact rfl;exact q_callP rfl (end_ref w hw _ hsa) rfl (by repeat' constructor) rfl rfl
            repeat (refine stp rfl ?_ ?_;·repeat' constructor)
            refine pw_cond rfl (fun h => ?_) (fun h => ?_)
            · have hc : w.last < endP x p := of_decide_eq_true h
              clear h
              rw [if_pos hc] at hat
              repeat (refine stp rfl ?_ ?_;·repeat' constructor)
              apply qst;exact rfl;exact rfl;exact q_idxm rfl rfl rfl rfl rfl (by omega) hsk rfl
              repeat (refine stp rfl ?_ ?_;·repeat' constructor)
              apply qst;exact rfl;exact rfl;exact q_slit rfl rfl rfl rfl rfl rfl rfl rfl rfl rfl (by repeat' constructor) rfl
              repeat (refine stp rfl ?_ ?_;·repeat' constructor)
              refine ps_run (o_app 0 rfl rfl rfl rfl rfl rfl rfl rfl rfl rfl rfl (by repeat' constructor) (by intro row hr; first | (simp at hr; subst hr; rfl) | simp at hr) rfl rfl (by simp; omega) (by simp; omega) ?_)
              repeat (refine stp rfl ?_ ?_;·repeat' constructor)
              refine ⟨k + 1, hlt, by omega, rfl, rfl, ?_, i64_next (by omega) (by omega), rfl, ?_, trivial⟩
              · rw [hstep, hat]; exact als_snoc eBr 6 1 ACC ⟨x.name, [], 16⟩
              · rw [hstep, hat]; exact cont_snoc eBr 1 119 3 0 ACC ⟨x.name, [], 16⟩
            · have hc : ¬ w.last < endP x p := of_decide_eq_false h
              clear h
              rw [if_neg hc] at hat
              repeat (refine stp rfl ?_ ?_;·repeat' constructor)
              refine ⟨k + 1, hlt, by omega, rfl, rfl, ?_, i64_next (by omega) (by omega), rfl, ?_, trivial⟩
              · rw [hstep, hat, List.append_nil]; rfl
              · rw [hstep, hat, List.append_nil]; rfl
          · have hge : k = q.length := by have := of_decide_eq_false h; omega
            subst hge
            clear h
            repeat (refine stp rfl ?_ ?_;·repeat' constructor)
            exact end1f rfl rfl rfl ⟨rfl, rfl, rfl⟩ rfl
theorem breaches_refQ (w : SWork) (hw : Sane w) (hv : Well w) (hz : workE w = 0) (s : List SSlot) (q : List IP) (hq : QOk w q) (hsort : Ret Tryz.prog .shared 87 [.agg (eWork w), .sl (s.map eSlot)] (.sl ((qS q).map eSlot))) :
    Ret Tryz.prog .shared 58 [.agg (eWork w), .sl (s.map eSlot)] (.sl ((breachQ w q).map eBr)) := (breaches_refF w hw hv hz s q hq hsort).toShared
end Go.Pv


set_option maxHeartbeats 2000000
namespace Go.Pv
attribute [local irreducible] PWP POps PQuiet PSem XThen XBlock RetPost InlPost
open Go.Proofs
theorem range_getK {α β : Type} {q : List α} {f : α → List β} {g : Nat → List β} (h : ∀ (k : Nat) a, q[k]? = some a → g k = f a) : ∀ k, k ≤ q.length → (List.range k).flatMap g = (q.take k).flatMap f
  | 0, _ => by simp
  | k + 1, hk => by
    obtain ⟨a, ha⟩ := get_lt (show k < q.length by omega)
    rw [range_flatMap, flatMap_snoc ha, range_getK h k (by omega), h k a ha]
theorem range_get {α β : Type} {q : List α} {f : α → List β} {g : Nat → List β} {n : Nat} (hn : n = q.length) (h : ∀ (k : Nat) a, q[k]? = some a → g k = f a) : (List.range n).flatMap g = q.flatMap f := by
  rw [hn, range_getK h _ (Nat.le_refl _), List.take_length]
theorem range'_get {α β : Type} {q : List α} {f : α → List β} {g : Nat → List β} {s : Nat} (h : ∀ (k : Nat) a, q[k]? = some a → g k = f a) : ∀ j, s + j ≤ q.length → (List.range' s j).flatMap g = ((q.drop s).take j).flatMap f
  | 0, _ => by simp
  | j + 1, hj => by
    obtain ⟨a, ha⟩ := get_lt (show s + j < q.length by omega)
    rw [List.range'_1_concat, List.flatMap_append, range'_get h j (by omega), flatMap_snoc (x := a) (by rw [List.getElem?_drop]; exact ha), ← h _ a ha]
    simp
theorem flatMap_on {α β : Type} {f g : α → List β} : ∀ {l : List α}, (∀ x ∈ l, f x = g x) → l.flatMap f = l.flatMap g
  | [], _ => rfl
  | a :: l, h => by rw [List.flatMap_cons, List.flatMap_cons, h a (by simp), flatMap_on fun x hx => h x (by simp [hx])]
theorem flatMap_only {α β : Type} {g : α → List β} {j : Nat} {a : α} : ∀ {l : List α}, l[j]? = some a → (∀ (k : Nat) b, l[k]? = some b → k ≠ j → g b = []) → l.flatMap g = g a
  | [], hj, _ => by simp at hj
  | b :: l, hj, h => by
    rw [List.flatMap_cons]
    cases j with
    | zero =>
      simp at hj
      subst hj
      have : l.flatMap g = [] := by
        rw [List.flatMap_eq_nil_iff]
        intro x hx
        obtain ⟨k, hk, rfl⟩ := List.getElem_of_mem hx
        exact h (k + 1) _ (by simp [hk]) (by omega)
      rw [this, List.append_nil]
    | succ j =>
      rw [h 0 b rfl (by omega), List.nil_append]
      exact flatMap_only (by simpa using hj) fun k c hk hne => h (k + 1) c (by simpa using hk) (by omega)
theorem prs_get {w : SWork} {l : List SPl} {k : Nat} {a : IP} (h : (prs w l)[k]? = some a) : w.items[k]? = some a.1 ∧ l[k]? = some a.2 := by
  obtain ⟨x, p⟩ := a
  rw [prs, List.getElem?_zip_eq_some] at h
  exact h
theorem breachQ_prs {w : SWork} {l : List SPl} (hv : Well w) (hf : Full w l) : breachQ w (prs w l) = breachP w l := by
  have hlen : w.items.length = (prs w l).length := (prs_len hf.toPlan).symm
  have hfin : breachP w l = earlyP w l ++ crowdP w l ++ clashP w l ++ haltP w l ++ lateP w l := by simp [breachP, partsP]
  rw [hfin, breachQ]
  congr 1
  congr 1
  congr 1
  congr 1
  · symm
    refine range_get hlen fun k a ha => ?_
    obtain ⟨hx, hp⟩ := prs_get ha
    have hbx : (bef w).getD k [] = aft w a.1 := by rw [List.getD_eq_getElem?_getD, bef, List.getElem?_map, hx]; rfl
    rw [hbx, aft, List.flatMap_map, earlyA]
    refine flatMap_on fun nm hnm => ?_
    obtain ⟨j, y, hy, hyn, hidx⟩ := known_at hv.good (List.mem_of_getElem? hx) hnm
    obtain ⟨r, hr⟩ := get_lt (show j < l.length by rw [hf.len]; exact (List.getElem?_eq_some_iff.1 hy).1)
    rw [hidx, earlyB, flatMap_only (prs_at hy hr) (fun k b hb hne => ?_)]
    · rw [early1, if_pos hyn, earlyAt, slP_at hp, slP_at hr, itP_at hy, itP_at hx]
    · obtain ⟨hb1, _⟩ := prs_get hb
      rw [early1, if_neg]
      intro he
      have h1 := hv.good.uniq k _ hb1
      have h2 := hv.good.uniq j y hy
      rw [he, ← hyn] at h1
      omega
  · symm
    refine range_get rfl fun k t ht => ?_
    rw [crowdAt, ht]
    show (if t.crew < mostP (peopleP w l t.name) then _ else _) = _
    rw [most_eq (same_A hf t.name)]
    rfl
  · symm
    rw [clashP, atN, clashQ, hlen]
    refine flatMap_on fun i hi => ?_
    have hi := List.mem_range.1 hi
    obtain ⟨a, ha⟩ := get_lt hi
    obtain ⟨hx, hp⟩ := prs_get ha
    rw [clashRow, clashI, ha, range'_get (q := prs w l) (f := clash1 w a) (fun k b hb => ?_) _ (by omega)]
    · show _ = ((prs w l).drop (i + 1)).flatMap (clash1 w a)
      rw [List.take_of_length_le (by rw [List.length_drop]; omega)]
    · obtain ⟨hy, hr⟩ := prs_get hb
      rw [clashAt, slP_at hp, slP_at hr, itP_at hy, itP_at hx, meetP, hf.on i _ hp, hf.on k _ hr]
      rfl
  · symm
    refine range_get hlen fun k a ha => ?_
    obtain ⟨hx, hp⟩ := prs_get ha
    rw [haltAt, slP_at hp, itP_at hx, haltA]
  · symm
    refine range_get hlen fun k a ha => ?_
    obtain ⟨hx, hp⟩ := prs_get ha
    rw [lateAt, slP_at hp, itP_at hx, lateA]
theorem breaches_ref (w : SWork) (hw : Sane w) (s : List SSlot) (hs : s.length ≤ 1000) (h0 : slE w s = 0) : Ret Tryz.prog .shared 58 [.agg (eWork w), .sl (s.map eSlot)] (.sl ((breachP w (placed w s)).map eBr)) := by
  obtain ⟨hz, _⟩ := slE_parts h0
  obtain ⟨hv, hf⟩ := full_of h0
  have hsort := sorted_ref w (by have := hv.n40; omega) s hs
  rw [sorted_eq h0, ← qS_prs] at hsort
  rw [← breachQ_prs hv hf]
  exact breaches_refQ w hw hv hz s _ (QOk.of_full hv hf) hsort
theorem modes_le {w : SWork} (hv : Well w) : ∀ x ∈ w.items, x.modes.length ≤ 100000 := fun x hx => by have := (hv.item x hx).modes; omega
theorem checkPlan_ref (w : SWork) (hw : Sane w) (s : List SSlot) (hs : s.length ≤ 1000) (hz : workE w = 0) : Ret Tryz.prog .shared 21 [.agg (eWork w), .sl (s.map eSlot)] (I (planE w s)) := by
  have hv := well_of hz
  have h16 := checkSlots_ref w hw (modes_le hv) s
  have hsl : slE w s = slotsE w s := by rw [slE, if_pos hz]
  rw [← hsl] at h16
  by_cases h0 : slE w s = 0
  · have h17 := breaches_ref w hw s hs h0
    rw [h0] at h16
    have hp : planE w s = firstR (breachP w (placed w s)) := by rw [planE, if_pos h0]
    rw [hp]
    cases hb : breachP w (placed w s) with
    | nil =>
      rw [hb] at h17
      refine Ret.of_pwp layOk mixed Go.Proofs.Tryz.func21 rfl (by decide) rfl rfl ?_
      repeat (refine stp rfl ?_ ?_;·repeat' constructor)
      apply qst;exact rfl;exact rfl;exact q_callP rfl (h16) rfl (by repeat' constructor) rfl rfl
      repeat (refine stp rfl ?_ ?_;·repeat' constructor)
      apply qst;exact rfl;exact rfl;exact q_call rfl (h17) rfl (by repeat' constructor) rfl
      repeat (refine stp rfl ?_ ?_;·repeat' constructor)
      exact end1i rfl rfl rfl
    | cons b l =>
      rw [hb] at h17
      have h0 : (b :: l)[0]? = some b := rfl
      refine Ret.of_pwp layOk mixed Go.Proofs.Tryz.func21 rfl (by decide) rfl rfl ?_
      repeat (refine stp rfl ?_ ?_;·repeat' constructor)
      apply qst;exact rfl;exact rfl;exact q_callP rfl (h16) rfl (by repeat' constructor) rfl rfl
      repeat (refine stp rfl ?_ ?_;·repeat' constructor)
      apply qst;exact rfl;exact rfl;exact q_call rfl (h17) rfl (by repeat' constructor) rfl
      repeat (refine stp rfl ?_ ?_;·repeat' constructor)
      refine pw_cond rfl (fun h => ?_) (fun h => ?_)
      · repeat (refine stp rfl ?_ ?_;·repeat' constructor)
        apply qst;exact rfl;exact rfl;exact q_idxm (n := (((0:Nat):Int) : Int)) rfl rfl rfl rfl rfl (by omega) h0 rfl
        repeat (refine stp rfl ?_ ?_;·repeat' constructor)
        exact end1i rfl rfl rfl
      · exact absurd (of_decide_eq_false h) (by simp)
  · have hp : planE w s = slE w s := by rw [planE, if_neg h0]
    rw [hp]
    generalize slE w s = e at *
    refine Ret.of_pwp layOk mixed Go.Proofs.Tryz.func21 rfl (by decide) rfl rfl ?_
    repeat (refine stp rfl ?_ ?_;·repeat' constructor)
    apply qst;exact rfl;exact rfl;exact q_callP rfl (h16) rfl (by repeat' constructor) rfl rfl
    repeat (refine stp rfl ?_ ?_;·repeat' constructor)
    refine pw_cond rfl (fun h => ?_) (fun h => ?_)
    · repeat (refine stp rfl ?_ ?_;·repeat' constructor)
      exact end1i rfl rfl rfl
    · exact absurd (by simpa using h) h0
end Go.Pv


set_option maxHeartbeats 2000000
namespace Go.Pv
attribute [local irreducible] PWP POps PQuiet PSem XThen XBlock RetPost InlPost
structure SAsk where
  item : Str
  space : Str
  kind : Int
  frm : Int
  to : Int
def eAsk (a : SAsk) : List PV := [.str a.item, .str a.space, I a.kind, I a.frm, I a.to]
def askQ (q : SItem × SPl) : List SAsk := if 0 ≤ q.1.kind then [⟨q.1.name, q.1.space, q.1.kind, q.2.day, endP q.1 q.2⟩] else []
theorem clash_at {w : SWork} {l : List SPl} (h : clashP w l = []) {i k : Nat} (hk : k < w.items.length) (hi : i < k) : clashAt w l i k = [] := by
  have h1 : clashRow w l i (w.items.length - (i + 1)) = [] := by
    have := List.flatMap_eq_nil_iff.1 h i (List.mem_range.2 (by omega))
    exact this
  exact List.flatMap_eq_nil_iff.1 h1 k (List.mem_range'_1.2 ⟨by omega, by omega⟩)
theorem apart_ok {w : SWork} {l : List SPl} (hf : Full w l) (h : clashP w l = []) {q r : SItem × SPl} (hq : q ∈ prs w l) (hr : r ∈ prs w l) : (exclP w q.1 r.1 && (decide (q.2.day < endP r.1 r.2) && decide (r.2.day < endP q.1 q.2))) = false := by
  obtain ⟨i, hi⟩ := List.getElem?_of_mem hq
  obtain ⟨k, hk⟩ := List.getElem?_of_mem hr
  rw [prs, List.getElem?_zip_eq_some] at hi hk
  have key : ∀ (i k : Nat) (x y : SItem) (p o : SPl), i < k → w.items[i]? = some x → l[i]? = some p → w.items[k]? = some y → l[k]? = some o → (exclP w x y && (decide (p.day < endP y o) && decide (o.day < endP x p))) = false := by
    intro i k x y p o hlt hx hp hy ho
    have hc := clash_at h (List.getElem?_eq_some_iff.1 hy).1 hlt
    have e1 : itP w i = x := by simp [itP, List.getD_eq_getElem?_getD, hx]
    have e2 : itP w k = y := by simp [itP, List.getD_eq_getElem?_getD, hy]
    have e3 : slP l i = p := by simp [slP, List.getD_eq_getElem?_getD, hp]
    have e4 : slP l k = o := by simp [slP, List.getD_eq_getElem?_getD, ho]
    rw [clashAt, e1, e2, e3, e4] at hc
    split at hc
    · cases hc
    · rename_i hn
      rw [meetP, hf.on i p hp, hf.on k o ho, apartP] at hn
      cases he : exclP w x y with
      | false => rfl
      | true => rw [he] at hn; simpa using hn
  rcases Nat.lt_trichotomy i k with hlt | heq | hlt
  · exact key i k _ _ _ _ hlt hi.1 hi.2 hk.1 hk.2
  · subst heq
    have : q.1 = r.1 := Option.some.inj (hi.1.symm.trans hk.1)
    rw [exclP, this]; simp
  · have := key k i _ _ _ _ hlt hk.1 hk.2 hi.1 hi.2
    rw [exclP_comm, Bool.and_comm (decide (q.2.day < _))]
    exact this
end Go.Pv


set_option maxHeartbeats 2000000
namespace Go.Pv
attribute [local irreducible] PWP POps PQuiet PSem XThen XBlock RetPost InlPost
open Go.Proofs
theorem cmp_ret (l : List SPl) {a b : Nat} {p q : SPl} (ha : l[a]? = some p) (hb : l[b]? = some q) (h1 : 0 ≤ p.day ∧ p.day ≤ 1000000) (h2 : 0 ≤ q.day ∧ q.day ≤ 1000000) : Ret Tryz.prog .shared 83 [I a, I b, .dref [.sl (l.map ePl)] 0] (I (p.day - q.day)) := by
  have hw : IntKind.wrap .i64 (p.day - q.day) = p.day - q.day := wrap_i64 (by omega) (by omega)
  refine Ret.of_pwp layOk mixed Go.Proofs.Tryz.func83 rfl (by decide) rfl rfl ?_
  repeat (refine stp rfl ?_ ?_;·repeat' constructor)
  refine pw_draw 12 [6, 7, 8, 9, 10, 11, 12, 13, 14, 15, 16, 5] (by decide +kernel) ?_
  repeat (refine stp rfl ?_ ?_;·repeat' constructor)
  apply qst;exact rfl;exact rfl;exact q_idxm rfl rfl rfl rfl rfl (by omega) ha rfl
  repeat (refine stp rfl ?_ ?_;·repeat' constructor)
  apply qst;exact rfl;exact rfl;exact q_idxm rfl rfl rfl rfl rfl (by omega) hb rfl
  repeat (refine stp rfl ?_ ?_;·repeat' constructor)
  rw [hw]
  repeat (refine stp rfl ?_ ?_;·repeat' constructor)
  exact end1i rfl rfl rfl
end Go.Pv


set_option maxHeartbeats 2000000
namespace Go.Pv
attribute [local irreducible] PWP POps PQuiet PSem XThen XBlock RetPost InlPost RetPostO
open Go.Proofs
theorem flat_eI (l : List Int) : (l.map eI).all (·.all PV.flat1) = true := by
  induction l with
  | nil => rfl
  | cons a l ih => rw [List.map_cons, List.all_cons, ih]; rfl
theorem ordered_own (w : SWork) (h1 : w.items.length ≤ 100000) (h2 : ∀ x ∈ w.items, x.after.length ≤ 100000) : RetO Tryz.prog 102 [.agg (eWork w)] 3 1 ((ordS w).map eI) := by
  have hbl : (bef w).length = w.items.length := by simp [bef]
  have hbe : ∀ l ∈ bef w, l.length ≤ 1000000 := fun l hl => by
    obtain ⟨x, hx, rfl⟩ := List.mem_map.1 hl
    have := h2 x hx
    simp [aft]; omega
  have hml : ((bef w).map eL).length = w.items.length := by rw [List.length_map, hbl]
  refine RetO.of_pwp layOk mixed Go.Proofs.Tryz.func102 rfl (by decide) rfl rfl ?_
  repeat (refine stp rfl ?_ ?_;·repeat' constructor)
  apply qst;exact rfl;exact rfl;exact q_call rfl (before_ret w h1 h2) rfl (by repeat' constructor) rfl
  repeat (refine stp rfl ?_ ?_;·repeat' constructor)
  refine pw_ghost (Ghost.nilcell (k := 42) (k0 := 4) (i := 0) (j := 0) 3 1 0 rfl rfl rfl rfl (row := [.nil]) rfl rfl rfl) ?_
  refine pw_loop (fun out : List Int => out.length ≤ w.items.length ∧ ordS w = orderF ((bef w).length - out.length) (bef w) out) (fun _ => [(1, .ptr 1 1 0 0), (3, .sl ((bef w).map eL)), (4, .ptr 4 1 0 0)])
    (fun out => [(1, 1, ⟨28, 9, [eWork w], 2⟩), (4, 1, ⟨80, 1, [[.als 42 (1 + out.length) 0 (out.map eI).length]], 2⟩), (42, 1 + out.length, ⟨3, 1, out.map eI, 0⟩)]) (fun out => w.items.length - out.length) [] ⟨by simp, rfl⟩ ⟨rfl, rfl, rfl, rfl, rfl, rfl, trivial⟩ ?_
  rintro out s ⟨hol, hos⟩
  have hoe : (out.map eI).length = out.length := by simp
  repeat (refine stp rfl ?_ ?_;·repeat' constructor)
  refine pw_cond rfl (fun h => ?_) (fun h => ?_)
  · have hlt : out.length < w.items.length := by have := of_decide_eq_true h; omega
    clear h
    repeat (refine stp rfl ?_ ?_;·repeat' constructor)
    apply qst;exact rfl;exact rfl;exact q_callP rfl (indexFL_ret (bef w) 134 [.sl (out.map eI)] (readyB out) (by omega) (fun l hl => ord1_ret out (by omega) l (hbe l hl))) rfl (by repeat' constructor) rfl rfl
    repeat (refine stp rfl ?_ ?_;·repeat' constructor)
    refine pw_loop (fun nx : Int => NextAt (bef w) out nx) (fun nx => [(1, .ptr 1 1 0 0), (3, .sl ((bef w).map eL)), (4, .ptr 4 1 0 0), (5, I nx)])
      (fun _ => [(1, 1, ⟨28, 9, [eWork w], 2⟩), (4, 1, ⟨80, 1, [[.als 42 (1 + out.length) 0 (out.map eI).length]], 2⟩), (42, 1 + out.length, ⟨3, 1, out.map eI, 0⟩)]) (fun nx => if nx < 0 then 0 else ((bef w).length - nx).toNat + 1) _ (.start _ _) ⟨rfl, rfl, rfl, rfl, rfl, rfl, rfl, trivial⟩ ?_
    intro nx s' hnx
    have hb := hnx.lt
    repeat (refine stp rfl ?_ ?_;·repeat' constructor)
    (first | refine ps_split rfl rfl (fun h => ?_) (fun h => ?_) | refine pq_split rfl rfl (fun h => ?_) (fun h => ?_) | refine p3_split rfl rfl (fun h => ?_) (fun h => ?_))
    · have h0 := of_decide_eq_true h
      repeat (refine stp rfl ?_ ?_;·repeat' constructor)
      apply qst;exact rfl;exact rfl;exact q_callP rfl (containsI_ret out nx (by omega)) rfl (by repeat' constructor) rfl rfl
      repeat (refine stp rfl ?_ ?_;·repeat' constructor)
      refine pw_cond rfl (fun h => ?_) (fun h => ?_)
      · have hin := h
        clear h
        obtain ⟨i, rfl⟩ : ∃ i : Nat, nx = i := ⟨nx.toNat, by omega⟩
        have hw1 : IntKind.i64.wrap ((i : Int) + 1) = (i + 1 : Nat) := by rw [wrap_i64 (by omega) (by omega)]; omega
        have hst := hnx.step hin
        have hrl := (NextAt.start ((bef w).drop (i + 1)) out).lt
        rw [List.length_drop] at hrl
        repeat (refine stp rfl ?_ ?_;·repeat' constructor)
        rw [hw1]
        refine ps_q (q_slcm rfl rfl rfl rfl rfl (by omega) (by omega) (fun _ => rfl)) ?_
        rw [Int.toNat_natCast]
        repeat (refine stp rfl ?_ ?_;·repeat' constructor)
        apply qst;exact rfl;exact rfl;exact q_callP rfl (indexFL_ret ((bef w).drop (i + 1)) 137 [.sl (out.map eI)] (readyB out) (by rw [List.length_drop]; omega) (fun l hl => ord2_ret out (by omega) l (hbe l (List.mem_of_mem_drop hl)))) rfl (by repeat' constructor) rfl rfl
        repeat (refine stp rfl ?_ ?_;·repeat' constructor)
        refine pw_cond rfl (fun h => ?_) (fun h => ?_)
        · have hneg := of_decide_eq_true h
          rw [if_pos hneg] at hst
          repeat (refine stp rfl ?_ ?_;·repeat' constructor)
          refine ⟨-1, hst, by rw [if_pos (by omega), if_neg (by omega)]; omega, rfl, rfl, rfl, rfl, rfl, rfl, rfl, trivial⟩
        · have hneg := of_decide_eq_false h
          rw [if_neg hneg] at hst
          have hlt2 := hst.lt
          repeat (refine stp rfl ?_ ?_;·repeat' constructor)
          refine ⟨_, hst, by rw [if_neg (by omega), if_neg (by omega)]; omega, rfl, rfl, rfl, ?_, rfl, rfl, rfl, trivial⟩
          show PV.int .i64 (IntKind.i64.wrap (_ + IntKind.i64.wrap (1 + _))) = _
          rw [wrap_i64 (n := 1 + _) (by omega) (by omega), wrap_i64 (by omega) (by omega)]
      · have hnin := h
        clear h
        have hnext := hnx.done (.inr hnin)
        have hol2 : (out ++ [nx]).length = out.length + 1 := by simp
        have hoapp : (out ++ [nx]).map eI = out.map eI ++ [eI nx] := by rw [List.map_append]; rfl
        repeat (refine stp rfl ?_ ?_;·repeat' constructor)
        refine pw_cond rfl (fun h => ?_) (fun h => ?_)
        · have := of_decide_eq_true h; omega
        repeat (refine stp rfl ?_ ?_;·repeat' constructor)
        refine ps_run (o_slit 0 rfl rfl rfl rfl rfl rfl rfl rfl rfl rfl rfl (by repeat' constructor) rfl ?_)
        repeat (refine stp rfl ?_ ?_;·repeat' constructor)
        refine ps_run (o_app 0 rfl rfl rfl rfl rfl rfl rfl rfl rfl rfl rfl (by repeat' constructor) (by intro row hr; first | (simp at hr; subst hr; rfl) | simp at hr) rfl rfl (by simp; omega) (by simp; omega) ?_)
        repeat (refine stp rfl ?_ ?_;·repeat' constructor)
        refine ⟨out ++ [nx], ⟨by simp; omega, ?_⟩, by simp; omega, rfl, rfl, rfl, rfl, ?_, ?_, trivial⟩
        · rw [hos, show (bef w).length - out.length = ((bef w).length - (out ++ [nx]).length) + 1 by simp; omega, orderF, hnext, if_neg (by omega)]
        · show (1, some (Cont.mk 80 1 [[PV.als 42 (1 + out.length + 1) 0 (out.map eI ++ [eI nx]).length]] 2)) = _
          rw [hoapp, hol2]; rfl
        · show (1 + out.length + 1, some (Cont.mk 3 1 (out.map eI ++ [eI nx]) 0)) = _
          rw [hoapp, hol2]; rfl
    · have h0 := of_decide_eq_false h
      have hnext := hnx.done (.inl (by omega))
      repeat (refine stp rfl ?_ ?_;·repeat' constructor)
      refine pw_cond rfl (fun h => ?_) (fun h => ?_)
      · repeat (refine stp rfl ?_ ?_;·repeat' constructor)
        exact endO rfl rfl rfl rfl (flat_eI _) (by rw [hos, show (bef w).length - out.length = ((bef w).length - out.length - 1) + 1 by omega, orderF, hnext, if_pos (by omega)])
      · have := of_decide_eq_false h; omega
  · have hge : (bef w).length - out.length = 0 := by have := of_decide_eq_false h; omega
    repeat (refine stp rfl ?_ ?_;·repeat' constructor)
    exact endO rfl rfl rfl rfl (flat_eI _) (by rw [hos, hge]; rfl)
def RevAt (l : List Int) (q : Nat × List Int) : Prop :=
  q.2.length = l.length ∧ q.1 ≤ l.length ∧ ∀ p, p < l.length → q.2[p]? = if p < q.1 ∨ l.length < p + 1 + q.1 then l[l.length - 1 - p]? else l[p]?
theorem RevAt.zero (l : List Int) : RevAt l (0, l) := ⟨rfl, Nat.zero_le _, fun p hp => by rw [if_neg (by omega)]⟩
theorem RevAt.done {l r : List Int} {i : Nat} (h : RevAt l (i, r)) (hi : l.length ≤ 2 * i + 1) : r = l.reverse := by
  obtain ⟨h1, h2, h3⟩ := h
  apply List.ext_getElem?
  intro p
  rcases Nat.lt_or_ge p l.length with hp | hp
  · have := h3 p hp
    simp only at this
    rw [this, List.getElem?_reverse hp]
    split
    · rfl
    · congr 1; omega
  · rw [List.getElem?_eq_none (by simp only at h1; omega), List.getElem?_eq_none (by simp; omega)]
theorem RevAt.step {l r : List Int} {i : Nat} {x y : Int} (h : RevAt l (i, r)) (hi : 2 * i + 1 < l.length) (hx : r[i]? = some x) (hy : r[l.length - 1 - i]? = some y) : RevAt l (i + 1, (r.set i y).set (l.length - 1 - i) x) := by
  obtain ⟨h1, h2, h3⟩ := h
  simp only at h1 h2 h3
  refine ⟨by simpa using h1, by show i + 1 ≤ _; omega, fun p hp => ?_⟩
  show ((r.set i y).set (l.length - 1 - i) x)[p]? = if p < i + 1 ∨ l.length < p + 1 + (i + 1) then _ else _
  have ex := h3 i (by omega)
  have ey := h3 (l.length - 1 - i) (by omega)
  rw [hx, if_neg (by omega)] at ex
  rw [hy, if_neg (by omega)] at ey
  by_cases hp1 : p = l.length - 1 - i
  · subst hp1
    rw [List.getElem?_set_self (by simp; omega), if_pos (by omega), ex]
    congr 1; omega
  · rw [List.getElem?_set_ne (Ne.symm hp1)]
    by_cases hp2 : p = i
    · subst hp2
      rw [List.getElem?_set_self (by omega), if_pos (by omega), ey]
    · rw [List.getElem?_set_ne (Ne.symm hp2), h3 p hp]
      by_cases hc : p < i ∨ l.length < p + 1 + i
      · rw [if_pos hc, if_pos (by omega)]
      · rw [if_neg hc, if_neg (by omega)]
theorem inl_end0 {L : Lay} {fn : Func} {K : St → PV → Prop} {s : St} (h : fn.results.toList = []) (hk : K s (.tup [])) : InlPost L fn K .normal s := by
  unfold InlPost
  exact ⟨[], True, by rw [h]; rfl, trivial, hk⟩
set_option maxRecDepth 20000 in
theorem reverse18 {K : St → Prop} {s : St} {d : Nat} {x : Operand} {tys : Array TypeId} {ty : TypeId} {pos : String} {af : Array Edge} (w : SWork) (R : List (List PV)) (l : List Int) (hl : l.length ≤ 1000000) (hx : s.ev x = .als 18 1 0 (l.map eI).length) (ho : FitO s [(1, 1, ⟨28, 9, [eWork w], 2⟩), (16, 1, ⟨3, 1, R, 0⟩), (18, 1, ⟨3, 1, l.map eI, 0⟩)])
    (hK : ∀ s1 : St, K (({ reg := s.reg, own := (s1.over [] [(1, 1, ⟨28, 9, [eWork w], 2⟩), (16, 1, ⟨3, 1, R, 0⟩), (18, 1, ⟨3, 1, l.reverse.map eI, 0⟩)]).own } : St).putR d (.tup []))) :
    Sm Tryz.prog lay.get s ⟨some d, .call ⟨.value (.func 140), #[x], tys⟩, ty, pos, af, none⟩ K := by
  have hsub : ∀ (r : List Int), ((r.map eI).length : Int) = r.length := fun r => by simp
  refine sm_inline layOk rfl rfl Tryz.func140 rfl (by decide) rfl rfl ?_
  have hargs : (([x] : List Operand).map s.ev ++ ([] : List PV)) = [.als 18 1 0 (l.map eI).length] := by simp [hx]
  show PWP _ _ _ _ (callSt s (([x] : List Operand).map s.ev ++ []))
  rw [hargs]
  rw [show callSt s [.als 18 1 0 (l.map eI).length] = callSt (s.over [] [(1, 1, ⟨28, 9, [eWork w], 2⟩), (16, 1, ⟨3, 1, R, 0⟩), (18, 1, ⟨3, 1, l.map eI, 0⟩)]) [.als 18 1 0 (l.map eI).length] by rw [Fit.over (l := []) ho]]
  repeat (refine stp rfl ?_ ?_;·repeat' constructor)
  refine pw_loop (RevAt l) (fun q => [(0, .als 18 1 0 (l.map eI).length), (2, I q.1), (3, I ((l.length : Int) - 1 - q.1))]) (fun q => [(1, 1, ⟨28, 9, [eWork w], 2⟩), (16, 1, ⟨3, 1, R, 0⟩), (18, 1, ⟨3, 1, q.2.map eI, 0⟩)]) (fun q => l.length - q.1) (0, l) (.zero l) ⟨rfl, rfl, ?_, rfl, rfl, rfl, trivial⟩ ?_
  · show PV.int .i64 (IntKind.i64.wrap (((l.map eI).length : Int) - 1)) = _
    rw [wrap_i64 (by rw [hsub]; omega) (by rw [hsub]; omega), hsub]
    exact congrArg I (by simp)
  rintro ⟨i, r⟩ s1 hr
  have h1 : r.length = l.length := hr.1
  have h2 : i ≤ l.length := hr.2.1
  repeat (refine stp rfl ?_ ?_;·repeat' constructor)
  refine pw_cond rfl (fun h => ?_) (fun h => ?_)
  · have hlt : 2 * i + 1 < l.length := by have := of_decide_eq_true h; omega
    clear h
    obtain ⟨u, hu⟩ := get_lt (show i < r.length by omega)
    obtain ⟨v, hv⟩ := get_lt (show l.length - 1 - i < r.length by omega)
    have hj : ((l.length : Int) - 1 - i) = ((l.length - 1 - i : Nat) : Int) := by omega
    have hui : (r.map eI)[i]? = some (eI u) := by rw [List.getElem?_map, hu]; rfl
    have hvj : (r.map eI)[l.length - 1 - i]? = some (eI v) := by rw [List.getElem?_map, hv]; rfl
    have hll : (l.map eI).length = l.length := by simp
    repeat (refine stp rfl ?_ ?_;·repeat' constructor)
    refine pw_draw2 13 0 [14, 15, 16, 17, 18, 19, 20, 21, 22, 23, 24, 25, 26] [2,3] (by decide +kernel) rfl ?_
    repeat (refine stp rfl ?_ ?_;·repeat' constructor)
    rw [hj]
    refine pq_q (q_idxA rfl rfl rfl rfl rfl rfl rfl (by omega) (by rw [hll]; omega)) ?_
    rw [Int.toNat_natCast, Nat.zero_add (l.length - 1 - i)]
    refine pq_q (q_ldp rfl rfl rfl hvj rfl) ?_
    repeat (refine stp rfl ?_ ?_;·repeat' constructor)
    refine pq_q (q_idxA rfl rfl rfl rfl rfl rfl rfl (by omega) (by rw [hll]; omega)) ?_
    rw [Int.toNat_natCast, Nat.zero_add i]
    refine pq_q (q_ldp rfl rfl rfl hui rfl) ?_
    repeat (refine stp rfl ?_ ?_;·repeat' constructor)
    refine pq_q (q_idxA rfl rfl rfl rfl rfl rfl rfl (by omega) (by rw [hll]; omega)) ?_
    rw [Int.toNat_natCast, Nat.zero_add i]
    repeat (refine stp rfl ?_ ?_;·repeat' constructor)
    refine ps_run0 (o_store (kd' := 0) rfl rfl rfl hui rfl rfl (by repeat' constructor) rfl rfl rfl rfl ?_)
    refine ps_q (q_idxA rfl rfl rfl rfl rfl rfl rfl (by omega) (by rw [hll]; omega)) ?_
    rw [Int.toNat_natCast, Nat.zero_add (l.length - 1 - i)]
    refine ps_run0 (o_store (kd' := 0) rfl rfl rfl (row := eI v) (by
      show ((r.map eI).set i _)[l.length - 1 - i]? = _
      rw [List.getElem?_set_ne (by omega)]; exact hvj) rfl rfl (by repeat' constructor) rfl rfl rfl rfl ?_)
    repeat (refine stp rfl ?_ ?_;·repeat' constructor)
    refine ⟨(i + 1, (r.set i v).set (l.length - 1 - i) u), hr.step hlt hu hv, by show l.length - (i + 1) < l.length - i; omega, rfl, ?_, ?_, rfl, rfl, ?_, trivial⟩
    · exact i64_next (by omega) (by omega)
    · show PV.int .i64 (IntKind.i64.wrap (((l.length - 1 - i : Nat) : Int) - 1)) = _
      rw [wrap_i64 (by omega) (by omega)]
      exact congrArg I (by show ((l.length - 1 - i : Nat) : Int) - 1 = (l.length : Int) - 1 - ((i + 1 : Nat) : Int); omega)
    · refine Eq.trans (b := (1, some (Cont.mk 3 1 (((r.map eI).set i (eI v)).set (l.length - 1 - i) (eI u)) 0))) rfl ?_
      rw [← List.map_set, ← List.map_set]
  · have hd := hr.done (by have := of_decide_eq_false h; omega)
    subst hd
    repeat (refine stp rfl ?_ ?_;·repeat' constructor)
    exact inl_end0 rfl (hK s1)
end Go.Pv


set_option maxHeartbeats 2000000
namespace Go.Pv
attribute [local irreducible] PWP POps PQuiet PSem XThen XBlock RetPost InlPost
open Go.Proofs
def eIx (e : Nat × SPl) : List PV := [I e.1]
def dayE (e : Nat × SPl) : Int := e.2.day
set_option maxRecDepth 20000 in
theorem ins_sm {K : St → Prop} {s : St} {d g : Nat} {x y z c : Operand} {tys : Array TypeId} {ty : TypeId} {pos : String} {af : Array Edge} (l : List SPl) (hl : l.length ≤ 1000)
    (hx : s.ev x = .als 3 g 0 ((en l).map eIx).length) (hy : s.ev y = I 0) (hz : s.ev z = I l.length) (hc : s.ev c = .clo 83 [.ptr 1 1 0 0])
    (hd : ∀ p ∈ l, 0 ≤ p.day ∧ p.day ≤ 1000000)
    (ho : FitO s [(1, 1, ⟨87, 1, [[.sl (l.map ePl)]], 2⟩), (3, g, ⟨3, 1, (en l).map eIx, 0⟩)])
    (hK : ∀ s1 : St, K (({ reg := s.reg, own := (s1.over [] [(1, 1, ⟨87, 1, [[.sl (l.map ePl)]], 2⟩), (3, g, ⟨3, 1, (sortR dayE (en l)).map eIx, 0⟩)]).own } : St).putR d (.tup []))) :
    Sm Tryz.prog lay.get s ⟨some d, .call ⟨.value (.func 151), #[x, y, z, c], tys⟩, ty, pos, af, none⟩ K := by
  refine sm_inline layOk rfl rfl Tryz.func151 rfl (by decide) rfl rfl ?_
  show PWP _ _ _ _ (callSt s (([x, y, z, c] : List Operand).map s.ev ++ []))
  rw [show (([x, y, z, c] : List Operand).map s.ev ++ ([] : List PV)) = [.als 3 g 0 ((en l).map eIx).length, I 0, I l.length, .clo 83 [.ptr 1 1 0 0]] by simp [hx, hy, hz, hc]]
  rw [show callSt s [.als 3 g 0 ((en l).map eIx).length, I 0, I l.length, .clo 83 [.ptr 1 1 0 0]] = callSt (s.over [] [(1, 1, ⟨87, 1, [[.sl (l.map ePl)]], 2⟩), (3, g, ⟨3, 1, (en l).map eIx, 0⟩)]) [.als 3 g 0 ((en l).map eIx).length, I 0, I l.length, .clo 83 [.ptr 1 1 0 0]] by rw [Fit.over (l := []) ho]]
  have hen : ((en l).map eIx).length = l.length := by rw [List.length_map, en_len]
  have h1s : sortR dayE ((en l).take 1) ++ (en l).drop 1 = en l := by
    cases en l with
    | nil => rfl
    | cons x r => rfl
  repeat (refine stp rfl ?_ ?_;·repeat' constructor)
  refine pw_loop (fun i => 1 ≤ i ∧ (i ≤ l.length ∨ i = 1)) (fun i => [(0, .als 3 g 0 ((en l).map eIx).length), (1, I 0), (2, I l.length), (3, .clo 83 [.ptr 1 1 0 0]), (8, I i)])
    (fun i => [(1, 1, ⟨87, 1, [[.sl (l.map ePl)]], 2⟩), (3, g, ⟨3, 1, (sortR dayE ((en l).take i) ++ (en l).drop i).map eIx, 0⟩)]) (fun i => l.length + 1 - i) 1 ⟨Nat.le_refl _, .inr rfl⟩ ⟨rfl, rfl, rfl, rfl, rfl, rfl, by rw [h1s]; rfl, trivial⟩ ?_
  rintro i s1 ⟨hi1, hi⟩
  repeat (refine stp rfl ?_ ?_;·repeat' constructor)
  refine pw_cond rfl (fun h => ?_) (fun h => ?_)
  · have hlt : i < l.length := by have := of_decide_eq_true h; omega
    clear h
    obtain ⟨p, hp⟩ := get_lt hlt
    have hx0 := en_at hp
    have htk : (en l).take (i + 1) = (en l).take i ++ [(i, p)] := take_snoc hx0
    have hdr : (en l).drop i = (i, p) :: (en l).drop (i + 1) := by
      obtain ⟨hl1, h2⟩ := List.getElem?_eq_some_iff.1 hx0
      rw [List.drop_eq_getElem_cons hl1, h2]
    generalize hP : sortR dayE ((en l).take i) = P at *
    have hPl : P.length = i := by rw [← hP, sortR_len, List.length_take, en_len]; omega
    have hstart : P ++ (en l).drop i = insAt P (i, p) i ++ (en l).drop (i + 1) := by
      have hti : P.take i = P := List.take_of_length_le (by omega)
      have hdi : P.drop i = [] := List.drop_eq_nil_of_le (by omega)
      rw [hdr, insAt, hti, hdi]; simp
    repeat (refine stp rfl ?_ ?_;·repeat' constructor)
    refine pw_loop (fun j => j ≤ i ∧ ∀ q y, j ≤ q → P[q]? = some y → dayE (i, p) < dayE y) (fun j => [(0, .als 3 g 0 ((en l).map eIx).length), (1, I 0), (2, I l.length), (3, .clo 83 [.ptr 1 1 0 0]), (8, I i), (9, I j)])
      (fun j => [(1, 1, ⟨87, 1, [[.sl (l.map ePl)]], 2⟩), (3, g, ⟨3, 1, (insAt P (i, p) j ++ (en l).drop (i + 1)).map eIx, 0⟩)]) (fun j => j) i ⟨Nat.le_refl _, fun q y hq hy => by rw [List.getElem?_eq_none (by omega)] at hy; cases hy⟩ ⟨rfl, rfl, rfl, rfl, rfl, rfl, rfl, by rw [hstart]; rfl, trivial⟩ ?_
    rintro j s2 ⟨hj, hpre⟩
    repeat (refine stp rfl ?_ ?_;·repeat' constructor)
    refine pw_draw 17 [18, 19, 20, 21, 22, 23, 24, 25, 26, 27, 28, 29, 30, 31, 32, 33, 34] (by decide +kernel) ?_
    repeat (refine stp rfl ?_ ?_;·repeat' constructor)
    (first | refine ps_split rfl rfl (fun h => ?_) (fun h => ?_) | refine pq_split rfl rfl (fun h => ?_) (fun h => ?_) | refine p3_split rfl rfl (fun h => ?_) (fun h => ?_))
    · have hj0 : 0 < j := by have := of_decide_eq_true h; omega
      clear h
      obtain ⟨k, rfl⟩ : ∃ k, j = k + 1 := ⟨j - 1, by omega⟩
      have hrow : ((insAt P (i, p) (k + 1) ++ (en l).drop (i + 1)).map eIx)[k + 1]? = some (eIx (i, p)) := by
        rw [List.getElem?_map, List.getElem?_append_left (by simp [insAt]; omega), insAt_at (by omega)]; rfl
      obtain ⟨y, hy1⟩ := get_lt (show k < P.length by omega)
      have hrow2 : ((insAt P (i, p) (k + 1) ++ (en l).drop (i + 1)).map eIx)[k]? = some (eIx y) := by
        rw [List.getElem?_map, List.getElem?_append_left (by simp [insAt]; omega), insAt_lt (by omega) (by omega), hy1]; rfl
      have hym : y ∈ en l := List.mem_of_mem_take ((sortR_perm dayE _).mem_iff.1 (hP ▸ List.mem_of_getElem? hy1))
      have hyl := en_mem hym
      have hw1 : IntKind.i64.wrap (((k + 1 : Nat) : Int) - 1) = (k : Nat) := by rw [wrap_i64 (by omega) (by omega)]; omega
      repeat (refine stp rfl ?_ ?_;·repeat' constructor)
      apply qst;exact rfl;exact rfl;exact q_idxA rfl rfl rfl rfl rfl rfl rfl (by omega) (by rw [hen]; omega)
      rw [Int.toNat_natCast, Nat.zero_add (k + 1)]
      apply qst;exact rfl;exact rfl;exact q_ldp rfl rfl rfl hrow rfl
      repeat (refine stp rfl ?_ ?_;·repeat' constructor)
      rw [hw1]
      apply qst;exact rfl;exact rfl;exact q_idxA rfl rfl rfl rfl rfl rfl rfl (by omega) (by rw [hen]; omega)
      rw [Int.toNat_natCast, Nat.zero_add k]
      apply qst;exact rfl;exact rfl;exact q_ldp rfl rfl rfl hrow2 rfl
      repeat (refine stp rfl ?_ ?_;·repeat' constructor)
      apply qst;exact rfl;exact rfl;exact q_callP rfl (cmp_ret l hp hyl (hd p (List.mem_of_getElem? hp)) (hd y.2 (List.mem_of_getElem? hyl))) rfl (by repeat' constructor) rfl rfl
      repeat (refine stp rfl ?_ ?_;·repeat' constructor)
      refine pw_cond rfl (fun h => ?_) (fun h => ?_)
      · have hlt2 : p.day < y.2.day := by have := of_decide_eq_true h; omega
        clear h
        repeat (refine stp rfl ?_ ?_;·repeat' constructor)
        refine pw_draw2 15 0 [37, 38, 39, 40, 41, 42, 43, 44, 45, 46, 47, 48, 49, 50, 51] [2,3,4] (by decide +kernel) rfl ?_
        repeat (refine stp rfl ?_ ?_;·repeat' constructor)
        rw [hw1]
        apply qst;exact rfl;exact rfl;exact q_idxA rfl rfl rfl rfl rfl rfl rfl (by omega) (by rw [hen]; omega)
        rw [Int.toNat_natCast, Nat.zero_add k]
        apply qst;exact rfl;exact rfl;exact q_ldp rfl rfl rfl hrow2 rfl
        repeat (refine stp rfl ?_ ?_;·repeat' constructor)
        apply qst;exact rfl;exact rfl;exact q_idxA rfl rfl rfl rfl rfl rfl rfl (by omega) (by rw [hen]; omega)
        rw [Int.toNat_natCast, Nat.zero_add (k + 1)]
        apply qst;exact rfl;exact rfl;exact q_ldp rfl rfl rfl hrow rfl
        repeat (refine stp rfl ?_ ?_;·repeat' constructor)
        apply qst;exact rfl;exact rfl;exact q_idxA rfl rfl rfl rfl rfl rfl rfl (by omega) (by rw [hen]; omega)
        rw [Int.toNat_natCast, Nat.zero_add (k + 1)]
        repeat (refine stp rfl ?_ ?_;·repeat' constructor)
        refine ps_run0 (o_store (kd' := 0) rfl rfl rfl hrow rfl rfl (by repeat' constructor) rfl rfl rfl rfl ?_)
        apply qst;exact rfl;exact rfl;exact q_idxA rfl rfl rfl rfl rfl rfl rfl (by omega) (by rw [hen]; omega)
        rw [Int.toNat_natCast, Nat.zero_add k]
        refine ps_run0 (o_store (kd' := 0) rfl rfl rfl (row := eIx y) (by
          show (((insAt P (i, p) (k + 1) ++ (en l).drop (i + 1)).map eIx).set (k + 1) _)[k]? = _
          rw [List.getElem?_set_ne (by omega)]; exact hrow2) rfl rfl (by repeat' constructor) rfl rfl rfl rfl ?_)
        repeat (refine stp rfl ?_ ?_;·repeat' constructor)
        refine ⟨k, ⟨by omega, fun q z hq hz => ?_⟩, by omega, rfl, rfl, rfl, rfl, rfl, ?_, rfl, ?_, trivial⟩
        · by_cases hqk : q = k
          · subst hqk; rw [hy1] at hz; cases hz; exact hlt2
          · exact hpre q z (by omega) hz
        · exact congrArg I hw1
        · refine Eq.trans (b := (g, some (Cont.mk 3 1 ((((insAt P (i, p) (k + 1) ++ (en l).drop (i + 1)).map eIx).set (k + 1) (eIx y)).set k (eIx (i, p))) 0))) rfl ?_
          rw [← List.map_set, ← List.map_set, List.set_append_left _ _ (by simp [insAt]; omega), List.set_append_left _ _ (by simp [insAt]; omega), insAt_swap (by omega) hy1]
      · have hge2 : y.2.day ≤ p.day := by have := of_decide_eq_false h; omega
        clear h
        have hpos : posR dayE P (i, p) = k + 1 := posR_at (by omega) hpre (.inr ⟨y, hy1, hge2⟩)
        have hins : sortR dayE ((en l).take (i + 1)) = insAt P (i, p) (k + 1) := by rw [htk, sortR_snoc, hP, insR, hpos]
        repeat (refine stp rfl ?_ ?_;·repeat' constructor)
        refine ⟨i + 1, ⟨by omega, .inl (by omega)⟩, by omega, rfl, rfl, rfl, rfl, i64_next (by omega) (by omega), rfl, ?_, trivial⟩
        rw [hins]; rfl
    · have hj0 : j = 0 := by have := of_decide_eq_false h; omega
      subst hj0
      clear h
      have hpos : posR dayE P (i, p) = 0 := posR_at (by omega) hpre (.inl rfl)
      have hins : sortR dayE ((en l).take (i + 1)) = insAt P (i, p) 0 := by rw [htk, sortR_snoc, hP, insR, hpos]
      repeat (refine stp rfl ?_ ?_;·repeat' constructor)
      refine ⟨i + 1, ⟨by omega, .inl (by omega)⟩, by omega, rfl, rfl, rfl, rfl, i64_next (by omega) (by omega), rfl, ?_, trivial⟩
      rw [hins]; rfl
  · have hge : l.length ≤ i := by have := of_decide_eq_false h; omega
    have hend : sortR dayE ((en l).take i) ++ (en l).drop i = sortR dayE (en l) := by
      rw [List.take_of_length_le (by rw [en_len]; exact hge), List.drop_eq_nil_of_le (by rw [en_len]; exact hge), List.append_nil]
    rw [hend]
    repeat (refine stp rfl ?_ ?_;·repeat' constructor)
    exact inl_end0 rfl (hK s1)
end Go.Pv


namespace Go.Pv
open Go.RowKit
variable [Globs]
section
variable {P : Program} {L : Lay} {C : Ctx} {γ : Nat → Option Nat} {s : St} {a : Act} {w : World}
end
end Go.Pv


set_option linter.unusedVariables false
namespace Go.Pv
open Go.RowKit Go.Proofs Go.Shelf
def WStr (P : Program) (f : FuncId) (T e : TypeId) : Prop :=
  ∀ (b : Nat) (p v : Value) (blk : Option Nat) (n : Nat) (olds : List Value) (s : ByteArray) (w : World), w.heap[b]? = some (.cells #[p, v] T (0, 0)) → (p = .pointer none ∨ p = .pointer (some ⟨b, 0, none⟩)) → Whole w e 1 blk v n olds →
    n + s.size ≤ 140737488355328 → Calls P f #[.pointer (some ⟨b, 0, none⟩), .string s] w fun x w' => x = .returned (.tuple #[.int .i64 s.size, .nilIface]) ∧
      ∃ v' blk', w'.heap[b]? = some (.cells #[.pointer (some ⟨b, 0, none⟩), v'] T (0, 0)) ∧ Whole w' e 1 blk' v' (n + s.size) (olds ++ Lib.strCells s) ∧ w'.os = w.os ∧ w'.tape = w.tape ∧ w'.output = w.output ∧ w.heap.size ≤ w'.heap.size ∧
        (∀ j, j < w.heap.size → j ≠ b → w'.heap[j]? = w.heap[j]? ∨ blk = some j) ∧ (∀ j, blk' = some j → j < w'.heap.size ∧ (w.heap.size ≤ j ∨ blk = some j))
def SStr (P : Program) (f : FuncId) (T e : TypeId) : Prop :=
  ∀ (b : Nat) (p v : Value) (blk : Option Nat) (l : List UInt8) (w : World), w.heap[b]? = some (.cells #[p, v] T (0, 0)) → Whole w e 1 blk v l.length (Lib.byteCells l) →
    Calls P f #[.pointer (some ⟨b, 0, none⟩)] w fun x w' => x = .returned (.string ⟨l.toArray⟩) ∧ w'.os = w.os ∧ w'.tape = w.tape ∧ w'.output = w.output ∧ w.heap.size ≤ w'.heap.size ∧
        (∀ j, j < w.heap.size → w'.heap[j]? = w.heap[j]? ∨ blk = some j)
theorem append_str {P : Program} {w : World} (t u ty e : TypeId) (i : TypeInfo) (ht : P.underlying t = some (.slice e)) (hu : P.underlying u = some .string) (hi : P.info? e = some i) (hz : i.zero = some (.int .u8 0)) (hsize : i.size = 1) (hby : i.bytes = 1)
    (blk : Option Nat) (v : Value) (n : Nat) (olds : List Value) (hv : Whole w e 1 blk v n olds) (s : ByteArray) (hbytes : n + s.size ≤ 140737488355328) :
    ∃ v' w' blk', (Builtin.append_ #[t, u] ty #[v, .string s]).run P w = .ok v' w' ∧ Whole w' e 1 blk' v' (n + s.size) (olds ++ Lib.strCells s) ∧ w'.os = w.os ∧ w'.tape = w.tape ∧ w'.output = w.output ∧ w.heap.size ≤ w'.heap.size ∧
      (∀ b, b < w.heap.size → w'.heap[b]? = w.heap[b]? ∨ blk = some b) ∧ (∀ b, blk' = some b → b < w'.heap.size ∧ (w.heap.size ≤ b ∨ blk = some b)) := by
  have h63 : n + s.size ≤ maxLen := by unfold maxLen; omega
  obtain ⟨hlo, hv⟩ := hv
  have hxl : olds.length = n := by simpa using hlo
  have hlen : (olds ++ Lib.strCells s).length = (n + s.size) * 1 := by rw [List.length_append, hxl, Lib.strCells_length, Nat.mul_one]
  rcases hv with ⟨rfl, rfl, rfl⟩ | ⟨g, cap, cur, rfl, rfl, hg, hnc, hcm, hcs, htk⟩
  · obtain ⟨v', w', h1, h2, h3, h4⟩ := Lib.run_append_own_string (P := P) (w := w) w.heap.size t u ty e i ht hu hi hz hsize hby (.slice none 0 0) 0 olds ⟨hlo, .inl ⟨rfl, rfl⟩⟩ s h63 hbytes (Nat.le_refl _)
    refine ⟨v', w', v'.ownBlock, h1, ⟨h2.1, ?_⟩, h3.os, h3.tape, h3.output, h3.size, fun b hb => .inl (h3.block b hb (by simp [Value.ownBlock])), fun b hb => ?_⟩
    · rcases h2.2 with ⟨e1, e2⟩ | ⟨g, cap, cur, e1, e2, e3⟩
      · exact .inl ⟨by rw [e1]; rfl, e1, e2⟩
      · exact .inr ⟨g, cap, cur, by rw [e1]; rfl, e1, e3⟩
    · rcases h2.2 with ⟨e1, e2⟩ | ⟨g, cap, cur, e1, e2, e3, _⟩
      · rw [e1] at hb; simp [Value.ownBlock] at hb
      · rw [e1] at hb
        simp [Value.ownBlock] at hb
        subst hb
        exact ⟨(Array.getElem?_eq_some_iff.1 e3).1, .inl e2⟩
  · have ht' : cur.toList.take n = olds := by simpa using htk
    have hcs' : cur.size = cap := by simpa using hcs
    by_cases hroom : n + s.size ≤ cap
    · have hr := Lib.run_append_room_string (P := P) (w := w) t u ty e i ht hu hi hsize g n cap cur hg s hroom (by omega)
      refine ⟨_, _, some g, hr, ⟨hlen, .inr ⟨g, cap, _, rfl, rfl, setRow_heap w g cur _ e _ hg, hroom, hcm, ?_, ?_⟩⟩, rfl, rfl, rfl, by simp, fun b hb => ?_, fun b hb => ?_⟩
      · simp only [List.size_toArray, List.length_append, List.length_take, List.length_drop, Array.length_toList, Lib.strCells_length]
        omega
      · rw [ht', ← hlen]
        exact List.take_left
      · by_cases e1 : b = g
        · exact .inr (by rw [e1])
        · exact .inl (setRow_other w g b _ e1)
      · simp at hb; subst hb
        exact ⟨by simpa using (Array.getElem?_eq_some_iff.1 hg).1, .inr rfl⟩
    · have holds : ∀ j u, olds[j]? = some u → w.cell? ((⟨g, 0, none⟩ : Addr).add j) = some u := fun j u hu => by
        rw [Addr.add_mk, Nat.zero_add, cell_of_cells hg]
        rw [← ht', List.getElem?_take] at hu
        split at hu
        · simpa using hu
        · cases hu
      have hr := Lib.run_append_grow_string (P := P) (w := w) t u ty e i (.int .u8 0) ht hu hi hz ⟨g, 0, none⟩ n cap olds (by rw [hsize]; simpa using hxl) holds s (by omega) (by unfold maxLen at h63; omega) (by rw [hby]; exact growslice_fits (by omega) (by omega))
      have hge := grownCap_ge w (n + s.size) cap e
      have hcm := grownCap_le_maxLen w (n + s.size) cap e h63
      refine ⟨_, _, some w.heap.size, hr, ⟨hlen, .inr ⟨w.heap.size, _, _, rfl, rfl, heap_alloc_at w.drew _, hge, hcm, ?_, ?_⟩⟩, rfl, rfl, rfl, by simp, fun b hb => .inl (Below.heap_alloc w.drew _ b hb), fun b hb => ?_⟩
      · have hz1 : (Value.int IntKind.u8 0).cells.size = 1 := rfl
        simp only [Array.size_append, List.size_toArray, size_zeroCells, hz1, hxl, Lib.strCells_length]
        omega
      · simp only [Array.toList_append, List.append_assoc]
        rw [← List.append_assoc, ← hlen]
        exact List.take_left
      · simp at hb; subst hb
        exact ⟨by simp, .inl (Nat.le_refl _)⟩
theorem wpl_append_str {P : Program} {w : World} {ops : Array Oper} {rest : List Oper} {o : Oper} {a : Act} {Q : Exit → Act → World → Prop} (hgd : o.guard = none) (sl x : Operand) (t u : TypeId)
    (ho : o.op = .call { callee := .builtin .append, args := #[sl, x], argTypes := #[t, u] })
    (e : TypeId) (i : TypeInfo) (ht : P.underlying t = some (.slice e)) (hu : P.underlying u = some .string) (hi : P.info? e = some i) (hz : i.zero = some (.int .u8 0)) (hsize : i.size = 1) (hby : i.bytes = 1)
    (blk : Option Nat) (v : Value) (n : Nat) (olds : List Value) (hs : a.eval sl = v) (hv : Whole w e 1 blk v n olds) (s : ByteArray) (hx : a.eval x = .string s) (hbytes : n + s.size ≤ 140737488355328)
    (h : ∀ v' w' blk', Whole w' e 1 blk' v' (n + s.size) (olds ++ Lib.strCells s) → w'.os = w.os → w'.tape = w.tape → w'.output = w.output → w.heap.size ≤ w'.heap.size →
      (∀ b, b < w.heap.size → w'.heap[b]? = w.heap[b]? ∨ blk = some b) → (∀ b, blk' = some b → b < w'.heap.size ∧ (w.heap.size ≤ b ∨ blk = some b)) → wpList P ops Q rest (a.put o.dst v') w') : wpList P ops Q (o :: rest) a w := by
  refine wpList_plain hgd fun K hK => ?_
  obtain ⟨v', w', blk', hr, h2, h3, h4, h5, h6, h7, h8⟩ := append_str (P := P) t u o.type e i ht hu hi hz hsize hby blk v n olds hv s hbytes
  unfold Oper.wp execOp
  simp only [ho, resolve, invoke, builtin, Sem.run_bind, Sem.run_pure, Result.andThen_ok, List.map_toArray, List.map_cons, List.map_nil, hs, hx, hr]
  exact hK _ _ (h v' w' blk' h2 h3 h4 h5 h6 h7 h8)
section
variable {P : Program} {ρ : Ren}
theorem copyCheck_str (L : Lays.n240 P ρ) (X : Builder.X72 P ρ) (b : Nat) (p v : Value) (w : World) (hb : w.heap[b]? = some (.cells #[p, v] (ρ.t 72) (0, 0))) (hp : p = .pointer none ∨ p = .pointer (some ⟨b, 0, none⟩)) :
    Calls P (ρ.f 240) #[.pointer (some ⟨b, 0, none⟩)] w fun e w' => e = .returned (.tuple #[]) ∧ w'.heap[b]? = some (.cells #[.pointer (some ⟨b, 0, none⟩), v] (ρ.t 72) (0, 0)) ∧ w'.os = w.os ∧ w'.tape = w.tape ∧ w'.output = w.output ∧ w'.heap.size = w.heap.size ∧ ∀ j, j ≠ b → w'.heap[j]? = w.heap[j]? := by
  have c0 : w.cell? ⟨b, 0, none⟩ = some p := by rw [Lib.cell_of_heap hb]; rfl
  rcases hp with rfl | rfl
  · refine (Any.Builder_copyCheck_fresh L X b w c0 (by simp [World.shape?, hb]) (by simp [World.frozen?, hb])).mono ?_
    rintro e w' ⟨rfl, rfl⟩
    refine ⟨rfl, ?_, rfl, rfl, rfl, by simp [World.setCell], fun j hj => Below.heap_setCell _ _ _ _ hj⟩
    simp [World.setCell, Array.getElem?_modify, hb]
  · refine (Any.Builder_copyCheck_used L X b w c0).mono ?_
    rintro e w' ⟨rfl, rfl⟩
    exact ⟨rfl, hb, rfl, rfl, rfl, rfl, fun _ _ => rfl⟩
end
end Go.Pv


set_option linter.unusedVariables false
namespace Go.Pv
open Go.RowKit Go.Proofs Go.Shelf
variable {P : Program} {ρ : Ren}
theorem whole_frame {w w' : World} {e : TypeId} {blk : Option Nat} {v : Value} {n : Nat} {olds : List Value} (h : Whole w e 1 blk v n olds) (hk : ∀ g, blk = some g → w'.heap[g]? = w.heap[g]?) : Whole w' e 1 blk v n olds := by
  refine ⟨h.1, h.2.imp id ?_⟩
  rintro ⟨b, cap, cur, h1, h2, h3, h4⟩
  exact ⟨b, cap, cur, h1, h2, by rw [hk b h1]; exact h3, h4⟩
set_option maxHeartbeats 2000000 in
set_option maxRecDepth 100000 in
theorem wstr (L : Lays.n166 P ρ) (X : Builder.Extra P ρ) : WStr P (ρ.f 166) (ρ.t 72) (ρ.t 5) := by
  intro b p v blk n olds s w hb hp hw hlen
  have hne : blk ≠ some b := by
    intro e
    rcases hw.2 with ⟨e1, _⟩ | ⟨g, cap, cur, e1, _, e3, _⟩
    · rw [e1] at e; cases e
    · rw [e1] at e; cases e
      rw [hb] at e3
      simp only [Option.some.injEq, Obj.cells.injEq] at e3
      exact X.neB5 e3.2.1
  obtain ⟨i0, hi, hz0, hz1, hz2⟩ := info_parts X.infoByte
  have mixed := L.mixed
  have t72 := L.t72; have a72 := L.a72; have z72 := L.z72; have v72 := L.v72; have u72 := run_underlying L.t72
  have t70 := L.t70; have a70 := L.a70; have z70 := L.z70; have v70 := L.v70; have u70 := run_underlying L.t70
  have t37 := L.t37; have a37 := L.a37; have z37 := L.z37; have v37 := L.v37; have u37 := run_underlying L.t37
  have t3 := L.t3; have a3 := L.a3; have z3 := L.z3; have v3 := L.v3; have u3 := run_underlying L.t3
  have t9 := L.t9; have a9 := L.a9; have z9 := L.z9; have v9 := L.v9; have u9 := run_underlying L.t9
  have t4 := L.t4; have a4 := L.a4; have z4 := L.z4; have v4 := L.v4; have u4 := run_underlying L.t4
  have t164 := L.t164; have a164 := L.a164; have z164 := L.z164; have v164 := L.v164; have u164 := run_underlying L.t164
  have t5 := X.t5; have a5 := X.a5; have z5 := X.z5; have v5 := X.v5; have u5 := run_underlying X.t5
  have e240 : ∀ args w, (callFunc (ρ.f 240) args).run P w = .ok (.enter (ρ.f 240) args) w := enters_of L.f240 (by kernel_rfl) rfl
  go_enter L.f166, Body.n166_ntmps ρ
  go_wp2_with (go_at_fn (ρ.f 240); refine (copyCheck_str { L with } X.toX72 b p v _ hb hp).mono ?_)
  rintro e w1 ⟨rfl, hbk, hO⟩
  have o5 := hO.2.2.2.2
  have hw1 : Whole w1 (ρ.t 5) 1 blk v n olds := whole_frame hw fun g hg => o5 g fun e => hne (by rw [hg, e])
  have HO := (show Hid _ from hO)
  clear hO o5
  have c0 : w1.cell? ⟨b, 0, none⟩ = some (.pointer (some ⟨b, 0, none⟩)) := by rw [Lib.cell_of_heap hbk]; rfl
  have c1 : w1.cell? ⟨b, 1, none⟩ = some v := by rw [Lib.cell_of_heap hbk]; rfl
  go_wp2_with (at_builtin; refine wpl_append_str rfl _ _ (ρ.t 37) (ρ.t 9) rfl (ρ.t 5) i0 L.t37 L.t9 hi hz0 hz1 hz2 blk _ _ _ rfl hw1 s rfl hlen ?_)
  intro v' w2 blk' hw2 q1 q2 q3 q4 q5 q6
  have ⟨o1, o2, o3, o4, o5⟩ := HO.out
  have hlt : b < w1.heap.size := (Array.getElem?_eq_some_iff.1 hbk).1
  have hb2 : w2.heap[b]? = some (.cells #[.pointer (some ⟨b, 0, none⟩), v] (ρ.t 72) (0, 0)) := by
    rcases q5 b hlt with e1 | e1
    · rw [e1]; exact hbk
    · exact absurd e1 hne
  have d0 : w2.cell? ⟨b, 0, none⟩ = some (.pointer (some ⟨b, 0, none⟩)) := by rw [Lib.cell_of_heap hb2]; rfl
  have d1 : w2.cell? ⟨b, 1, none⟩ = some v := by rw [Lib.cell_of_heap hb2]; rfl
  have f1 : w2.frozen? ⟨b, 1, none⟩ = false := Lib.frozen_of_heap hb2 1
  have hne' : blk' ≠ some b := fun e => by
    rcases (q6 b e).2 with e1 | e1
    · omega
    · exact hne e1
  have HQ := (show Hid _ from And.intro q1 (And.intro q2 (And.intro q3 (And.intro q4 (And.intro q5 q6)))))
  clear q1 q2 q3 q4 q5 q6 o1 o2 o3 o4 o5
  obtain ⟨ao, n', cap, rfl⟩ : ∃ ao n' cap, v' = .slice ao n' cap := by
    rcases hw2.2 with ⟨_, hv, _⟩ | ⟨g, cap, cur, _, hv, _⟩
    · exact ⟨_, _, _, hv⟩
    · exact ⟨_, _, _, hv⟩
  go_wp2
  go_ret2
  have ⟨o1, o2, o3, o4, o5⟩ := HO.out
  have ⟨q1, q2, q3, q4, q5, q6⟩ := HQ.out
  refine ⟨rfl, .slice ao n' cap, blk', ?_, whole_frame hw2 fun g hg => Below.heap_setCell _ _ _ _ (fun e => hne' (by rw [hg, e])), q1.trans o1, q2.trans o2, q3.trans o3, ?_, fun j hj hjb => ?_, fun j hj => ?_⟩
  · simp [World.setCell, Array.getElem?_modify, hb2]
  · simp [World.setCell]; omega
  · rw [Below.heap_setCell _ _ _ _ hjb]
    rcases q5 j (by omega) with e1 | e1
    · exact .inl (e1.trans (o5 j hjb))
    · exact .inr e1
  · have := q6 j hj
    refine ⟨by simp [World.setCell]; omega, this.2.imp (fun h => by omega) id⟩
set_option maxHeartbeats 4000000 in
set_option maxRecDepth 100000 in
theorem sstr (L : Lays.n169 P ρ) (X : Builder.Extra P ρ) : SStr P (ρ.f 169) (ρ.t 72) (ρ.t 5) := by
  intro b p v blk l w hb hw
  have hlt : b < w.heap.size := (Array.getElem?_eq_some_iff.1 hb).1
  have mixed := L.mixed
  have t72 := L.t72; have a72 := L.a72; have z72 := L.z72; have v72 := L.v72; have u72 := run_underlying L.t72
  have t70 := L.t70; have a70 := L.a70; have z70 := L.z70; have v70 := L.v70; have u70 := run_underlying L.t70
  have t37 := L.t37; have a37 := L.a37; have z37 := L.z37; have v37 := L.v37; have u37 := run_underlying L.t37
  have t127 := L.t127; have a127 := L.a127; have z127 := L.z127; have v127 := L.v127; have u127 := run_underlying L.t127
  have t3 := L.t3; have a3 := L.a3; have z3 := L.z3; have v3 := L.v3; have u3 := run_underlying L.t3
  have t9 := L.t9; have a9 := L.a9; have z9 := L.z9; have v9 := L.v9; have u9 := run_underlying L.t9
  have t5 := X.t5; have a5 := X.a5; have z5 := X.z5; have v5 := X.v5; have u5 := run_underlying X.t5
  have c1 : w.drew.cell? ⟨b, 1, none⟩ = some v := by
    have : w.drew.heap[b]? = some (.cells #[p, v] (ρ.t 72) (0, 0)) := hb
    rw [Lib.cell_of_heap this]; rfl
  by_cases hl0 : l = []
  · subst hl0
    have hUS := Any.unsafeString_none L X
    rcases hw.2 with ⟨rfl, rfl, _⟩ | ⟨g, cap, cur, rfl, rfl, hg, hnc, hcm, hcs, htake⟩
    · have hSD : (Builtin.unsafeSliceData_ #[(ρ.t 37)] (ρ.t 127) #[.slice none 0 0]).run P w.drew = .ok (.pointer none) w.drew := rfl
      go_enter L.f169, Body.n169_ntmps ρ
      go_wp2
      go_region_o
      all_goals (go_wp2; go_ret; exact ⟨rfl, rfl, rfl, rfl, Nat.le_refl _, fun _ _ => .inl rfl⟩)
    · by_cases hc0 : cap = 0
      · subst hc0
        have hSD : (Builtin.unsafeSliceData_ #[(ρ.t 37)] (ρ.t 127) #[.slice (some ⟨g, 0, none⟩) 0 0]).run P w.drew = .ok (.pointer (some ⟨w.drew.heap.size, 0, none⟩)) (w.drew.alloc (.view ⟨g, 0, none⟩ (ρ.t 5))) :=
          Lib.run_unsafeSliceData_zero w.drew _ _ (ρ.t 5) L.t127 ⟨g, 0, none⟩ 0 ((ρ.t 5), cur.size) (by have hg' : w.drew.heap[g]? = some (.cells cur (ρ.t 5) (0, 0)) := hg; simp [World.shape?, hg'])
        have c2 : (w.drew.alloc (.view ⟨g, 0, none⟩ (ρ.t 5))).cell? ⟨b, 1, none⟩ = some (.slice (some ⟨g, 0, none⟩) 0 0) := by
          have : (w.drew.alloc (.view ⟨g, 0, none⟩ (ρ.t 5))).heap[b]? = _ := (Lib.alloc_old w.drew _ b hlt).trans hb
          rw [Lib.cell_of_heap this]; rfl
        have c3 : (w.alloc (.view ⟨g, 0, none⟩ (ρ.t 5))).drew.cell? ⟨b, 1, none⟩ = some (.slice (some ⟨g, 0, none⟩) 0 0) := c2
        have c0 : w.cell? ⟨b, 1, none⟩ = some (.slice (some ⟨g, 0, none⟩) 0 0) := c1
        go_enter L.f169, Body.n169_ntmps ρ
        go_wp2
        go_region_o
        all_goals (go_wp2; go_ret; exact ⟨rfl, rfl, rfl, rfl, by simp, fun j hj => .inl (Below.heap_alloc w.drew _ j hj)⟩)
      · have hSD : (Builtin.unsafeSliceData_ #[(ρ.t 37)] (ρ.t 127) #[.slice (some ⟨g, 0, none⟩) 0 cap]).run P w.drew = .ok (.pointer (some ⟨g, 0, none⟩)) w.drew :=
          Lib.run_unsafeSliceData_row _ _ _ _ _ _ hc0
        have c1 : w.drew.cell? ⟨b, 1, none⟩ = some (.slice (some ⟨g, 0, none⟩) 0 cap) := c1
        clear hc0
        go_enter L.f169, Body.n169_ntmps ρ
        go_wp2
        go_region_o
        all_goals (go_wp2; go_ret; exact ⟨rfl, rfl, rfl, rfl, Nat.le_refl _, fun _ _ => .inl rfl⟩)
  · have hll : l.length ≠ 0 := by simpa using hl0
    obtain ⟨g, cap, cur, rfl, rfl, hg, hnc, hcm, hcs, htake⟩ : ∃ g cap cur, blk = some g ∧ v = .slice (some ⟨g, 0, none⟩) l.length cap ∧ w.heap[g]? = some (.cells cur (ρ.t 5) (0, 0)) ∧ l.length ≤ cap ∧ cap ≤ maxLen ∧ cur.size = cap * 1 ∧ cur.toList.take (l.length * 1) = Lib.byteCells l := by
      rcases hw.2 with ⟨_, _, hz⟩ | h
      · exact absurd hz hll
      · exact h
    have hSD : (Builtin.unsafeSliceData_ #[(ρ.t 37)] (ρ.t 127) #[.slice (some ⟨g, 0, none⟩) l.length cap]).run P w.drew = .ok (.pointer (some ⟨g, 0, none⟩)) w.drew :=
      Lib.run_unsafeSliceData_row _ _ _ _ _ _ (by omega)
    have hUS : (Builtin.unsafeString_ #[(ρ.t 127), (ρ.t 3)] (ρ.t 9) #[.pointer (some ⟨g, 0, none⟩), .int .i64 l.length]).run P w.drew = .ok (.string ⟨l.toArray⟩) (w.drew.freeze ⟨g, 0, none⟩ l.length) := by
      refine Lib.run_unsafeString_row w.drew (ρ.t 127) (ρ.t 3) (ρ.t 9) (ρ.t 5) L.t127 X.cellsByte g cur.size (by have hg' : w.drew.heap[g]? = some (.cells cur (ρ.t 5) (0, 0)) := hg; simp [World.shape?, hg']) l hl0 (by omega) (by unfold maxLen at hcm; omega) ?_
      intro j x hx
      have hg' : w.drew.heap[g]? = some (.cells cur (ρ.t 5) (0, 0)) := hg
      rw [Addr.add_mk, Nat.zero_add, cell_of_cells hg']
      have hu : (Lib.byteCells l)[j]? = some (.int .u8 x.toNat) := by simp [Lib.byteCells, hx]
      rw [← htake, List.getElem?_take] at hu
      split at hu
      · simpa using hu
      · cases hu
    have hfr : ∀ j, j ≠ g → (w.drew.freeze ⟨g, 0, none⟩ l.length).heap[j]? = w.heap[j]? := fun j hj => by
      unfold World.freeze
      split
      · rfl
      · show (w.heap.modify g _)[j]? = _
        rw [Array.getElem?_modify, if_neg (fun e => hj e.symm)]
    have hfs : (w.drew.freeze ⟨g, 0, none⟩ l.length).heap.size = w.heap.size ∧ (w.drew.freeze ⟨g, 0, none⟩ l.length).os = w.os ∧ (w.drew.freeze ⟨g, 0, none⟩ l.length).tape = w.tape ∧ (w.drew.freeze ⟨g, 0, none⟩ l.length).output = w.output := by
      unfold World.freeze
      split
      · exact ⟨rfl, rfl, rfl, rfl⟩
      · exact ⟨Array.size_modify, rfl, rfl, rfl⟩
    have HF := (show Hid _ from And.intro hfr hfs)
    clear hfr hfs
    go_enter L.f169, Body.n169_ntmps ρ
    go_wp2
    go_region_o
    all_goals (go_wp2; go_ret; have ⟨hfr, hfs⟩ := HF.out; exact ⟨rfl, hfs.2.1, hfs.2.2.1, hfs.2.2.2, by rw [hfs.1]; exact Nat.le_refl _, fun j hj => by
      by_cases e : j = g
      · exact .inr (by rw [e])
      · exact .inl (hfr j e)⟩)
end Go.Pv

