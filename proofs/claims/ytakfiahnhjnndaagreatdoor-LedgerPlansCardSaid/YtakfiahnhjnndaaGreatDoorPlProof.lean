/- For all settings and edits CheckSettings, Diff and Patch return what the document specifies, and the edits between two lists lead from one to the other: the law returns true for every input and leaves it as it was; condition: the tables of math/bits and internal/strconv are laid as the program's text lays them. -/
import Derived.Test.YtakfiahnhjnndaaGreatDoorPl5
import Derived.Test.YtakfiahnhjnndaaGreatDoorCards
import Derived.Test.YtakfiahnhjnndaaGreatDoorTie
import Derived.SevenTiedAt
namespace Go.Proofs.YtakfiahnhjnndaaGreatDoor.ledgerPlans
open Go.ChangeShapes Go.WideShapes Go.ChangeAt Go.RowKit Go.Pv Go.Proofs.YtakfiahnhjnndaaGreatDoor

theorem law (pargs : List PV) (hl : pargs.length = 3) (h : ∀ (i : Nat) t c, ([56, 56, 71] : List TypeId)[i]? = some t → pargs[i]? = some c → argP lay.get t c) : Ret Tryz.prog .shared 8 pargs (.bool true) := by
  match pargs, hl with
  | [c0, c1, c2], _ =>
    have h0 := h 0 56 c0 rfl rfl
    have h1 := h 1 56 c1 rfl rfl
    have h2 := h 2 71 c2 rfl rfl
    obtain ⟨a0, rfl⟩ := dec_sets h0
    obtain ⟨a1, rfl⟩ := dec_sets h1
    obtain ⟨a2, rfl, hs⟩ := dec_eds h2
    exact plans_law awake_ret a0 a1 a2 hs

set_option maxRecDepth 100000 in
theorem lifted (os : Os) (started : os.Started) (H : Type) (enc : TypeId × Value → H) :
    ReturnsInHanded {} Tryz.checked os 8 .any (fun w args => (Rows.ledgerPlansSpec.pre enc Tryz.prog Tryz.f8 [] false w args ∧ laidMetH Tryz.prog laidL w) ∧ sizedMet enc Tryz.prog Tryz.f8 (OpenSpec.ofChange Rows.ledgerPlansSpec) false w args)
      (Rows.ledgerPlansSpec.post enc Tryz.prog Tryz.f8 false true false false) := by
  refine returnsInHanded_of_change_and (C := Tryz.checked) (X := fun w _ => laidMetH Tryz.prog laidL w) (fun _ _ _ hh h => h.of_heap hh) ownL started (by kernel_rfl) Tryz.func8
    (ChangeSpec.witness_shaped (enc := enc) (C := Tryz.checked) (os := os) (X := fun w _ => laidMetH Tryz.prog laidL w) false (World.laidAll Tryz.prog os laidL) #[.slice none 0 0, .slice none 0 0, .slice none 0 0] 8 (World.laidAll_os _ _ _)
      (World.shaped_of_ZipB (by kernel_rfl) (by kernel_rfl)) (by kernel_rfl) (by kernel_rfl) (by kernel_rfl) (laidL_met os _)) ?_
  intro W base args ds gs before hval hW hcnd _ hL _
  exact law_step layOk laidB (f := 8) (fn := Tryz.f8) (ts := [56, 56, 71]) (T := Tryz.f8.resultTypes[0]!) rfl rfl (by decide +kernel) (by decide +kernel) rfl (by kernel_rfl)
    (fun ds hd => match ds, hd with | [d0, d1, d2], _ => ⟨rfl, rfl, rfl⟩) law hval (laidL_glob hL) hW

theorem over : Rows.ledgerPlansRow.holds Tryz.pinned (OpenSpec.ofChange Rows.ledgerPlansSpec) :=
  OpenClaim.holds_of_wide 8 Tryz.f8 rfl rfl rfl rfl rfl rfl rfl ⟨rfl, rfl, rfl, rfl, rfl⟩ rfl rfl rfl rfl rfl (by kernel_rfl) Tryz.func8 (by kernel_rfl)
    (of_decide_eq_true (by kernel_rfl)) (by unfold Func.isWrapper; first | (rw [if_pos (by decide +kernel)]; kernel_rfl) | (rw [if_neg (by decide +kernel)]; exact ⟨rfl, rfl⟩))
    (fun os started H enc _ => lifted os started H enc)

theorem proved : Rows.LedgerPlansCardSaid :=
  Claim7.holds_tied_plain_at .later [] [.data, .data, .data] true (true, "afa898c441ae2e5084dab6eb81856fe62b1587f445f3033f350b02f272fb6e3d") true
    over (fun _ h => by cases h) (by kernel_rfl) (fun _ h => by cases h) ledgerPlans_row_tie rfl ⟨rfl, rfl⟩ (by kernel_rfl) rfl
    (fun f fn hf hfn => by
      obtain rfl : f = 8 := Option.some.inj ((show Tryz.prog.funcNamed "keelblock/keelblocklaw10.LedgerPlans" = some 8 by kernel_rfl).symm.trans hf) |>.symm
      obtain rfl : fn = Tryz.f8 := (Option.some.inj (Tryz.func8.symm.trans hfn)).symm
      exact ⟨by kernel_rfl, fun j t ht => by
        rw [show Tryz.f8.params = #[56, 56, 71] by kernel_rfl] at ht
        have hm : t ∈ [56, 56, 71] := by simpa using Array.mem_of_getElem? ht
        have hall : ([56, 56, 71].all fun u => !Tryz.prog.wantsStandIn u) = true := by kernel_rfl
        exact (show Tryz.prog.wantsStandIn t = false by simpa using List.all_eq_true.1 hall t hm)⟩)
    (by kernel_rfl)
#print axioms proved
end Go.Proofs.YtakfiahnhjnndaaGreatDoor.ledgerPlans
