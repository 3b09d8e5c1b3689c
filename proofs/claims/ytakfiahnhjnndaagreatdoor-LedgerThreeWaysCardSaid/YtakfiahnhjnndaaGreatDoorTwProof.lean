/- For all settings the merge does not depend on which side is which, with a side that has not changed it is the other side, and each key without a conflict says what a side says: the law returns true for every input and leaves it as it was; condition: the tables of math/bits and internal/strconv are laid as the program's text lays them. -/
import Derived.Test.YtakfiahnhjnndaaGreatDoorTw7
import Derived.Test.YtakfiahnhjnndaaGreatDoorCards
import Derived.Test.YtakfiahnhjnndaaGreatDoorTie
import Derived.SevenTiedAt
namespace Go.Proofs.YtakfiahnhjnndaaGreatDoor.ledgerThreeWays
open Go.ChangeShapes Go.WideShapes Go.ChangeAt Go.RowKit Go.Pv Go.Proofs.YtakfiahnhjnndaaGreatDoor

theorem law (pargs : List PV) (hl : pargs.length = 3) (h : ∀ (i : Nat) t c, ([56, 56, 56] : List TypeId)[i]? = some t → pargs[i]? = some c → argP lay.get t c) : Ret Tryz.prog .shared 7 pargs (.bool true) := by
  match pargs, hl with
  | [c0, c1, c2], _ =>
    have h0 := h 0 56 c0 rfl rfl
    have h1 := h 1 56 c1 rfl rfl
    have h2 := h 2 56 c2 rfl rfl
    obtain ⟨a0, rfl⟩ := dec_sets h0
    obtain ⟨a1, rfl⟩ := dec_sets h1
    obtain ⟨a2, rfl⟩ := dec_sets h2
    exact ways_law awake_ret a0 a1 a2

set_option maxRecDepth 100000 in
theorem lifted (os : Os) (started : os.Started) (H : Type) (enc : TypeId × Value → H) :
    ReturnsInHanded {} Tryz.checked os 7 .any (fun w args => (Rows.ledgerThreeWaysSpec.pre enc Tryz.prog Tryz.f7 [] false w args ∧ laidMetH Tryz.prog laidL w) ∧ sizedMet enc Tryz.prog Tryz.f7 (OpenSpec.ofChange Rows.ledgerThreeWaysSpec) false w args)
      (Rows.ledgerThreeWaysSpec.post enc Tryz.prog Tryz.f7 false true false false) := by
  refine returnsInHanded_of_change_and (C := Tryz.checked) (X := fun w _ => laidMetH Tryz.prog laidL w) (fun _ _ _ hh h => h.of_heap hh) ownL started (by kernel_rfl) Tryz.func7
    (ChangeSpec.witness_shaped (enc := enc) (C := Tryz.checked) (os := os) (X := fun w _ => laidMetH Tryz.prog laidL w) false (World.laidAll Tryz.prog os laidL) #[.slice none 0 0, .slice none 0 0, .slice none 0 0] 8 (World.laidAll_os _ _ _)
      (World.shaped_of_ZipB (by kernel_rfl) (by kernel_rfl)) (by kernel_rfl) (by kernel_rfl) (by kernel_rfl) (laidL_met os _)) ?_
  intro W base args ds gs before hval hW hcnd _ hL _
  exact law_step layOk laidB (f := 7) (fn := Tryz.f7) (ts := [56, 56, 56]) (T := Tryz.f7.resultTypes[0]!) rfl rfl (by decide +kernel) (by decide +kernel) rfl (by kernel_rfl)
    (fun ds hd => match ds, hd with | [d0, d1, d2], _ => ⟨rfl, rfl, rfl⟩) law hval (laidL_glob hL) hW

theorem over : Rows.ledgerThreeWaysRow.holds Tryz.pinned (OpenSpec.ofChange Rows.ledgerThreeWaysSpec) :=
  OpenClaim.holds_of_wide 7 Tryz.f7 rfl rfl rfl rfl rfl rfl rfl ⟨rfl, rfl, rfl, rfl, rfl⟩ rfl rfl rfl rfl rfl (by kernel_rfl) Tryz.func7 (by kernel_rfl)
    (of_decide_eq_true (by kernel_rfl)) (by unfold Func.isWrapper; first | (rw [if_pos (by decide +kernel)]; kernel_rfl) | (rw [if_neg (by decide +kernel)]; exact ⟨rfl, rfl⟩))
    (fun os started H enc _ => lifted os started H enc)

theorem proved : Rows.LedgerThreeWaysCardSaid :=
  Claim7.holds_tied_plain_at .later [] [.data, .data, .data] true (true, "afa898c441ae2e5084dab6eb81856fe62b1587f445f3033f350b02f272fb6e3d") true
    over (fun _ h => by cases h) (by kernel_rfl) (fun _ h => by cases h) ledgerThreeWays_row_tie rfl ⟨rfl, rfl⟩ (by kernel_rfl) rfl
    (fun f fn hf hfn => by
      obtain rfl : f = 7 := Option.some.inj ((show Tryz.prog.funcNamed "keelblock/keelblocklaw10.LedgerThreeWays" = some 7 by kernel_rfl).symm.trans hf) |>.symm
      obtain rfl : fn = Tryz.f7 := (Option.some.inj (Tryz.func7.symm.trans hfn)).symm
      exact ⟨by kernel_rfl, fun j t ht => by
        rw [show Tryz.f7.params = #[56, 56, 56] by kernel_rfl] at ht
        have hm : t ∈ [56, 56, 56] := by simpa using Array.mem_of_getElem? ht
        have hall : ([56, 56, 56].all fun u => !Tryz.prog.wantsStandIn u) = true := by kernel_rfl
        exact (show Tryz.prog.wantsStandIn t = false by simpa using List.all_eq_true.1 hall t hm)⟩)
    (by kernel_rfl)
#print axioms proved
end Go.Proofs.YtakfiahnhjnndaaGreatDoor.ledgerThreeWays
