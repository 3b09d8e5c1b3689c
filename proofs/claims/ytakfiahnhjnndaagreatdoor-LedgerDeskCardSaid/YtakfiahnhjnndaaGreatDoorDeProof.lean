/- For all lists of lines a desk answers what the document specifies, and Run answers their text: the law returns true for every input and leaves it as it was; condition: the tables and errors of the library are laid as the program's text lays them. -/
import Derived.Test.YtakfiahnhjnndaaGreatDoorDe6
import Derived.Test.YtakfiahnhjnndaaGreatDoorCards
import Derived.Test.YtakfiahnhjnndaaGreatDoorTie
import Derived.SevenTiedAt
namespace Go.Proofs.YtakfiahnhjnndaaGreatDoor.ledgerDesk
open Go.ChangeShapes Go.WideShapes Go.ChangeAt Go.RowKit Go.Pv Go.Proofs.YtakfiahnhjnndaaGreatDoor

theorem law (pargs : List PV) (hl : pargs.length = 1) (h : ∀ (i : Nat) t c, ([58] : List TypeId)[i]? = some t → pargs[i]? = some c → argP lay.get t c) : Ret Tryz.prog .shared 9 pargs (.bool true) := by
  match pargs, hl with
  | [c0], _ =>
    have h0 := h 0 58 c0 rfl rfl
    have h0 := h 0 58 c0 rfl rfl
    obtain ⟨rows, hr, h2⟩ := tyP_sl (show tyP lay.get 6 58 [c0] from h0) rfl
    cases hr
    obtain ⟨l, rfl⟩ := rows_map (f := eS) fun row hrow => (let ⟨s, hs⟩ := tyP_str (n := 4) (h2 row hrow) rfl; (⟨s, hs⟩ : ∃ x, row = eS x))
    exact desk_law awake_ret l

set_option maxRecDepth 100000 in
theorem lifted (os : Os) (started : os.Started) (H : Type) (enc : TypeId × Value → H) :
    ReturnsInHanded {} Tryz.checked os 9 .any (fun w args => (Rows.ledgerDeskSpec.pre enc Tryz.prog Tryz.f9 [] false w args ∧ laidMetH Tryz.prog laidL w) ∧ sizedMet enc Tryz.prog Tryz.f9 (OpenSpec.ofChange Rows.ledgerDeskSpec) false w args)
      (Rows.ledgerDeskSpec.post enc Tryz.prog Tryz.f9 false true false false) := by
  refine handed_and_shaped (C := Tryz.checked) (X := fun w _ => laidMetH Tryz.prog laidL w) (fun _ _ _ hh h => h.of_heap hh) ownL started (by kernel_rfl) Tryz.func9
    (ChangeSpec.witness_shaped (enc := enc) (C := Tryz.checked) (os := os) (X := fun w _ => laidMetH Tryz.prog laidL w) false (World.laidAll Tryz.prog os laidL) #[.slice none 0 0] 8 (World.laidAll_os _ _ _)
      (World.shaped_of_ZipB (by kernel_rfl) (by kernel_rfl)) (by kernel_rfl) (by kernel_rfl) (by kernel_rfl) (laidL_met os _)) ?_
  intro W base args ds gs before hval hW hcnd _ hL hSh _
  exact law_step layOk laidB (f := 9) (fn := Tryz.f9) (ts := [58]) (T := Tryz.f9.resultTypes[0]!) rfl rfl (by decide +kernel) (by decide +kernel) rfl (by kernel_rfl)
    (fun ds hd => match ds, hd with | [d0], _ => ⟨rfl, rfl, rfl⟩) law hval (laidL_max hL hSh) hW

theorem over : Rows.ledgerDeskRow.holds Tryz.pinned (OpenSpec.ofChange Rows.ledgerDeskSpec) :=
  OpenClaim.holds_of_wide 9 Tryz.f9 rfl rfl rfl rfl rfl rfl rfl ⟨rfl, rfl, rfl, rfl, rfl⟩ rfl rfl rfl rfl rfl (by kernel_rfl) Tryz.func9 (by kernel_rfl)
    (of_decide_eq_true (by kernel_rfl)) (by unfold Func.isWrapper; first | (rw [if_pos (by decide +kernel)]; kernel_rfl) | (rw [if_neg (by decide +kernel)]; exact ⟨rfl, rfl⟩))
    (fun os started H enc _ => lifted os started H enc)

theorem proved : Rows.LedgerDeskCardSaid :=
  Claim7.holds_tied_plain_at .later [] [.data, .data, .data, .data, .sentinel, .sentinel, .pinned] true (true, "afa898c441ae2e5084dab6eb81856fe62b1587f445f3033f350b02f272fb6e3d") true
    over (fun _ h => by cases h) (by kernel_rfl) (fun _ h => by cases h) ledgerDesk_row_tie rfl ⟨rfl, rfl⟩ (by kernel_rfl) rfl
    (fun f fn hf hfn => by
      obtain rfl : f = 9 := Option.some.inj ((show Tryz.prog.funcNamed "keelblock/keelblocklaw10.LedgerDesk" = some 9 by kernel_rfl).symm.trans hf) |>.symm
      obtain rfl : fn = Tryz.f9 := (Option.some.inj (Tryz.func9.symm.trans hfn)).symm
      exact ⟨by kernel_rfl, fun j t ht => by
        rw [show Tryz.f9.params = #[58] by kernel_rfl] at ht
        have hm : t ∈ [58] := by simpa using Array.mem_of_getElem? ht
        have hall : ([58].all fun u => !Tryz.prog.wantsStandIn u) = true := by kernel_rfl
        exact (show Tryz.prog.wantsStandIn t = false by simpa using List.all_eq_true.1 hall t hm)⟩)
    (by kernel_rfl)
#print axioms proved
end Go.Proofs.YtakfiahnhjnndaaGreatDoor.ledgerDesk
