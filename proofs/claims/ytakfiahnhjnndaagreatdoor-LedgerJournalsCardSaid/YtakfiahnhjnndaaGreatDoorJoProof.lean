/- For all lists of posts and texts Journal writes, and Recover reads, what the document specifies: the law returns true for every input and leaves it as it was; condition: the tables and errors of the library are laid as the program's text lays them. -/
import Derived.Test.YtakfiahnhjnndaaGreatDoorJo6
import Derived.Test.YtakfiahnhjnndaaGreatDoorCards
import Derived.Test.YtakfiahnhjnndaaGreatDoorTie
import Derived.SevenTiedAt
namespace Go.Proofs.YtakfiahnhjnndaaGreatDoor.ledgerJournals
open Go.ChangeShapes Go.WideShapes Go.ChangeAt Go.RowKit Go.Pv Go.Proofs.YtakfiahnhjnndaaGreatDoor

theorem law (pargs : List PV) (hl : pargs.length = 2) (h : ∀ (i : Nat) t c, ([39, 9] : List TypeId)[i]? = some t → pargs[i]? = some c → argP lay.get t c) : Ret Tryz.prog .shared 4 pargs (.bool true) := by
  match pargs, hl with
  | [c0, c1], _ =>
    have h0 := h 0 39 c0 rfl rfl
    have h1 := h 1 9 c1 rfl rfl
    obtain ⟨l, rfl⟩ := dec_posts (h 0 39 c0 rfl rfl)
    obtain ⟨s, hs⟩ := tyP_str (n := 5) (show tyP lay.get 6 9 [c1] from h 1 9 c1 rfl rfl) rfl
    cases hs
    exact journals_law awake_ret l s

set_option maxRecDepth 100000 in
theorem lifted (os : Os) (started : os.Started) (H : Type) (enc : TypeId × Value → H) :
    ReturnsInHanded {} Tryz.checked os 4 .any (fun w args => (Rows.ledgerJournalsSpec.pre enc Tryz.prog Tryz.f4 [] false w args ∧ laidMetH Tryz.prog laidL w) ∧ sizedMet enc Tryz.prog Tryz.f4 (OpenSpec.ofChange Rows.ledgerJournalsSpec) false w args)
      (Rows.ledgerJournalsSpec.post enc Tryz.prog Tryz.f4 false true false false) := by
  refine handed_and_shaped (C := Tryz.checked) (X := fun w _ => laidMetH Tryz.prog laidL w) (fun _ _ _ hh h => h.of_heap hh) ownL started (by kernel_rfl) Tryz.func4
    (ChangeSpec.witness_shaped (enc := enc) (C := Tryz.checked) (os := os) (X := fun w _ => laidMetH Tryz.prog laidL w) false (World.laidAll Tryz.prog os laidL) #[.slice none 0 0, .string ByteArray.empty] 8 (World.laidAll_os _ _ _)
      (World.shaped_of_ZipB (by kernel_rfl) (by kernel_rfl)) (by kernel_rfl) (by kernel_rfl) (by kernel_rfl) (laidL_met os _)) ?_
  intro W base args ds gs before hval hW hcnd _ hL hSh _
  exact law_step layOk laidB (f := 4) (fn := Tryz.f4) (ts := [39, 9]) (T := Tryz.f4.resultTypes[0]!) rfl rfl (by decide +kernel) (by decide +kernel) rfl (by kernel_rfl)
    (fun ds hd => match ds, hd with | [d0, d1], _ => ⟨rfl, rfl, rfl⟩) law hval (laidL_max hL hSh) hW

theorem over : Rows.ledgerJournalsRow.holds Tryz.pinned (OpenSpec.ofChange Rows.ledgerJournalsSpec) :=
  OpenClaim.holds_of_wide 4 Tryz.f4 rfl rfl rfl rfl rfl rfl rfl ⟨rfl, rfl, rfl, rfl, rfl⟩ rfl rfl rfl rfl rfl (by kernel_rfl) Tryz.func4 (by kernel_rfl)
    (of_decide_eq_true (by kernel_rfl)) (by unfold Func.isWrapper; first | (rw [if_pos (by decide +kernel)]; kernel_rfl) | (rw [if_neg (by decide +kernel)]; exact ⟨rfl, rfl⟩))
    (fun os started H enc _ => lifted os started H enc)

theorem proved : Rows.LedgerJournalsCardSaid :=
  Claim7.holds_tied_plain_at .later [] [.data, .data, .data, .data, .sentinel, .sentinel, .pinned] true (true, "afa898c441ae2e5084dab6eb81856fe62b1587f445f3033f350b02f272fb6e3d") true
    over (fun _ h => by cases h) (by kernel_rfl) (fun _ h => by cases h) ledgerJournals_row_tie rfl ⟨rfl, rfl⟩ (by kernel_rfl) rfl
    (fun f fn hf hfn => by
      obtain rfl : f = 4 := Option.some.inj ((show Tryz.prog.funcNamed "keelblock/keelblocklaw10.LedgerJournals" = some 4 by kernel_rfl).symm.trans hf) |>.symm
      obtain rfl : fn = Tryz.f4 := (Option.some.inj (Tryz.func4.symm.trans hfn)).symm
      exact ⟨by kernel_rfl, fun j t ht => by
        rw [show Tryz.f4.params = #[39, 9] by kernel_rfl] at ht
        have hm : t ∈ [39, 9] := by simpa using Array.mem_of_getElem? ht
        have hall : ([39, 9].all fun u => !Tryz.prog.wantsStandIn u) = true := by kernel_rfl
        exact (show Tryz.prog.wantsStandIn t = false by simpa using List.all_eq_true.1 hall t hm)⟩)
    (by kernel_rfl)
#print axioms proved
end Go.Proofs.YtakfiahnhjnndaaGreatDoor.ledgerJournals
