/-
  DERIVED. GIVEN WITH THE SEED: THE CARDS: each row of YtakfiahnhjnndaaGreatDoorRows.lean that lists a variable, with what it lists TIED to the program's text (the seventh form; the later family's looks); each row that meets fmt, with fmt's text TOLD by the authors' own Lean function (tested against real Go, not proved from fmt's source: count such statements apart). THE CARD IS WHAT COUNTS. Prove the row's statement (the work); the ties are given (YtakfiahnhjnndaaGreatDoorTie.lean); close each card by the builder's one call (the guide's Derived/Test/ToyasCard.lean, 'card_holds'). Laid BY PROGRAM, IN A SANDBOX (cutbox-door.mjs). By AI agents, Wed Nov 11 2026. No macro, syntax, notation, axiom, sorry.
-/
import Derived.Test.YtakfiahnhjnndaaGreatDoorRows
import GoSem.ClaimSeven
namespace Go.Proofs.YtakfiahnhjnndaaGreatDoor
namespace Rows

/-- THE TIED CARD OF 'keelblocklaw10.LedgerPosts'. -/
def ledgerPostsCard : Claim7 := { stood := { row := ledgerPostsRow, standIns := [], harness := (true, "afa898c441ae2e5084dab6eb81856fe62b1587f445f3033f350b02f272fb6e3d"), looks := true }, kinds := [], alts := [], laidByText := true, laidKinds := [.data, .data, .data, .data, .sentinel, .sentinel, .pinned], laidTests := true, laidLooks := .later }
def LedgerPostsCardSaid : Prop := Claim7.holds Tryz.pinned (.plain (OpenSpec.ofChange ledgerPostsSpec)) ledgerPostsCard

/-- THE TIED CARD OF 'keelblocklaw10.LedgerJournals'. -/
def ledgerJournalsCard : Claim7 := { stood := { row := ledgerJournalsRow, standIns := [], harness := (true, "afa898c441ae2e5084dab6eb81856fe62b1587f445f3033f350b02f272fb6e3d"), looks := true }, kinds := [], alts := [], laidByText := true, laidKinds := [.data, .data, .data, .data, .sentinel, .sentinel, .pinned], laidTests := true, laidLooks := .later }
def LedgerJournalsCardSaid : Prop := Claim7.holds Tryz.pinned (.plain (OpenSpec.ofChange ledgerJournalsSpec)) ledgerJournalsCard

/-- THE TIED CARD OF 'keelblocklaw10.LedgerCuts'. -/
def ledgerCutsCard : Claim7 := { stood := { row := ledgerCutsRow, standIns := [], harness := (true, "afa898c441ae2e5084dab6eb81856fe62b1587f445f3033f350b02f272fb6e3d"), looks := true }, kinds := [], alts := [], laidByText := true, laidKinds := [.data, .data, .data, .data, .sentinel, .sentinel, .pinned], laidTests := true, laidLooks := .later }
def LedgerCutsCardSaid : Prop := Claim7.holds Tryz.pinned (.plain (OpenSpec.ofChange ledgerCutsSpec)) ledgerCutsCard

/-- THE TIED CARD OF 'keelblocklaw10.LedgerMerges'. -/
def ledgerMergesCard : Claim7 := { stood := { row := ledgerMergesRow, standIns := [], harness := (true, "afa898c441ae2e5084dab6eb81856fe62b1587f445f3033f350b02f272fb6e3d"), looks := true }, kinds := [], alts := [], laidByText := true, laidKinds := [.data, .data, .data], laidTests := true, laidLooks := .later }
def LedgerMergesCardSaid : Prop := Claim7.holds Tryz.pinned (.plain (OpenSpec.ofChange ledgerMergesSpec)) ledgerMergesCard

/-- THE TIED CARD OF 'keelblocklaw10.LedgerThreeWays'. -/
def ledgerThreeWaysCard : Claim7 := { stood := { row := ledgerThreeWaysRow, standIns := [], harness := (true, "afa898c441ae2e5084dab6eb81856fe62b1587f445f3033f350b02f272fb6e3d"), looks := true }, kinds := [], alts := [], laidByText := true, laidKinds := [.data, .data, .data], laidTests := true, laidLooks := .later }
def LedgerThreeWaysCardSaid : Prop := Claim7.holds Tryz.pinned (.plain (OpenSpec.ofChange ledgerThreeWaysSpec)) ledgerThreeWaysCard

/-- THE TIED CARD OF 'keelblocklaw10.LedgerPlans'. -/
def ledgerPlansCard : Claim7 := { stood := { row := ledgerPlansRow, standIns := [], harness := (true, "afa898c441ae2e5084dab6eb81856fe62b1587f445f3033f350b02f272fb6e3d"), looks := true }, kinds := [], alts := [], laidByText := true, laidKinds := [.data, .data, .data], laidTests := true, laidLooks := .later }
def LedgerPlansCardSaid : Prop := Claim7.holds Tryz.pinned (.plain (OpenSpec.ofChange ledgerPlansSpec)) ledgerPlansCard

/-- THE TIED CARD OF 'keelblocklaw10.LedgerDesk'. -/
def ledgerDeskCard : Claim7 := { stood := { row := ledgerDeskRow, standIns := [], harness := (true, "afa898c441ae2e5084dab6eb81856fe62b1587f445f3033f350b02f272fb6e3d"), looks := true }, kinds := [], alts := [], laidByText := true, laidKinds := [.data, .data, .data, .data, .sentinel, .sentinel, .pinned], laidTests := true, laidLooks := .later }
def LedgerDeskCardSaid : Prop := Claim7.holds Tryz.pinned (.plain (OpenSpec.ofChange ledgerDeskSpec)) ledgerDeskCard

/-- THE SECOND FORM's CARD OF 'keelblocklaw10.LedgerPosts'. -/
def ledgerPostsUptoCard : Claim7 := { stood := { row := ledgerPostsUptoRow, standIns := [], harness := (true, "afa898c441ae2e5084dab6eb81856fe62b1587f445f3033f350b02f272fb6e3d"), looks := true }, kinds := [], alts := [], laidByText := true, laidKinds := [.data, .data, .data, .data, .sentinel, .sentinel, .pinned], laidTests := true, laidLooks := .later }
def LedgerPostsUptoCardSaid : Prop := Claim7.holds Tryz.pinned (.plain (OpenSpec.upto ledgerPostsSpec)) ledgerPostsUptoCard

/-- THE SECOND FORM's CARD OF 'keelblocklaw10.LedgerJournals'. -/
def ledgerJournalsUptoCard : Claim7 := { stood := { row := ledgerJournalsUptoRow, standIns := [], harness := (true, "afa898c441ae2e5084dab6eb81856fe62b1587f445f3033f350b02f272fb6e3d"), looks := true }, kinds := [], alts := [], laidByText := true, laidKinds := [.data, .data, .data, .data, .sentinel, .sentinel, .pinned], laidTests := true, laidLooks := .later }
def LedgerJournalsUptoCardSaid : Prop := Claim7.holds Tryz.pinned (.plain (OpenSpec.upto ledgerJournalsSpec)) ledgerJournalsUptoCard

/-- THE SECOND FORM's CARD OF 'keelblocklaw10.LedgerCuts'. -/
def ledgerCutsUptoCard : Claim7 := { stood := { row := ledgerCutsUptoRow, standIns := [], harness := (true, "afa898c441ae2e5084dab6eb81856fe62b1587f445f3033f350b02f272fb6e3d"), looks := true }, kinds := [], alts := [], laidByText := true, laidKinds := [.data, .data, .data, .data, .sentinel, .sentinel, .pinned], laidTests := true, laidLooks := .later }
def LedgerCutsUptoCardSaid : Prop := Claim7.holds Tryz.pinned (.plain (OpenSpec.upto ledgerCutsSpec)) ledgerCutsUptoCard

/-- THE SECOND FORM's CARD OF 'keelblocklaw10.LedgerMerges'. -/
def ledgerMergesUptoCard : Claim7 := { stood := { row := ledgerMergesUptoRow, standIns := [], harness := (true, "afa898c441ae2e5084dab6eb81856fe62b1587f445f3033f350b02f272fb6e3d"), looks := true }, kinds := [], alts := [], laidByText := true, laidKinds := [.data, .data, .data], laidTests := true, laidLooks := .later }
def LedgerMergesUptoCardSaid : Prop := Claim7.holds Tryz.pinned (.plain (OpenSpec.upto ledgerMergesSpec)) ledgerMergesUptoCard

/-- THE SECOND FORM's CARD OF 'keelblocklaw10.LedgerThreeWays'. -/
def ledgerThreeWaysUptoCard : Claim7 := { stood := { row := ledgerThreeWaysUptoRow, standIns := [], harness := (true, "afa898c441ae2e5084dab6eb81856fe62b1587f445f3033f350b02f272fb6e3d"), looks := true }, kinds := [], alts := [], laidByText := true, laidKinds := [.data, .data, .data], laidTests := true, laidLooks := .later }
def LedgerThreeWaysUptoCardSaid : Prop := Claim7.holds Tryz.pinned (.plain (OpenSpec.upto ledgerThreeWaysSpec)) ledgerThreeWaysUptoCard

/-- THE SECOND FORM's CARD OF 'keelblocklaw10.LedgerPlans'. -/
def ledgerPlansUptoCard : Claim7 := { stood := { row := ledgerPlansUptoRow, standIns := [], harness := (true, "afa898c441ae2e5084dab6eb81856fe62b1587f445f3033f350b02f272fb6e3d"), looks := true }, kinds := [], alts := [], laidByText := true, laidKinds := [.data, .data, .data], laidTests := true, laidLooks := .later }
def LedgerPlansUptoCardSaid : Prop := Claim7.holds Tryz.pinned (.plain (OpenSpec.upto ledgerPlansSpec)) ledgerPlansUptoCard

/-- THE SECOND FORM's CARD OF 'keelblocklaw10.LedgerDesk'. -/
def ledgerDeskUptoCard : Claim7 := { stood := { row := ledgerDeskUptoRow, standIns := [], harness := (true, "afa898c441ae2e5084dab6eb81856fe62b1587f445f3033f350b02f272fb6e3d"), looks := true }, kinds := [], alts := [], laidByText := true, laidKinds := [.data, .data, .data, .data, .sentinel, .sentinel, .pinned], laidTests := true, laidLooks := .later }
def LedgerDeskUptoCardSaid : Prop := Claim7.holds Tryz.pinned (.plain (OpenSpec.upto ledgerDeskSpec)) ledgerDeskUptoCard
end Rows
end Go.Proofs.YtakfiahnhjnndaaGreatDoor
