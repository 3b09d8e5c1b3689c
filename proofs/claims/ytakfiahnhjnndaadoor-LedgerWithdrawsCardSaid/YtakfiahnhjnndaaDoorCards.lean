/-
  DERIVED. GIVEN WITH THE SEED: THE CARDS: each row of YtakfiahnhjnndaaDoorRows.lean that lists a variable, with what it lists TIED to the program's text (the seventh form; the later family's looks); each row that meets fmt, with fmt's text TOLD by the authors' own Lean function (tested against real Go, not proved from fmt's source: count such statements apart). THE CARD IS WHAT COUNTS. Prove the row's statement (the work); the ties are given (YtakfiahnhjnndaaDoorTie.lean); close each card by the builder's one call (the guide's Derived/Test/ToyasCard.lean, 'card_holds'). Laid BY PROGRAM, IN A SANDBOX (cutbox-door.mjs). By AI agents, Wed Nov 11 2026. No macro, syntax, notation, axiom, sorry.
-/
import Derived.Test.YtakfiahnhjnndaaDoorRows
import GoSem.ClaimSeven
namespace Go.Proofs.YtakfiahnhjnndaaDoor
namespace Rows

/-- THE TIED CARD OF 'keelblocklaw10.LedgerTraces'. -/
def ledgerTracesCard : Claim7 := { stood := { row := ledgerTracesRow, standIns := [], harness := (true, "32cf2ab92f3208ad603ca289e87ea6167c677dd319cc96df5ee209f7e0380a66"), looks := false }, kinds := [], alts := [], laidByText := true, laidKinds := [.data, .data, .data], laidTests := true, laidLooks := .later }
def LedgerTracesCardSaid : Prop := Claim7.holds Tryd.pinned (.plain (OpenSpec.ofChange ledgerTracesSpec)) ledgerTracesCard

/-- THE TIED CARD OF 'keelblocklaw10.LedgerWithdraws'. -/
def ledgerWithdrawsCard : Claim7 := { stood := { row := ledgerWithdrawsRow, standIns := [], harness := (true, "32cf2ab92f3208ad603ca289e87ea6167c677dd319cc96df5ee209f7e0380a66"), looks := false }, kinds := [], alts := [], laidByText := true, laidKinds := [.data, .data, .data], laidTests := true, laidLooks := .later }
def LedgerWithdrawsCardSaid : Prop := Claim7.holds Tryd.pinned (.plain (OpenSpec.ofChange ledgerWithdrawsSpec)) ledgerWithdrawsCard

/-- THE TIED CARD OF 'keelblocklaw10.LedgerRest'. -/
def ledgerRestCard : Claim7 := { stood := { row := ledgerRestRow, standIns := [], harness := (true, "32cf2ab92f3208ad603ca289e87ea6167c677dd319cc96df5ee209f7e0380a66"), looks := false }, kinds := [], alts := [], laidByText := true, laidKinds := [.data, .data, .data], laidTests := true, laidLooks := .later }
def LedgerRestCardSaid : Prop := Claim7.holds Tryd.pinned (.plain (OpenSpec.ofChange ledgerRestSpec)) ledgerRestCard

/-- THE SECOND FORM's CARD OF 'keelblocklaw10.LedgerTraces'. -/
def ledgerTracesUptoCard : Claim7 := { stood := { row := ledgerTracesUptoRow, standIns := [], harness := (true, "32cf2ab92f3208ad603ca289e87ea6167c677dd319cc96df5ee209f7e0380a66"), looks := false }, kinds := [], alts := [], laidByText := true, laidKinds := [.data, .data, .data], laidTests := true, laidLooks := .later }
def LedgerTracesUptoCardSaid : Prop := Claim7.holds Tryd.pinned (.plain (OpenSpec.upto ledgerTracesSpec)) ledgerTracesUptoCard

/-- THE SECOND FORM's CARD OF 'keelblocklaw10.LedgerWithdraws'. -/
def ledgerWithdrawsUptoCard : Claim7 := { stood := { row := ledgerWithdrawsUptoRow, standIns := [], harness := (true, "32cf2ab92f3208ad603ca289e87ea6167c677dd319cc96df5ee209f7e0380a66"), looks := false }, kinds := [], alts := [], laidByText := true, laidKinds := [.data, .data, .data], laidTests := true, laidLooks := .later }
def LedgerWithdrawsUptoCardSaid : Prop := Claim7.holds Tryd.pinned (.plain (OpenSpec.upto ledgerWithdrawsSpec)) ledgerWithdrawsUptoCard

/-- THE SECOND FORM's CARD OF 'keelblocklaw10.LedgerRest'. -/
def ledgerRestUptoCard : Claim7 := { stood := { row := ledgerRestUptoRow, standIns := [], harness := (true, "32cf2ab92f3208ad603ca289e87ea6167c677dd319cc96df5ee209f7e0380a66"), looks := false }, kinds := [], alts := [], laidByText := true, laidKinds := [.data, .data, .data], laidTests := true, laidLooks := .later }
def LedgerRestUptoCardSaid : Prop := Claim7.holds Tryd.pinned (.plain (OpenSpec.upto ledgerRestSpec)) ledgerRestUptoCard
end Rows
end Go.Proofs.YtakfiahnhjnndaaDoor
