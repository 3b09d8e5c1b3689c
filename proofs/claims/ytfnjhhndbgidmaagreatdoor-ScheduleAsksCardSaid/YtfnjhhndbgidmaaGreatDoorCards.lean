/-
  DERIVED. GIVEN WITH THE SEED: THE CARDS: each row of YtfnjhhndbgidmaaGreatDoorRows.lean that lists a variable, with what it lists TIED to the program's text (the seventh form; the later family's looks); each row that meets fmt, with fmt's text TOLD by the authors' own Lean function (tested against real Go, not proved from fmt's source: count such statements apart). THE CARD IS WHAT COUNTS. Prove the row's statement (the work); the ties are given (YtfnjhhndbgidmaaGreatDoorTie.lean); close each card by the builder's one call (the guide's Derived/Test/ToyasCard.lean, 'card_holds'). Laid BY PROGRAM, IN A SANDBOX (cutbox-door.mjs). By AI agents, Wed Nov 11 2026. No macro, syntax, notation, axiom, sorry.
-/
import Derived.Test.YtfnjhhndbgidmaaGreatDoorRows
import GoSem.ClaimSeven
namespace Go.Proofs.YtfnjhhndbgidmaaGreatDoor
namespace Rows

/-- THE TIED CARD OF 'keelblocklaw08.ScheduleOptimal'. -/
def scheduleOptimalCard : Claim7 := { stood := { row := scheduleOptimalRow, standIns := [], harness := (true, "3fce6534dcb080a3964980b628da3ed683efb28cfe849d8c1903070e375f5f8a"), looks := false }, kinds := [], alts := [], laidByText := true, laidKinds := [.data, .data, .data], laidTests := true, laidLooks := .later }
def ScheduleOptimalCardSaid : Prop := Claim7.holds Tryz.pinned (.plain (OpenSpec.ofChange scheduleOptimalSpec)) scheduleOptimalCard

/-- THE TIED CARD OF 'keelblocklaw08.ScheduleAsks'. -/
def scheduleAsksCard : Claim7 := { stood := { row := scheduleAsksRow, standIns := [], harness := (true, "3fce6534dcb080a3964980b628da3ed683efb28cfe849d8c1903070e375f5f8a"), looks := false }, kinds := [], alts := [], laidByText := true, laidKinds := [.data, .data, .data], laidTests := true, laidLooks := .later }
def ScheduleAsksCardSaid : Prop := Claim7.holds Tryz.pinned (.plain (OpenSpec.ofChange scheduleAsksSpec)) scheduleAsksCard

/-- THE TIED CARD OF 'keelblocklaw08.ScheduleGrows'. -/
def scheduleGrowsCard : Claim7 := { stood := { row := scheduleGrowsRow, standIns := [], harness := (true, "3fce6534dcb080a3964980b628da3ed683efb28cfe849d8c1903070e375f5f8a"), looks := false }, kinds := [], alts := [], laidByText := true, laidKinds := [.data, .data, .data], laidTests := true, laidLooks := .later }
def ScheduleGrowsCardSaid : Prop := Claim7.holds Tryz.pinned (.plain (OpenSpec.ofChange scheduleGrowsSpec)) scheduleGrowsCard

/-- THE SECOND FORM's CARD OF 'keelblocklaw08.ScheduleOptimal'. -/
def scheduleOptimalUptoCard : Claim7 := { stood := { row := scheduleOptimalUptoRow, standIns := [], harness := (true, "3fce6534dcb080a3964980b628da3ed683efb28cfe849d8c1903070e375f5f8a"), looks := false }, kinds := [], alts := [], laidByText := true, laidKinds := [.data, .data, .data], laidTests := true, laidLooks := .later }
def ScheduleOptimalUptoCardSaid : Prop := Claim7.holds Tryz.pinned (.plain (OpenSpec.upto scheduleOptimalSpec)) scheduleOptimalUptoCard

/-- THE SECOND FORM's CARD OF 'keelblocklaw08.ScheduleAsks'. -/
def scheduleAsksUptoCard : Claim7 := { stood := { row := scheduleAsksUptoRow, standIns := [], harness := (true, "3fce6534dcb080a3964980b628da3ed683efb28cfe849d8c1903070e375f5f8a"), looks := false }, kinds := [], alts := [], laidByText := true, laidKinds := [.data, .data, .data], laidTests := true, laidLooks := .later }
def ScheduleAsksUptoCardSaid : Prop := Claim7.holds Tryz.pinned (.plain (OpenSpec.upto scheduleAsksSpec)) scheduleAsksUptoCard

/-- THE SECOND FORM's CARD OF 'keelblocklaw08.ScheduleGrows'. -/
def scheduleGrowsUptoCard : Claim7 := { stood := { row := scheduleGrowsUptoRow, standIns := [], harness := (true, "3fce6534dcb080a3964980b628da3ed683efb28cfe849d8c1903070e375f5f8a"), looks := false }, kinds := [], alts := [], laidByText := true, laidKinds := [.data, .data, .data], laidTests := true, laidLooks := .later }
def ScheduleGrowsUptoCardSaid : Prop := Claim7.holds Tryz.pinned (.plain (OpenSpec.upto scheduleGrowsSpec)) scheduleGrowsUptoCard
end Rows
end Go.Proofs.YtfnjhhndbgidmaaGreatDoor
