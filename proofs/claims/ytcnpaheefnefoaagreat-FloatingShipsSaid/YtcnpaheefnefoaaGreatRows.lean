/-
  No cell of these rows narrows 'for every input' (looked for: loops, veiled, ifaces, maps, wideKeys, modest, calm, conditions, laid).
  DERIVED. THE GIVEN ROWS OF THIS SEAT. 4 by the template 'for every input the law returns true; each argument reads behind the call as it read before'; 0 by the template 'total and deterministic' (their statements: YtcnpaheefnefoaaGreatTotals.lean).
  GIVEN WITH THE SEED: the statements are not yours to turn. If you find one false, say at which input.
  Laid BY PROGRAM, IN A SANDBOX (cutbox-rows.mjs): the forced cells as the released guide's own fill.sh prints them over the translation fad03b267329e766… (all of the seat's roots in one cut). By AI agents, Wed Nov 11 2026. No macro, syntax, notation, axiom, sorry.
-/
import Derived.Test.YtcnpaheefnefoaaGreatChecked
import GoSem.Claim
import GoSem.ClaimJoined
import GoSem.ClaimMapViews
import Derived.JoinedTies
import Derived.KernelRfl
namespace Go.Proofs.YtcnpaheefnefoaaGreat
/- THE CELL 'sum', in the pinned program and in every row, IS THE sha256 OF THE DUMP (.gsa) THAT YtcnpaheefnefoaaGreatProg.lean LOADS. Nothing in Lean hashes anything: it is a label: what it is worth is what the hold of that sum in a sandbox is worth. -/
noncomputable def Tryz.pinned : Pinned := { name := "ytcnpaheefnefoaagreat", sum := "fad03b267329e766f8a5f6d0e552c7bcab1fc372246a13ceef5a522e515d4bda", checked := Tryz.checked }
namespace Rows
def none {H : Type} : Left H := { results := [], args := [] }

/-- 'keelblocklaw03.FloatingSolves': WHATEVER THE INPUT: true; the input reads as it did. -/
def floatingSolvesSpec : ChangeSpec := { name := "floatingSolves", fn := fun _ => fun
  | [d] => { results := [.lit (.bool true)], args := [d] }
  | _ => none }
def floatingSolvesRow : OpenClaim := { program := "ytcnpaheefnefoaagreat", sum := "fad03b267329e766f8a5f6d0e552c7bcab1fc372246a13ceef5a522e515d4bda", func := "keelblock/keelblocklaw03.FloatingSolves", spec := "floatingSolves", unfollowed := true, recurses := true, apart := false }
def FloatingSolvesSaid : Prop := floatingSolvesRow.holds Tryz.pinned (OpenSpec.ofChange floatingSolvesSpec)

/-- ITS FALSE NEIGHBOUR: 'it returns false'. Refute it at one input. -/
def floatingSolvesWrong : ChangeSpec := { name := "floatingSolves", fn := fun _ => fun
  | [d] => { results := [.lit (.bool false)], args := [d] }
  | _ => none }
def FloatingSolvesWrongFalsely : Prop := floatingSolvesRow.holds Tryz.pinned (OpenSpec.ofChange floatingSolvesWrong)

/-- 'keelblocklaw03.FloatingReserved': WHATEVER THE INPUT: true; the input reads as it did. -/
def floatingReservedSpec : ChangeSpec := { name := "floatingReserved", fn := fun _ => fun
  | [d1, d2, d3] => { results := [.lit (.bool true)], args := [d1, d2, d3] }
  | _ => none }
def floatingReservedRow : OpenClaim := { program := "ytcnpaheefnefoaagreat", sum := "fad03b267329e766f8a5f6d0e552c7bcab1fc372246a13ceef5a522e515d4bda", func := "keelblock/keelblocklaw03.FloatingReserved", spec := "floatingReserved", unfollowed := true, recurses := true, apart := false }
def FloatingReservedSaid : Prop := floatingReservedRow.holds Tryz.pinned (OpenSpec.ofChange floatingReservedSpec)

/-- ITS FALSE NEIGHBOUR: 'it returns false'. Refute it at one input. -/
def floatingReservedWrong : ChangeSpec := { name := "floatingReserved", fn := fun _ => fun
  | [d1, d2, d3] => { results := [.lit (.bool false)], args := [d1, d2, d3] }
  | _ => none }
def FloatingReservedWrongFalsely : Prop := floatingReservedRow.holds Tryz.pinned (OpenSpec.ofChange floatingReservedWrong)

/-- 'keelblocklaw03.FloatingPredicts': WHATEVER THE INPUT: true; the input reads as it did. -/
def floatingPredictsSpec : ChangeSpec := { name := "floatingPredicts", fn := fun _ => fun
  | [d1, d2, d3] => { results := [.lit (.bool true)], args := [d1, d2, d3] }
  | _ => none }
def floatingPredictsRow : OpenClaim := { program := "ytcnpaheefnefoaagreat", sum := "fad03b267329e766f8a5f6d0e552c7bcab1fc372246a13ceef5a522e515d4bda", func := "keelblock/keelblocklaw03.FloatingPredicts", spec := "floatingPredicts", unfollowed := true, recurses := true, apart := false }
def FloatingPredictsSaid : Prop := floatingPredictsRow.holds Tryz.pinned (OpenSpec.ofChange floatingPredictsSpec)

/-- ITS FALSE NEIGHBOUR: 'it returns false'. Refute it at one input. -/
def floatingPredictsWrong : ChangeSpec := { name := "floatingPredicts", fn := fun _ => fun
  | [d1, d2, d3] => { results := [.lit (.bool false)], args := [d1, d2, d3] }
  | _ => none }
def FloatingPredictsWrongFalsely : Prop := floatingPredictsRow.holds Tryz.pinned (OpenSpec.ofChange floatingPredictsWrong)

/-- 'keelblocklaw03.FloatingShips': WHATEVER THE INPUT: true; the input reads as it did. -/
def floatingShipsSpec : ChangeSpec := { name := "floatingShips", fn := fun _ => fun
  | [d1, d2, d3] => { results := [.lit (.bool true)], args := [d1, d2, d3] }
  | _ => none }
def floatingShipsRow : OpenClaim := { program := "ytcnpaheefnefoaagreat", sum := "fad03b267329e766f8a5f6d0e552c7bcab1fc372246a13ceef5a522e515d4bda", func := "keelblock/keelblocklaw03.FloatingShips", spec := "floatingShips", unfollowed := true, recurses := true, apart := false }
def FloatingShipsSaid : Prop := floatingShipsRow.holds Tryz.pinned (OpenSpec.ofChange floatingShipsSpec)

/-- ITS FALSE NEIGHBOUR: 'it returns false'. Refute it at one input. -/
def floatingShipsWrong : ChangeSpec := { name := "floatingShips", fn := fun _ => fun
  | [d1, d2, d3] => { results := [.lit (.bool false)], args := [d1, d2, d3] }
  | _ => none }
def FloatingShipsWrongFalsely : Prop := floatingShipsRow.holds Tryz.pinned (OpenSpec.ofChange floatingShipsWrong)

/- THE SECOND FORM. 'bulk': how many values and letters a reading holds, each counted each time it is reached (what is shared counts as often as it is met; a slice's spare places count too). A statement '..UptoSaid' is the law's where the arguments, and the package variables that the reading takes, are together of bulk at most 1048576: NARROWER than '..Said'. Prove '..Said' where nothing that the law and all that it calls make is longer than what came in: it says more and counts as full. Else prove '..UptoSaid'. A law counts once. -/
mutual
def uptoBulk {H : Type} : DataW H → Nat
  | .lit (.string bytes) => bytes.length + 1
  | .lit _ => 1
  | .nil => 1
  | .ptr d => uptoBulk d + 1
  | .slice elems spare => uptoBulkAll elems + uptoBulkAll spare + 1
  | .agg parts => uptoBulkAll parts + 1
  | .iface _ d => uptoBulk d + 1
  | .map entries => uptoBulkEntries entries + 1
  | .held _ => 1
def uptoBulkAll {H : Type} : List (DataW H) → Nat
  | [] => 0
  | d :: r => uptoBulk d + uptoBulkAll r
def uptoBulkEntries {H : Type} : List (Lit × DataW H) → Nat
  | [] => 0
  | x :: r => uptoBulkEntry x + uptoBulkEntries r
def uptoBulkEntry {H : Type} : Lit × DataW H → Nat
  | (.string bytes, d) => bytes.length + uptoBulk d + 1
  | (_, d) => uptoBulk d + 1
 end
def uptoSmall : (H : Type) → List (DataW H) → Bool := fun _ ds => decide (uptoBulkAll ds ≤ 1048576)
def OpenSpec.upto (s : _root_.Go.ChangeSpec) : _root_.Go.OpenSpec := { _root_.Go.OpenSpec.ofChange s with cond := some uptoSmall }

/-- 'keelblocklaw03.FloatingSolves', WHERE WHAT IT READS IS OF BULK AT MOST 1048576: true; the input reads as it did. -/
def floatingSolvesUptoRow : OpenClaim := { program := "ytcnpaheefnefoaagreat", sum := "fad03b267329e766f8a5f6d0e552c7bcab1fc372246a13ceef5a522e515d4bda", func := "keelblock/keelblocklaw03.FloatingSolves", spec := "floatingSolves", unfollowed := true, recurses := true, apart := false, narrowed := true }
def FloatingSolvesUptoSaid : Prop := floatingSolvesUptoRow.holds Tryz.pinned (OpenSpec.upto floatingSolvesSpec)

/-- 'keelblocklaw03.FloatingReserved', WHERE WHAT IT READS IS OF BULK AT MOST 1048576: true; the input reads as it did. -/
def floatingReservedUptoRow : OpenClaim := { program := "ytcnpaheefnefoaagreat", sum := "fad03b267329e766f8a5f6d0e552c7bcab1fc372246a13ceef5a522e515d4bda", func := "keelblock/keelblocklaw03.FloatingReserved", spec := "floatingReserved", unfollowed := true, recurses := true, apart := false, narrowed := true }
def FloatingReservedUptoSaid : Prop := floatingReservedUptoRow.holds Tryz.pinned (OpenSpec.upto floatingReservedSpec)

/-- 'keelblocklaw03.FloatingPredicts', WHERE WHAT IT READS IS OF BULK AT MOST 1048576: true; the input reads as it did. -/
def floatingPredictsUptoRow : OpenClaim := { program := "ytcnpaheefnefoaagreat", sum := "fad03b267329e766f8a5f6d0e552c7bcab1fc372246a13ceef5a522e515d4bda", func := "keelblock/keelblocklaw03.FloatingPredicts", spec := "floatingPredicts", unfollowed := true, recurses := true, apart := false, narrowed := true }
def FloatingPredictsUptoSaid : Prop := floatingPredictsUptoRow.holds Tryz.pinned (OpenSpec.upto floatingPredictsSpec)

/-- 'keelblocklaw03.FloatingShips', WHERE WHAT IT READS IS OF BULK AT MOST 1048576: true; the input reads as it did. -/
def floatingShipsUptoRow : OpenClaim := { program := "ytcnpaheefnefoaagreat", sum := "fad03b267329e766f8a5f6d0e552c7bcab1fc372246a13ceef5a522e515d4bda", func := "keelblock/keelblocklaw03.FloatingShips", spec := "floatingShips", unfollowed := true, recurses := true, apart := false, narrowed := true }
def FloatingShipsUptoSaid : Prop := floatingShipsUptoRow.holds Tryz.pinned (OpenSpec.upto floatingShipsSpec)

end Rows
end Go.Proofs.YtcnpaheefnefoaaGreat
