/-
  No cell of these rows narrows 'for every input' (looked for: loops, veiled, ifaces, maps, wideKeys, modest, calm, conditions, laid).
  DERIVED. THE GIVEN ROWS OF THIS SEAT. 5 by the template 'for every input the law returns true; each argument reads behind the call as it read before'; 0 by the template 'total and deterministic' (their statements: YtaeeehokaleakaaGreatTotals.lean).
  GIVEN WITH THE SEED: the statements are not yours to turn. If you find one false, say at which input.
  Laid BY PROGRAM, IN A SANDBOX (cutbox-rows.mjs): the forced cells as the released guide's own fill.sh prints them over the translation 0812893b777df2c3… (all of the seat's roots in one cut). By AI agents, Wed Nov 11 2026. No macro, syntax, notation, axiom, sorry.
-/
import Derived.Test.YtaeeehokaleakaaGreatChecked
import GoSem.Claim
import GoSem.ClaimJoined
import GoSem.ClaimMapViews
import Derived.JoinedTies
import Derived.KernelRfl
namespace Go.Proofs.YtaeeehokaleakaaGreat
/- THE CELL 'sum', in the pinned program and in every row, IS THE sha256 OF THE DUMP (.gsa) THAT YtaeeehokaleakaaGreatProg.lean LOADS. Nothing in Lean hashes anything: it is a label: what it is worth is what the hold of that sum in a sandbox is worth. -/
noncomputable def Tryz.pinned : Pinned := { name := "ytaeeehokaleakaagreat", sum := "0812893b777df2c3f4b42eb3061e3bf2ada3fbeb3017e10d5dcd5cb08e6f9a4c", checked := Tryz.checked }
namespace Rows
def none {H : Type} : Left H := { results := [], args := [] }

/-- 'keelblocktop.TopArchimedes': WHATEVER THE INPUT: true; the input reads as it did. -/
def topArchimedesSpec : ChangeSpec := { name := "topArchimedes", fn := fun _ => fun
  | [d1, d2, d3] => { results := [.lit (.bool true)], args := [d1, d2, d3] }
  | _ => none }
def topArchimedesRow : OpenClaim := { program := "ytaeeehokaleakaagreat", sum := "0812893b777df2c3f4b42eb3061e3bf2ada3fbeb3017e10d5dcd5cb08e6f9a4c", func := "keelblock/keelblocktop.TopArchimedes", spec := "topArchimedes", unfollowed := true, recurses := true, apart := false }
def TopArchimedesSaid : Prop := topArchimedesRow.holds Tryz.pinned (OpenSpec.ofChange topArchimedesSpec)

/-- ITS FALSE NEIGHBOUR: 'it returns false'. Refute it at one input. -/
def topArchimedesWrong : ChangeSpec := { name := "topArchimedes", fn := fun _ => fun
  | [d1, d2, d3] => { results := [.lit (.bool false)], args := [d1, d2, d3] }
  | _ => none }
def TopArchimedesWrongFalsely : Prop := topArchimedesRow.holds Tryz.pinned (OpenSpec.ofChange topArchimedesWrong)

/-- 'keelblocktop.TopUpthrustGrows': WHATEVER THE INPUT: true; the input reads as it did. -/
def topUpthrustGrowsSpec : ChangeSpec := { name := "topUpthrustGrows", fn := fun _ => fun
  | [d1, d2] => { results := [.lit (.bool true)], args := [d1, d2] }
  | _ => none }
def topUpthrustGrowsRow : OpenClaim := { program := "ytaeeehokaleakaagreat", sum := "0812893b777df2c3f4b42eb3061e3bf2ada3fbeb3017e10d5dcd5cb08e6f9a4c", func := "keelblock/keelblocktop.TopUpthrustGrows", spec := "topUpthrustGrows", unfollowed := true, recurses := true, apart := false }
def TopUpthrustGrowsSaid : Prop := topUpthrustGrowsRow.holds Tryz.pinned (OpenSpec.ofChange topUpthrustGrowsSpec)

/-- ITS FALSE NEIGHBOUR: 'it returns false'. Refute it at one input. -/
def topUpthrustGrowsWrong : ChangeSpec := { name := "topUpthrustGrows", fn := fun _ => fun
  | [d1, d2] => { results := [.lit (.bool false)], args := [d1, d2] }
  | _ => none }
def TopUpthrustGrowsWrongFalsely : Prop := topUpthrustGrowsRow.holds Tryz.pinned (OpenSpec.ofChange topUpthrustGrowsWrong)

/-- 'keelblocklaw04.DockingStrength': WHATEVER THE INPUT: true; the input reads as it did. -/
def dockingStrengthSpec : ChangeSpec := { name := "dockingStrength", fn := fun _ => fun
  | [d1, d2] => { results := [.lit (.bool true)], args := [d1, d2] }
  | _ => none }
def dockingStrengthRow : OpenClaim := { program := "ytaeeehokaleakaagreat", sum := "0812893b777df2c3f4b42eb3061e3bf2ada3fbeb3017e10d5dcd5cb08e6f9a4c", func := "keelblock/keelblocklaw04.DockingStrength", spec := "dockingStrength", unfollowed := true, recurses := true, apart := false }
def DockingStrengthSaid : Prop := dockingStrengthRow.holds Tryz.pinned (OpenSpec.ofChange dockingStrengthSpec)

/-- ITS FALSE NEIGHBOUR: 'it returns false'. Refute it at one input. -/
def dockingStrengthWrong : ChangeSpec := { name := "dockingStrength", fn := fun _ => fun
  | [d1, d2] => { results := [.lit (.bool false)], args := [d1, d2] }
  | _ => none }
def DockingStrengthWrongFalsely : Prop := dockingStrengthRow.holds Tryz.pinned (OpenSpec.ofChange dockingStrengthWrong)

/-- 'keelblocklaw04.DockingSpares': WHATEVER THE INPUT: true; the input reads as it did. -/
def dockingSparesSpec : ChangeSpec := { name := "dockingSpares", fn := fun _ => fun
  | [d1, d2] => { results := [.lit (.bool true)], args := [d1, d2] }
  | _ => none }
def dockingSparesRow : OpenClaim := { program := "ytaeeehokaleakaagreat", sum := "0812893b777df2c3f4b42eb3061e3bf2ada3fbeb3017e10d5dcd5cb08e6f9a4c", func := "keelblock/keelblocklaw04.DockingSpares", spec := "dockingSpares", unfollowed := true, recurses := true, apart := false }
def DockingSparesSaid : Prop := dockingSparesRow.holds Tryz.pinned (OpenSpec.ofChange dockingSparesSpec)

/-- ITS FALSE NEIGHBOUR: 'it returns false'. Refute it at one input. -/
def dockingSparesWrong : ChangeSpec := { name := "dockingSpares", fn := fun _ => fun
  | [d1, d2] => { results := [.lit (.bool false)], args := [d1, d2] }
  | _ => none }
def DockingSparesWrongFalsely : Prop := dockingSparesRow.holds Tryz.pinned (OpenSpec.ofChange dockingSparesWrong)

/-- 'keelblocklaw04.DockingHelps': WHATEVER THE INPUT: true; the input reads as it did. -/
def dockingHelpsSpec : ChangeSpec := { name := "dockingHelps", fn := fun _ => fun
  | [d1, d2, d3] => { results := [.lit (.bool true)], args := [d1, d2, d3] }
  | _ => none }
def dockingHelpsRow : OpenClaim := { program := "ytaeeehokaleakaagreat", sum := "0812893b777df2c3f4b42eb3061e3bf2ada3fbeb3017e10d5dcd5cb08e6f9a4c", func := "keelblock/keelblocklaw04.DockingHelps", spec := "dockingHelps", unfollowed := true, recurses := true, apart := false }
def DockingHelpsSaid : Prop := dockingHelpsRow.holds Tryz.pinned (OpenSpec.ofChange dockingHelpsSpec)

/-- ITS FALSE NEIGHBOUR: 'it returns false'. Refute it at one input. -/
def dockingHelpsWrong : ChangeSpec := { name := "dockingHelps", fn := fun _ => fun
  | [d1, d2, d3] => { results := [.lit (.bool false)], args := [d1, d2, d3] }
  | _ => none }
def DockingHelpsWrongFalsely : Prop := dockingHelpsRow.holds Tryz.pinned (OpenSpec.ofChange dockingHelpsWrong)

/- THE SECOND FORM. 'bulk': how many values and letters a reading holds, each counted each time it is reached (what is shared counts as often as it is met; a slice's spare places count too). A statement '..UptoSaid' is the law's where the arguments, and the package variables that the reading takes, are together of bulk at most 1048576: NARROWER than '..Said'. Prove '..Said' where nothing that the law and all that it calls make is longer than what came in: it says more and counts as full. Else prove '..UptoSaid'. A law counts once. -/
mutual
def uptoBulk {H : Type} : DataW H → Nat
  | .lit (.string bytes) => bytes.length + 1
  | .lit _ => 1
  | .nil => 1
  | .ptr d => uptoBulk d + 1
  | .slice elems spare => uptoBulkAll elems + uptoBulkAll spare + 1
  | .agg parts => uptoBulkAll parts + 1
  | .iface _ d => uptoBulk d + 1
  | .map entries => uptoBulkEntries entries + 1
  | .held _ => 1
def uptoBulkAll {H : Type} : List (DataW H) → Nat
  | [] => 0
  | d :: r => uptoBulk d + uptoBulkAll r
def uptoBulkEntries {H : Type} : List (Lit × DataW H) → Nat
  | [] => 0
  | x :: r => uptoBulkEntry x + uptoBulkEntries r
def uptoBulkEntry {H : Type} : Lit × DataW H → Nat
  | (.string bytes, d) => bytes.length + uptoBulk d + 1
  | (_, d) => uptoBulk d + 1
 end
def uptoSmall : (H : Type) → List (DataW H) → Bool := fun _ ds => decide (uptoBulkAll ds ≤ 1048576)
def OpenSpec.upto (s : _root_.Go.ChangeSpec) : _root_.Go.OpenSpec := { _root_.Go.OpenSpec.ofChange s with cond := some uptoSmall }

/-- 'keelblocktop.TopArchimedes', WHERE WHAT IT READS IS OF BULK AT MOST 1048576: true; the input reads as it did. -/
def topArchimedesUptoRow : OpenClaim := { program := "ytaeeehokaleakaagreat", sum := "0812893b777df2c3f4b42eb3061e3bf2ada3fbeb3017e10d5dcd5cb08e6f9a4c", func := "keelblock/keelblocktop.TopArchimedes", spec := "topArchimedes", unfollowed := true, recurses := true, apart := false, narrowed := true }
def TopArchimedesUptoSaid : Prop := topArchimedesUptoRow.holds Tryz.pinned (OpenSpec.upto topArchimedesSpec)

/-- 'keelblocktop.TopUpthrustGrows', WHERE WHAT IT READS IS OF BULK AT MOST 1048576: true; the input reads as it did. -/
def topUpthrustGrowsUptoRow : OpenClaim := { program := "ytaeeehokaleakaagreat", sum := "0812893b777df2c3f4b42eb3061e3bf2ada3fbeb3017e10d5dcd5cb08e6f9a4c", func := "keelblock/keelblocktop.TopUpthrustGrows", spec := "topUpthrustGrows", unfollowed := true, recurses := true, apart := false, narrowed := true }
def TopUpthrustGrowsUptoSaid : Prop := topUpthrustGrowsUptoRow.holds Tryz.pinned (OpenSpec.upto topUpthrustGrowsSpec)

/-- 'keelblocklaw04.DockingStrength', WHERE WHAT IT READS IS OF BULK AT MOST 1048576: true; the input reads as it did. -/
def dockingStrengthUptoRow : OpenClaim := { program := "ytaeeehokaleakaagreat", sum := "0812893b777df2c3f4b42eb3061e3bf2ada3fbeb3017e10d5dcd5cb08e6f9a4c", func := "keelblock/keelblocklaw04.DockingStrength", spec := "dockingStrength", unfollowed := true, recurses := true, apart := false, narrowed := true }
def DockingStrengthUptoSaid : Prop := dockingStrengthUptoRow.holds Tryz.pinned (OpenSpec.upto dockingStrengthSpec)

/-- 'keelblocklaw04.DockingSpares', WHERE WHAT IT READS IS OF BULK AT MOST 1048576: true; the input reads as it did. -/
def dockingSparesUptoRow : OpenClaim := { program := "ytaeeehokaleakaagreat", sum := "0812893b777df2c3f4b42eb3061e3bf2ada3fbeb3017e10d5dcd5cb08e6f9a4c", func := "keelblock/keelblocklaw04.DockingSpares", spec := "dockingSpares", unfollowed := true, recurses := true, apart := false, narrowed := true }
def DockingSparesUptoSaid : Prop := dockingSparesUptoRow.holds Tryz.pinned (OpenSpec.upto dockingSparesSpec)

/-- 'keelblocklaw04.DockingHelps', WHERE WHAT IT READS IS OF BULK AT MOST 1048576: true; the input reads as it did. -/
def dockingHelpsUptoRow : OpenClaim := { program := "ytaeeehokaleakaagreat", sum := "0812893b777df2c3f4b42eb3061e3bf2ada3fbeb3017e10d5dcd5cb08e6f9a4c", func := "keelblock/keelblocklaw04.DockingHelps", spec := "dockingHelps", unfollowed := true, recurses := true, apart := false, narrowed := true }
def DockingHelpsUptoSaid : Prop := dockingHelpsUptoRow.holds Tryz.pinned (OpenSpec.upto dockingHelpsSpec)

end Rows
end Go.Proofs.YtaeeehokaleakaaGreat
