/-
  No cell of these rows narrows 'for every input' (looked for: loops, veiled, ifaces, maps, wideKeys, modest, calm, conditions, laid).
  DERIVED. THE GIVEN ROWS OF THIS SEAT. 12 by the template 'for every input the law returns true; each argument reads behind the call as it read before'; 0 by the template 'total and deterministic' (their statements: YtmfjgnchaacgnaaGreatTotals.lean).
  GIVEN WITH THE SEED: the statements are not yours to turn. If you find one false, say at which input.
  Laid BY PROGRAM, IN A SANDBOX (cutbox-rows.mjs): the forced cells as the released guide's own fill.sh prints them over the translation 782bdbf9fab72740… (all of the seat's roots in one cut). By AI agents, Wed Nov 11 2026. No macro, syntax, notation, axiom, sorry.
-/
import Derived.Test.YtmfjgnchaacgnaaGreatChecked
import GoSem.Claim
import GoSem.ClaimJoined
import GoSem.ClaimMapViews
import Derived.JoinedTies
import Derived.KernelRfl
namespace Go.Proofs.YtmfjgnchaacgnaaGreat
/- THE CELL 'sum', in the pinned program and in every row, IS THE sha256 OF THE DUMP (.gsa) THAT YtmfjgnchaacgnaaGreatProg.lean LOADS. Nothing in Lean hashes anything: it is a label: what it is worth is what the hold of that sum in a sandbox is worth. -/
noncomputable def Tryz.pinned : Pinned := { name := "ytmfjgnchaacgnaagreat", sum := "782bdbf9fab72740a07f5310c0943d3922639c5aab876f8bbeda94eb1a2386e6", checked := Tryz.checked }
namespace Rows
def none {H : Type} : Left H := { results := [], args := [] }

/-- 'keelblocklaw04.DockingChecks': WHATEVER THE INPUT: true; the input reads as it did. -/
def dockingChecksSpec : ChangeSpec := { name := "dockingChecks", fn := fun _ => fun
  | [d] => { results := [.lit (.bool true)], args := [d] }
  | _ => none }
def dockingChecksRow : OpenClaim := { program := "ytmfjgnchaacgnaagreat", sum := "782bdbf9fab72740a07f5310c0943d3922639c5aab876f8bbeda94eb1a2386e6", func := "keelblock/keelblocklaw04.DockingChecks", spec := "dockingChecks", unfollowed := true, recurses := true, apart := false }
def DockingChecksSaid : Prop := dockingChecksRow.holds Tryz.pinned (OpenSpec.ofChange dockingChecksSpec)

/-- ITS FALSE NEIGHBOUR: 'it returns false'. Refute it at one input. -/
def dockingChecksWrong : ChangeSpec := { name := "dockingChecks", fn := fun _ => fun
  | [d] => { results := [.lit (.bool false)], args := [d] }
  | _ => none }
def DockingChecksWrongFalsely : Prop := dockingChecksRow.holds Tryz.pinned (OpenSpec.ofChange dockingChecksWrong)

/-- 'keelblocklaw04.DockingStands': WHATEVER THE INPUT: true; the input reads as it did. -/
def dockingStandsSpec : ChangeSpec := { name := "dockingStands", fn := fun _ => fun
  | [d1, d2] => { results := [.lit (.bool true)], args := [d1, d2] }
  | _ => none }
def dockingStandsRow : OpenClaim := { program := "ytmfjgnchaacgnaagreat", sum := "782bdbf9fab72740a07f5310c0943d3922639c5aab876f8bbeda94eb1a2386e6", func := "keelblock/keelblocklaw04.DockingStands", spec := "dockingStands", unfollowed := true, recurses := true, apart := false }
def DockingStandsSaid : Prop := dockingStandsRow.holds Tryz.pinned (OpenSpec.ofChange dockingStandsSpec)

/-- ITS FALSE NEIGHBOUR: 'it returns false'. Refute it at one input. -/
def dockingStandsWrong : ChangeSpec := { name := "dockingStands", fn := fun _ => fun
  | [d1, d2] => { results := [.lit (.bool false)], args := [d1, d2] }
  | _ => none }
def DockingStandsWrongFalsely : Prop := dockingStandsRow.holds Tryz.pinned (OpenSpec.ofChange dockingStandsWrong)

/-- 'keelblocklaw04.DockingSinks': WHATEVER THE INPUT: true; the input reads as it did. -/
def dockingSinksSpec : ChangeSpec := { name := "dockingSinks", fn := fun _ => fun
  | [d1, d2, d3] => { results := [.lit (.bool true)], args := [d1, d2, d3] }
  | _ => none }
def dockingSinksRow : OpenClaim := { program := "ytmfjgnchaacgnaagreat", sum := "782bdbf9fab72740a07f5310c0943d3922639c5aab876f8bbeda94eb1a2386e6", func := "keelblock/keelblocklaw04.DockingSinks", spec := "dockingSinks", unfollowed := true, recurses := true, apart := false }
def DockingSinksSaid : Prop := dockingSinksRow.holds Tryz.pinned (OpenSpec.ofChange dockingSinksSpec)

/-- ITS FALSE NEIGHBOUR: 'it returns false'. Refute it at one input. -/
def dockingSinksWrong : ChangeSpec := { name := "dockingSinks", fn := fun _ => fun
  | [d1, d2, d3] => { results := [.lit (.bool false)], args := [d1, d2, d3] }
  | _ => none }
def DockingSinksWrongFalsely : Prop := dockingSinksRow.holds Tryz.pinned (OpenSpec.ofChange dockingSinksWrong)

/-- 'keelblocklaw04.DockingTouches': WHATEVER THE INPUT: true; the input reads as it did. -/
def dockingTouchesSpec : ChangeSpec := { name := "dockingTouches", fn := fun _ => fun
  | [d1, d2] => { results := [.lit (.bool true)], args := [d1, d2] }
  | _ => none }
def dockingTouchesRow : OpenClaim := { program := "ytmfjgnchaacgnaagreat", sum := "782bdbf9fab72740a07f5310c0943d3922639c5aab876f8bbeda94eb1a2386e6", func := "keelblock/keelblocklaw04.DockingTouches", spec := "dockingTouches", unfollowed := true, recurses := true, apart := false }
def DockingTouchesSaid : Prop := dockingTouchesRow.holds Tryz.pinned (OpenSpec.ofChange dockingTouchesSpec)

/-- ITS FALSE NEIGHBOUR: 'it returns false'. Refute it at one input. -/
def dockingTouchesWrong : ChangeSpec := { name := "dockingTouches", fn := fun _ => fun
  | [d1, d2] => { results := [.lit (.bool false)], args := [d1, d2] }
  | _ => none }
def DockingTouchesWrongFalsely : Prop := dockingTouchesRow.holds Tryz.pinned (OpenSpec.ofChange dockingTouchesWrong)

/-- 'keelblocklaw04.DockingSupports': WHATEVER THE INPUT: true; the input reads as it did. -/
def dockingSupportsSpec : ChangeSpec := { name := "dockingSupports", fn := fun _ => fun
  | [d1, d2] => { results := [.lit (.bool true)], args := [d1, d2] }
  | _ => none }
def dockingSupportsRow : OpenClaim := { program := "ytmfjgnchaacgnaagreat", sum := "782bdbf9fab72740a07f5310c0943d3922639c5aab876f8bbeda94eb1a2386e6", func := "keelblock/keelblocklaw04.DockingSupports", spec := "dockingSupports", unfollowed := true, recurses := true, apart := false }
def DockingSupportsSaid : Prop := dockingSupportsRow.holds Tryz.pinned (OpenSpec.ofChange dockingSupportsSpec)

/-- ITS FALSE NEIGHBOUR: 'it returns false'. Refute it at one input. -/
def dockingSupportsWrong : ChangeSpec := { name := "dockingSupports", fn := fun _ => fun
  | [d1, d2] => { results := [.lit (.bool false)], args := [d1, d2] }
  | _ => none }
def DockingSupportsWrongFalsely : Prop := dockingSupportsRow.holds Tryz.pinned (OpenSpec.ofChange dockingSupportsWrong)

/-- 'keelblocklaw04.DockingBottoms': WHATEVER THE INPUT: true; the input reads as it did. -/
def dockingBottomsSpec : ChangeSpec := { name := "dockingBottoms", fn := fun _ => fun
  | [d1, d2, d3] => { results := [.lit (.bool true)], args := [d1, d2, d3] }
  | _ => none }
def dockingBottomsRow : OpenClaim := { program := "ytmfjgnchaacgnaagreat", sum := "782bdbf9fab72740a07f5310c0943d3922639c5aab876f8bbeda94eb1a2386e6", func := "keelblock/keelblocklaw04.DockingBottoms", spec := "dockingBottoms", unfollowed := true, recurses := true, apart := false }
def DockingBottomsSaid : Prop := dockingBottomsRow.holds Tryz.pinned (OpenSpec.ofChange dockingBottomsSpec)

/-- ITS FALSE NEIGHBOUR: 'it returns false'. Refute it at one input. -/
def dockingBottomsWrong : ChangeSpec := { name := "dockingBottoms", fn := fun _ => fun
  | [d1, d2, d3] => { results := [.lit (.bool false)], args := [d1, d2, d3] }
  | _ => none }
def DockingBottomsWrongFalsely : Prop := dockingBottomsRow.holds Tryz.pinned (OpenSpec.ofChange dockingBottomsWrong)

/-- 'keelblocklaw04.DockingFollows': WHATEVER THE INPUT: true; the input reads as it did. -/
def dockingFollowsSpec : ChangeSpec := { name := "dockingFollows", fn := fun _ => fun
  | [d1, d2] => { results := [.lit (.bool true)], args := [d1, d2] }
  | _ => none }
def dockingFollowsRow : OpenClaim := { program := "ytmfjgnchaacgnaagreat", sum := "782bdbf9fab72740a07f5310c0943d3922639c5aab876f8bbeda94eb1a2386e6", func := "keelblock/keelblocklaw04.DockingFollows", spec := "dockingFollows", unfollowed := true, recurses := true, apart := false }
def DockingFollowsSaid : Prop := dockingFollowsRow.holds Tryz.pinned (OpenSpec.ofChange dockingFollowsSpec)

/-- ITS FALSE NEIGHBOUR: 'it returns false'. Refute it at one input. -/
def dockingFollowsWrong : ChangeSpec := { name := "dockingFollows", fn := fun _ => fun
  | [d1, d2] => { results := [.lit (.bool false)], args := [d1, d2] }
  | _ => none }
def DockingFollowsWrongFalsely : Prop := dockingFollowsRow.holds Tryz.pinned (OpenSpec.ofChange dockingFollowsWrong)

/-- 'keelblocklaw04.DockingStrength': WHATEVER THE INPUT: true; the input reads as it did. -/
def dockingStrengthSpec : ChangeSpec := { name := "dockingStrength", fn := fun _ => fun
  | [d1, d2] => { results := [.lit (.bool true)], args := [d1, d2] }
  | _ => none }
def dockingStrengthRow : OpenClaim := { program := "ytmfjgnchaacgnaagreat", sum := "782bdbf9fab72740a07f5310c0943d3922639c5aab876f8bbeda94eb1a2386e6", func := "keelblock/keelblocklaw04.DockingStrength", spec := "dockingStrength", unfollowed := true, recurses := true, apart := false }
def DockingStrengthSaid : Prop := dockingStrengthRow.holds Tryz.pinned (OpenSpec.ofChange dockingStrengthSpec)

/-- ITS FALSE NEIGHBOUR: 'it returns false'. Refute it at one input. -/
def dockingStrengthWrong : ChangeSpec := { name := "dockingStrength", fn := fun _ => fun
  | [d1, d2] => { results := [.lit (.bool false)], args := [d1, d2] }
  | _ => none }
def DockingStrengthWrongFalsely : Prop := dockingStrengthRow.holds Tryz.pinned (OpenSpec.ofChange dockingStrengthWrong)

/-- 'keelblocklaw04.DockingLays': WHATEVER THE INPUT: true; the input reads as it did. -/
def dockingLaysSpec : ChangeSpec := { name := "dockingLays", fn := fun _ => fun
  | [d1, d2, d3] => { results := [.lit (.bool true)], args := [d1, d2, d3] }
  | _ => none }
def dockingLaysRow : OpenClaim := { program := "ytmfjgnchaacgnaagreat", sum := "782bdbf9fab72740a07f5310c0943d3922639c5aab876f8bbeda94eb1a2386e6", func := "keelblock/keelblocklaw04.DockingLays", spec := "dockingLays", unfollowed := true, recurses := true, apart := false }
def DockingLaysSaid : Prop := dockingLaysRow.holds Tryz.pinned (OpenSpec.ofChange dockingLaysSpec)

/-- ITS FALSE NEIGHBOUR: 'it returns false'. Refute it at one input. -/
def dockingLaysWrong : ChangeSpec := { name := "dockingLays", fn := fun _ => fun
  | [d1, d2, d3] => { results := [.lit (.bool false)], args := [d1, d2, d3] }
  | _ => none }
def DockingLaysWrongFalsely : Prop := dockingLaysRow.holds Tryz.pinned (OpenSpec.ofChange dockingLaysWrong)

/-- 'keelblocklaw04.DockingFailures': WHATEVER THE INPUT: true; the input reads as it did. -/
def dockingFailuresSpec : ChangeSpec := { name := "dockingFailures", fn := fun _ => fun
  | [d1, d2] => { results := [.lit (.bool true)], args := [d1, d2] }
  | _ => none }
def dockingFailuresRow : OpenClaim := { program := "ytmfjgnchaacgnaagreat", sum := "782bdbf9fab72740a07f5310c0943d3922639c5aab876f8bbeda94eb1a2386e6", func := "keelblock/keelblocklaw04.DockingFailures", spec := "dockingFailures", unfollowed := true, recurses := true, apart := false }
def DockingFailuresSaid : Prop := dockingFailuresRow.holds Tryz.pinned (OpenSpec.ofChange dockingFailuresSpec)

/-- ITS FALSE NEIGHBOUR: 'it returns false'. Refute it at one input. -/
def dockingFailuresWrong : ChangeSpec := { name := "dockingFailures", fn := fun _ => fun
  | [d1, d2] => { results := [.lit (.bool false)], args := [d1, d2] }
  | _ => none }
def DockingFailuresWrongFalsely : Prop := dockingFailuresRow.holds Tryz.pinned (OpenSpec.ofChange dockingFailuresWrong)

/-- 'keelblocklaw04.DockingMemory': WHATEVER THE INPUT: true; the input reads as it did. -/
def dockingMemorySpec : ChangeSpec := { name := "dockingMemory", fn := fun _ => fun
  | [d1, d2] => { results := [.lit (.bool true)], args := [d1, d2] }
  | _ => none }
def dockingMemoryRow : OpenClaim := { program := "ytmfjgnchaacgnaagreat", sum := "782bdbf9fab72740a07f5310c0943d3922639c5aab876f8bbeda94eb1a2386e6", func := "keelblock/keelblocklaw04.DockingMemory", spec := "dockingMemory", unfollowed := true, recurses := true, apart := false }
def DockingMemorySaid : Prop := dockingMemoryRow.holds Tryz.pinned (OpenSpec.ofChange dockingMemorySpec)

/-- ITS FALSE NEIGHBOUR: 'it returns false'. Refute it at one input. -/
def dockingMemoryWrong : ChangeSpec := { name := "dockingMemory", fn := fun _ => fun
  | [d1, d2] => { results := [.lit (.bool false)], args := [d1, d2] }
  | _ => none }
def DockingMemoryWrongFalsely : Prop := dockingMemoryRow.holds Tryz.pinned (OpenSpec.ofChange dockingMemoryWrong)

/-- 'keelblocklaw04.DockingJudges': WHATEVER THE INPUT: true; the input reads as it did. -/
def dockingJudgesSpec : ChangeSpec := { name := "dockingJudges", fn := fun _ => fun
  | [d1, d2] => { results := [.lit (.bool true)], args := [d1, d2] }
  | _ => none }
def dockingJudgesRow : OpenClaim := { program := "ytmfjgnchaacgnaagreat", sum := "782bdbf9fab72740a07f5310c0943d3922639c5aab876f8bbeda94eb1a2386e6", func := "keelblock/keelblocklaw04.DockingJudges", spec := "dockingJudges", unfollowed := true, recurses := true, apart := false }
def DockingJudgesSaid : Prop := dockingJudgesRow.holds Tryz.pinned (OpenSpec.ofChange dockingJudgesSpec)

/-- ITS FALSE NEIGHBOUR: 'it returns false'. Refute it at one input. -/
def dockingJudgesWrong : ChangeSpec := { name := "dockingJudges", fn := fun _ => fun
  | [d1, d2] => { results := [.lit (.bool false)], args := [d1, d2] }
  | _ => none }
def DockingJudgesWrongFalsely : Prop := dockingJudgesRow.holds Tryz.pinned (OpenSpec.ofChange dockingJudgesWrong)

/- THE SECOND FORM. 'bulk': how many values and letters a reading holds, each counted each time it is reached (what is shared counts as often as it is met; a slice's spare places count too). A statement '..UptoSaid' is the law's where the arguments, and the package variables that the reading takes, are together of bulk at most 1048576: NARROWER than '..Said'. Prove '..Said' where nothing that the law and all that it calls make is longer than what came in: it says more and counts as full. Else prove '..UptoSaid'. A law counts once. -/
mutual
def uptoBulk {H : Type} : DataW H → Nat
  | .lit (.string bytes) => bytes.length + 1
  | .lit _ => 1
  | .nil => 1
  | .ptr d => uptoBulk d + 1
  | .slice elems spare => uptoBulkAll elems + uptoBulkAll spare + 1
  | .agg parts => uptoBulkAll parts + 1
  | .iface _ d => uptoBulk d + 1
  | .map entries => uptoBulkEntries entries + 1
  | .held _ => 1
def uptoBulkAll {H : Type} : List (DataW H) → Nat
  | [] => 0
  | d :: r => uptoBulk d + uptoBulkAll r
def uptoBulkEntries {H : Type} : List (Lit × DataW H) → Nat
  | [] => 0
  | x :: r => uptoBulkEntry x + uptoBulkEntries r
def uptoBulkEntry {H : Type} : Lit × DataW H → Nat
  | (.string bytes, d) => bytes.length + uptoBulk d + 1
  | (_, d) => uptoBulk d + 1
 end
def uptoSmall : (H : Type) → List (DataW H) → Bool := fun _ ds => decide (uptoBulkAll ds ≤ 1048576)
def OpenSpec.upto (s : _root_.Go.ChangeSpec) : _root_.Go.OpenSpec := { _root_.Go.OpenSpec.ofChange s with cond := some uptoSmall }

/-- 'keelblocklaw04.DockingChecks', WHERE WHAT IT READS IS OF BULK AT MOST 1048576: true; the input reads as it did. -/
def dockingChecksUptoRow : OpenClaim := { program := "ytmfjgnchaacgnaagreat", sum := "782bdbf9fab72740a07f5310c0943d3922639c5aab876f8bbeda94eb1a2386e6", func := "keelblock/keelblocklaw04.DockingChecks", spec := "dockingChecks", unfollowed := true, recurses := true, apart := false, narrowed := true }
def DockingChecksUptoSaid : Prop := dockingChecksUptoRow.holds Tryz.pinned (OpenSpec.upto dockingChecksSpec)

/-- 'keelblocklaw04.DockingStands', WHERE WHAT IT READS IS OF BULK AT MOST 1048576: true; the input reads as it did. -/
def dockingStandsUptoRow : OpenClaim := { program := "ytmfjgnchaacgnaagreat", sum := "782bdbf9fab72740a07f5310c0943d3922639c5aab876f8bbeda94eb1a2386e6", func := "keelblock/keelblocklaw04.DockingStands", spec := "dockingStands", unfollowed := true, recurses := true, apart := false, narrowed := true }
def DockingStandsUptoSaid : Prop := dockingStandsUptoRow.holds Tryz.pinned (OpenSpec.upto dockingStandsSpec)

/-- 'keelblocklaw04.DockingSinks', WHERE WHAT IT READS IS OF BULK AT MOST 1048576: true; the input reads as it did. -/
def dockingSinksUptoRow : OpenClaim := { program := "ytmfjgnchaacgnaagreat", sum := "782bdbf9fab72740a07f5310c0943d3922639c5aab876f8bbeda94eb1a2386e6", func := "keelblock/keelblocklaw04.DockingSinks", spec := "dockingSinks", unfollowed := true, recurses := true, apart := false, narrowed := true }
def DockingSinksUptoSaid : Prop := dockingSinksUptoRow.holds Tryz.pinned (OpenSpec.upto dockingSinksSpec)

/-- 'keelblocklaw04.DockingTouches', WHERE WHAT IT READS IS OF BULK AT MOST 1048576: true; the input reads as it did. -/
def dockingTouchesUptoRow : OpenClaim := { program := "ytmfjgnchaacgnaagreat", sum := "782bdbf9fab72740a07f5310c0943d3922639c5aab876f8bbeda94eb1a2386e6", func := "keelblock/keelblocklaw04.DockingTouches", spec := "dockingTouches", unfollowed := true, recurses := true, apart := false, narrowed := true }
def DockingTouchesUptoSaid : Prop := dockingTouchesUptoRow.holds Tryz.pinned (OpenSpec.upto dockingTouchesSpec)

/-- 'keelblocklaw04.DockingSupports', WHERE WHAT IT READS IS OF BULK AT MOST 1048576: true; the input reads as it did. -/
def dockingSupportsUptoRow : OpenClaim := { program := "ytmfjgnchaacgnaagreat", sum := "782bdbf9fab72740a07f5310c0943d3922639c5aab876f8bbeda94eb1a2386e6", func := "keelblock/keelblocklaw04.DockingSupports", spec := "dockingSupports", unfollowed := true, recurses := true, apart := false, narrowed := true }
def DockingSupportsUptoSaid : Prop := dockingSupportsUptoRow.holds Tryz.pinned (OpenSpec.upto dockingSupportsSpec)

/-- 'keelblocklaw04.DockingBottoms', WHERE WHAT IT READS IS OF BULK AT MOST 1048576: true; the input reads as it did. -/
def dockingBottomsUptoRow : OpenClaim := { program := "ytmfjgnchaacgnaagreat", sum := "782bdbf9fab72740a07f5310c0943d3922639c5aab876f8bbeda94eb1a2386e6", func := "keelblock/keelblocklaw04.DockingBottoms", spec := "dockingBottoms", unfollowed := true, recurses := true, apart := false, narrowed := true }
def DockingBottomsUptoSaid : Prop := dockingBottomsUptoRow.holds Tryz.pinned (OpenSpec.upto dockingBottomsSpec)

/-- 'keelblocklaw04.DockingFollows', WHERE WHAT IT READS IS OF BULK AT MOST 1048576: true; the input reads as it did. -/
def dockingFollowsUptoRow : OpenClaim := { program := "ytmfjgnchaacgnaagreat", sum := "782bdbf9fab72740a07f5310c0943d3922639c5aab876f8bbeda94eb1a2386e6", func := "keelblock/keelblocklaw04.DockingFollows", spec := "dockingFollows", unfollowed := true, recurses := true, apart := false, narrowed := true }
def DockingFollowsUptoSaid : Prop := dockingFollowsUptoRow.holds Tryz.pinned (OpenSpec.upto dockingFollowsSpec)

/-- 'keelblocklaw04.DockingStrength', WHERE WHAT IT READS IS OF BULK AT MOST 1048576: true; the input reads as it did. -/
def dockingStrengthUptoRow : OpenClaim := { program := "ytmfjgnchaacgnaagreat", sum := "782bdbf9fab72740a07f5310c0943d3922639c5aab876f8bbeda94eb1a2386e6", func := "keelblock/keelblocklaw04.DockingStrength", spec := "dockingStrength", unfollowed := true, recurses := true, apart := false, narrowed := true }
def DockingStrengthUptoSaid : Prop := dockingStrengthUptoRow.holds Tryz.pinned (OpenSpec.upto dockingStrengthSpec)

/-- 'keelblocklaw04.DockingLays', WHERE WHAT IT READS IS OF BULK AT MOST 1048576: true; the input reads as it did. -/
def dockingLaysUptoRow : OpenClaim := { program := "ytmfjgnchaacgnaagreat", sum := "782bdbf9fab72740a07f5310c0943d3922639c5aab876f8bbeda94eb1a2386e6", func := "keelblock/keelblocklaw04.DockingLays", spec := "dockingLays", unfollowed := true, recurses := true, apart := false, narrowed := true }
def DockingLaysUptoSaid : Prop := dockingLaysUptoRow.holds Tryz.pinned (OpenSpec.upto dockingLaysSpec)

/-- 'keelblocklaw04.DockingFailures', WHERE WHAT IT READS IS OF BULK AT MOST 1048576: true; the input reads as it did. -/
def dockingFailuresUptoRow : OpenClaim := { program := "ytmfjgnchaacgnaagreat", sum := "782bdbf9fab72740a07f5310c0943d3922639c5aab876f8bbeda94eb1a2386e6", func := "keelblock/keelblocklaw04.DockingFailures", spec := "dockingFailures", unfollowed := true, recurses := true, apart := false, narrowed := true }
def DockingFailuresUptoSaid : Prop := dockingFailuresUptoRow.holds Tryz.pinned (OpenSpec.upto dockingFailuresSpec)

/-- 'keelblocklaw04.DockingMemory', WHERE WHAT IT READS IS OF BULK AT MOST 1048576: true; the input reads as it did. -/
def dockingMemoryUptoRow : OpenClaim := { program := "ytmfjgnchaacgnaagreat", sum := "782bdbf9fab72740a07f5310c0943d3922639c5aab876f8bbeda94eb1a2386e6", func := "keelblock/keelblocklaw04.DockingMemory", spec := "dockingMemory", unfollowed := true, recurses := true, apart := false, narrowed := true }
def DockingMemoryUptoSaid : Prop := dockingMemoryUptoRow.holds Tryz.pinned (OpenSpec.upto dockingMemorySpec)

/-- 'keelblocklaw04.DockingJudges', WHERE WHAT IT READS IS OF BULK AT MOST 1048576: true; the input reads as it did. -/
def dockingJudgesUptoRow : OpenClaim := { program := "ytmfjgnchaacgnaagreat", sum := "782bdbf9fab72740a07f5310c0943d3922639c5aab876f8bbeda94eb1a2386e6", func := "keelblock/keelblocklaw04.DockingJudges", spec := "dockingJudges", unfollowed := true, recurses := true, apart := false, narrowed := true }
def DockingJudgesUptoSaid : Prop := dockingJudgesUptoRow.holds Tryz.pinned (OpenSpec.upto dockingJudgesSpec)

end Rows
end Go.Proofs.YtmfjgnchaacgnaaGreat
