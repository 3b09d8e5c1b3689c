/-
  No cell of these rows narrows 'for every input' (looked for: loops, veiled, ifaces, maps, wideKeys, modest, calm, conditions, laid).
  DERIVED. THE GIVEN ROWS OF THIS SEAT. 12 by the template 'for every input the law returns true; each argument reads behind the call as it read before'; 0 by the template 'total and deterministic' (their statements: YtjejnoojnndnlaaGreatTotals.lean).
  GIVEN WITH THE SEED: the statements are not yours to turn. If you find one false, say at which input.
  Laid BY PROGRAM, IN A SANDBOX (cutbox-rows.mjs): the forced cells as the released guide's own fill.sh prints them over the translation 3fe7d9401b3b5639… (all of the seat's roots in one cut). By AI agents, Wed Nov 11 2026. No macro, syntax, notation, axiom, sorry.
-/
import Derived.Test.YtjejnoojnndnlaaGreatChecked
import GoSem.Claim
import GoSem.ClaimJoined
import GoSem.ClaimMapViews
import Derived.JoinedTies
import Derived.KernelRfl
namespace Go.Proofs.YtjejnoojnndnlaaGreat
/- THE CELL 'sum', in the pinned program and in every row, IS THE sha256 OF THE DUMP (.gsa) THAT YtjejnoojnndnlaaGreatProg.lean LOADS. Nothing in Lean hashes anything: it is a label: what it is worth is what the hold of that sum in a sandbox is worth. -/
noncomputable def Tryz.pinned : Pinned := { name := "ytjejnoojnndnlaagreat", sum := "3fe7d9401b3b5639fb256bc74bcf235a4e1949b6f126619405b7730401a89ff8", checked := Tryz.checked }
namespace Rows
def none {H : Type} : Left H := { results := [], args := [] }

/-- 'keelblocklaw03.FloatingChecks': WHATEVER THE INPUT: true; the input reads as it did. -/
def floatingChecksSpec : ChangeSpec := { name := "floatingChecks", fn := fun _ => fun
  | [d] => { results := [.lit (.bool true)], args := [d] }
  | _ => none }
def floatingChecksRow : OpenClaim := { program := "ytjejnoojnndnlaagreat", sum := "3fe7d9401b3b5639fb256bc74bcf235a4e1949b6f126619405b7730401a89ff8", func := "keelblock/keelblocklaw03.FloatingChecks", spec := "floatingChecks", unfollowed := true, recurses := true, apart := false }
def FloatingChecksSaid : Prop := floatingChecksRow.holds Tryz.pinned (OpenSpec.ofChange floatingChecksSpec)

/-- ITS FALSE NEIGHBOUR: 'it returns false'. Refute it at one input. -/
def floatingChecksWrong : ChangeSpec := { name := "floatingChecks", fn := fun _ => fun
  | [d] => { results := [.lit (.bool false)], args := [d] }
  | _ => none }
def FloatingChecksWrongFalsely : Prop := floatingChecksRow.holds Tryz.pinned (OpenSpec.ofChange floatingChecksWrong)

/-- 'keelblocklaw03.FloatingMonotone': WHATEVER THE INPUT: true; the input reads as it did. -/
def floatingMonotoneSpec : ChangeSpec := { name := "floatingMonotone", fn := fun _ => fun
  | [d1, d2, d3] => { results := [.lit (.bool true)], args := [d1, d2, d3] }
  | _ => none }
def floatingMonotoneRow : OpenClaim := { program := "ytjejnoojnndnlaagreat", sum := "3fe7d9401b3b5639fb256bc74bcf235a4e1949b6f126619405b7730401a89ff8", func := "keelblock/keelblocklaw03.FloatingMonotone", spec := "floatingMonotone", unfollowed := true, recurses := true, apart := false }
def FloatingMonotoneSaid : Prop := floatingMonotoneRow.holds Tryz.pinned (OpenSpec.ofChange floatingMonotoneSpec)

/-- ITS FALSE NEIGHBOUR: 'it returns false'. Refute it at one input. -/
def floatingMonotoneWrong : ChangeSpec := { name := "floatingMonotone", fn := fun _ => fun
  | [d1, d2, d3] => { results := [.lit (.bool false)], args := [d1, d2, d3] }
  | _ => none }
def FloatingMonotoneWrongFalsely : Prop := floatingMonotoneRow.holds Tryz.pinned (OpenSpec.ofChange floatingMonotoneWrong)

/-- 'keelblocklaw03.FloatingReserves': WHATEVER THE INPUT: true; the input reads as it did. -/
def floatingReservesSpec : ChangeSpec := { name := "floatingReserves", fn := fun _ => fun
  | [d1, d2] => { results := [.lit (.bool true)], args := [d1, d2] }
  | _ => none }
def floatingReservesRow : OpenClaim := { program := "ytjejnoojnndnlaagreat", sum := "3fe7d9401b3b5639fb256bc74bcf235a4e1949b6f126619405b7730401a89ff8", func := "keelblock/keelblocklaw03.FloatingReserves", spec := "floatingReserves", unfollowed := true, recurses := true, apart := false }
def FloatingReservesSaid : Prop := floatingReservesRow.holds Tryz.pinned (OpenSpec.ofChange floatingReservesSpec)

/-- ITS FALSE NEIGHBOUR: 'it returns false'. Refute it at one input. -/
def floatingReservesWrong : ChangeSpec := { name := "floatingReserves", fn := fun _ => fun
  | [d1, d2] => { results := [.lit (.bool false)], args := [d1, d2] }
  | _ => none }
def FloatingReservesWrongFalsely : Prop := floatingReservesRow.holds Tryz.pinned (OpenSpec.ofChange floatingReservesWrong)

/-- 'keelblocklaw03.FloatingEnergies': WHATEVER THE INPUT: true; the input reads as it did. -/
def floatingEnergiesSpec : ChangeSpec := { name := "floatingEnergies", fn := fun _ => fun
  | [d1, d2] => { results := [.lit (.bool true)], args := [d1, d2] }
  | _ => none }
def floatingEnergiesRow : OpenClaim := { program := "ytjejnoojnndnlaagreat", sum := "3fe7d9401b3b5639fb256bc74bcf235a4e1949b6f126619405b7730401a89ff8", func := "keelblock/keelblocklaw03.FloatingEnergies", spec := "floatingEnergies", unfollowed := true, recurses := true, apart := false }
def FloatingEnergiesSaid : Prop := floatingEnergiesRow.holds Tryz.pinned (OpenSpec.ofChange floatingEnergiesSpec)

/-- ITS FALSE NEIGHBOUR: 'it returns false'. Refute it at one input. -/
def floatingEnergiesWrong : ChangeSpec := { name := "floatingEnergies", fn := fun _ => fun
  | [d1, d2] => { results := [.lit (.bool false)], args := [d1, d2] }
  | _ => none }
def FloatingEnergiesWrongFalsely : Prop := floatingEnergiesRow.holds Tryz.pinned (OpenSpec.ofChange floatingEnergiesWrong)

/-- 'keelblocklaw03.FloatingCertificates': WHATEVER THE INPUT: true; the input reads as it did. -/
def floatingCertificatesSpec : ChangeSpec := { name := "floatingCertificates", fn := fun _ => fun
  | [d1, d2, d3] => { results := [.lit (.bool true)], args := [d1, d2, d3] }
  | _ => none }
def floatingCertificatesRow : OpenClaim := { program := "ytjejnoojnndnlaagreat", sum := "3fe7d9401b3b5639fb256bc74bcf235a4e1949b6f126619405b7730401a89ff8", func := "keelblock/keelblocklaw03.FloatingCertificates", spec := "floatingCertificates", unfollowed := true, recurses := true, apart := false }
def FloatingCertificatesSaid : Prop := floatingCertificatesRow.holds Tryz.pinned (OpenSpec.ofChange floatingCertificatesSpec)

/-- ITS FALSE NEIGHBOUR: 'it returns false'. Refute it at one input. -/
def floatingCertificatesWrong : ChangeSpec := { name := "floatingCertificates", fn := fun _ => fun
  | [d1, d2, d3] => { results := [.lit (.bool false)], args := [d1, d2, d3] }
  | _ => none }
def FloatingCertificatesWrongFalsely : Prop := floatingCertificatesRow.holds Tryz.pinned (OpenSpec.ofChange floatingCertificatesWrong)

/-- 'keelblocklaw03.FloatingExclude': WHATEVER THE INPUT: true; the input reads as it did. -/
def floatingExcludeSpec : ChangeSpec := { name := "floatingExclude", fn := fun _ => fun
  | [d1, d2, d3] => { results := [.lit (.bool true)], args := [d1, d2, d3] }
  | _ => none }
def floatingExcludeRow : OpenClaim := { program := "ytjejnoojnndnlaagreat", sum := "3fe7d9401b3b5639fb256bc74bcf235a4e1949b6f126619405b7730401a89ff8", func := "keelblock/keelblocklaw03.FloatingExclude", spec := "floatingExclude", unfollowed := true, recurses := true, apart := false }
def FloatingExcludeSaid : Prop := floatingExcludeRow.holds Tryz.pinned (OpenSpec.ofChange floatingExcludeSpec)

/-- ITS FALSE NEIGHBOUR: 'it returns false'. Refute it at one input. -/
def floatingExcludeWrong : ChangeSpec := { name := "floatingExclude", fn := fun _ => fun
  | [d1, d2, d3] => { results := [.lit (.bool false)], args := [d1, d2, d3] }
  | _ => none }
def FloatingExcludeWrongFalsely : Prop := floatingExcludeRow.holds Tryz.pinned (OpenSpec.ofChange floatingExcludeWrong)

/-- 'keelblocklaw03.FloatingRaises': WHATEVER THE INPUT: true; the input reads as it did. -/
def floatingRaisesSpec : ChangeSpec := { name := "floatingRaises", fn := fun _ => fun
  | [d1, d2] => { results := [.lit (.bool true)], args := [d1, d2] }
  | _ => none }
def floatingRaisesRow : OpenClaim := { program := "ytjejnoojnndnlaagreat", sum := "3fe7d9401b3b5639fb256bc74bcf235a4e1949b6f126619405b7730401a89ff8", func := "keelblock/keelblocklaw03.FloatingRaises", spec := "floatingRaises", unfollowed := true, recurses := true, apart := false }
def FloatingRaisesSaid : Prop := floatingRaisesRow.holds Tryz.pinned (OpenSpec.ofChange floatingRaisesSpec)

/-- ITS FALSE NEIGHBOUR: 'it returns false'. Refute it at one input. -/
def floatingRaisesWrong : ChangeSpec := { name := "floatingRaises", fn := fun _ => fun
  | [d1, d2] => { results := [.lit (.bool false)], args := [d1, d2] }
  | _ => none }
def FloatingRaisesWrongFalsely : Prop := floatingRaisesRow.holds Tryz.pinned (OpenSpec.ofChange floatingRaisesWrong)

/-- 'keelblocklaw03.FloatingTrims': WHATEVER THE INPUT: true; the input reads as it did. -/
def floatingTrimsSpec : ChangeSpec := { name := "floatingTrims", fn := fun _ => fun
  | [d1, d2, d3] => { results := [.lit (.bool true)], args := [d1, d2, d3] }
  | _ => none }
def floatingTrimsRow : OpenClaim := { program := "ytjejnoojnndnlaagreat", sum := "3fe7d9401b3b5639fb256bc74bcf235a4e1949b6f126619405b7730401a89ff8", func := "keelblock/keelblocklaw03.FloatingTrims", spec := "floatingTrims", unfollowed := true, recurses := true, apart := false }
def FloatingTrimsSaid : Prop := floatingTrimsRow.holds Tryz.pinned (OpenSpec.ofChange floatingTrimsSpec)

/-- ITS FALSE NEIGHBOUR: 'it returns false'. Refute it at one input. -/
def floatingTrimsWrong : ChangeSpec := { name := "floatingTrims", fn := fun _ => fun
  | [d1, d2, d3] => { results := [.lit (.bool false)], args := [d1, d2, d3] }
  | _ => none }
def FloatingTrimsWrongFalsely : Prop := floatingTrimsRow.holds Tryz.pinned (OpenSpec.ofChange floatingTrimsWrong)

/-- 'keelblocklaw03.FloatingForces': WHATEVER THE INPUT: true; the input reads as it did. -/
def floatingForcesSpec : ChangeSpec := { name := "floatingForces", fn := fun _ => fun
  | [d1, d2] => { results := [.lit (.bool true)], args := [d1, d2] }
  | _ => none }
def floatingForcesRow : OpenClaim := { program := "ytjejnoojnndnlaagreat", sum := "3fe7d9401b3b5639fb256bc74bcf235a4e1949b6f126619405b7730401a89ff8", func := "keelblock/keelblocklaw03.FloatingForces", spec := "floatingForces", unfollowed := true, recurses := true, apart := false }
def FloatingForcesSaid : Prop := floatingForcesRow.holds Tryz.pinned (OpenSpec.ofChange floatingForcesSpec)

/-- ITS FALSE NEIGHBOUR: 'it returns false'. Refute it at one input. -/
def floatingForcesWrong : ChangeSpec := { name := "floatingForces", fn := fun _ => fun
  | [d1, d2] => { results := [.lit (.bool false)], args := [d1, d2] }
  | _ => none }
def FloatingForcesWrongFalsely : Prop := floatingForcesRow.holds Tryz.pinned (OpenSpec.ofChange floatingForcesWrong)

/-- 'keelblocklaw03.FloatingEither': WHATEVER THE INPUT: true; the input reads as it did. -/
def floatingEitherSpec : ChangeSpec := { name := "floatingEither", fn := fun _ => fun
  | [d] => { results := [.lit (.bool true)], args := [d] }
  | _ => none }
def floatingEitherRow : OpenClaim := { program := "ytjejnoojnndnlaagreat", sum := "3fe7d9401b3b5639fb256bc74bcf235a4e1949b6f126619405b7730401a89ff8", func := "keelblock/keelblocklaw03.FloatingEither", spec := "floatingEither", unfollowed := true, recurses := true, apart := false }
def FloatingEitherSaid : Prop := floatingEitherRow.holds Tryz.pinned (OpenSpec.ofChange floatingEitherSpec)

/-- ITS FALSE NEIGHBOUR: 'it returns false'. Refute it at one input. -/
def floatingEitherWrong : ChangeSpec := { name := "floatingEither", fn := fun _ => fun
  | [d] => { results := [.lit (.bool false)], args := [d] }
  | _ => none }
def FloatingEitherWrongFalsely : Prop := floatingEitherRow.holds Tryz.pinned (OpenSpec.ofChange floatingEitherWrong)

/-- 'keelblocklaw03.FloatingLeast': WHATEVER THE INPUT: true; the input reads as it did. -/
def floatingLeastSpec : ChangeSpec := { name := "floatingLeast", fn := fun _ => fun
  | [d1, d2] => { results := [.lit (.bool true)], args := [d1, d2] }
  | _ => none }
def floatingLeastRow : OpenClaim := { program := "ytjejnoojnndnlaagreat", sum := "3fe7d9401b3b5639fb256bc74bcf235a4e1949b6f126619405b7730401a89ff8", func := "keelblock/keelblocklaw03.FloatingLeast", spec := "floatingLeast", unfollowed := true, recurses := true, apart := false }
def FloatingLeastSaid : Prop := floatingLeastRow.holds Tryz.pinned (OpenSpec.ofChange floatingLeastSpec)

/-- ITS FALSE NEIGHBOUR: 'it returns false'. Refute it at one input. -/
def floatingLeastWrong : ChangeSpec := { name := "floatingLeast", fn := fun _ => fun
  | [d1, d2] => { results := [.lit (.bool false)], args := [d1, d2] }
  | _ => none }
def FloatingLeastWrongFalsely : Prop := floatingLeastRow.holds Tryz.pinned (OpenSpec.ofChange floatingLeastWrong)

/-- 'keelblocklaw03.FloatingChanges': WHATEVER THE INPUT: true; the input reads as it did. -/
def floatingChangesSpec : ChangeSpec := { name := "floatingChanges", fn := fun _ => fun
  | [d1, d2] => { results := [.lit (.bool true)], args := [d1, d2] }
  | _ => none }
def floatingChangesRow : OpenClaim := { program := "ytjejnoojnndnlaagreat", sum := "3fe7d9401b3b5639fb256bc74bcf235a4e1949b6f126619405b7730401a89ff8", func := "keelblock/keelblocklaw03.FloatingChanges", spec := "floatingChanges", unfollowed := true, recurses := true, apart := false }
def FloatingChangesSaid : Prop := floatingChangesRow.holds Tryz.pinned (OpenSpec.ofChange floatingChangesSpec)

/-- ITS FALSE NEIGHBOUR: 'it returns false'. Refute it at one input. -/
def floatingChangesWrong : ChangeSpec := { name := "floatingChanges", fn := fun _ => fun
  | [d1, d2] => { results := [.lit (.bool false)], args := [d1, d2] }
  | _ => none }
def FloatingChangesWrongFalsely : Prop := floatingChangesRow.holds Tryz.pinned (OpenSpec.ofChange floatingChangesWrong)

/- THE SECOND FORM. 'bulk': how many values and letters a reading holds, each counted each time it is reached (what is shared counts as often as it is met; a slice's spare places count too). A statement '..UptoSaid' is the law's where the arguments, and the package variables that the reading takes, are together of bulk at most 1048576: NARROWER than '..Said'. Prove '..Said' where nothing that the law and all that it calls make is longer than what came in: it says more and counts as full. Else prove '..UptoSaid'. A law counts once. -/
mutual
def uptoBulk {H : Type} : DataW H → Nat
  | .lit (.string bytes) => bytes.length + 1
  | .lit _ => 1
  | .nil => 1
  | .ptr d => uptoBulk d + 1
  | .slice elems spare => uptoBulkAll elems + uptoBulkAll spare + 1
  | .agg parts => uptoBulkAll parts + 1
  | .iface _ d => uptoBulk d + 1
  | .map entries => uptoBulkEntries entries + 1
  | .held _ => 1
def uptoBulkAll {H : Type} : List (DataW H) → Nat
  | [] => 0
  | d :: r => uptoBulk d + uptoBulkAll r
def uptoBulkEntries {H : Type} : List (Lit × DataW H) → Nat
  | [] => 0
  | x :: r => uptoBulkEntry x + uptoBulkEntries r
def uptoBulkEntry {H : Type} : Lit × DataW H → Nat
  | (.string bytes, d) => bytes.length + uptoBulk d + 1
  | (_, d) => uptoBulk d + 1
 end
def uptoSmall : (H : Type) → List (DataW H) → Bool := fun _ ds => decide (uptoBulkAll ds ≤ 1048576)
def OpenSpec.upto (s : _root_.Go.ChangeSpec) : _root_.Go.OpenSpec := { _root_.Go.OpenSpec.ofChange s with cond := some uptoSmall }

/-- 'keelblocklaw03.FloatingChecks', WHERE WHAT IT READS IS OF BULK AT MOST 1048576: true; the input reads as it did. -/
def floatingChecksUptoRow : OpenClaim := { program := "ytjejnoojnndnlaagreat", sum := "3fe7d9401b3b5639fb256bc74bcf235a4e1949b6f126619405b7730401a89ff8", func := "keelblock/keelblocklaw03.FloatingChecks", spec := "floatingChecks", unfollowed := true, recurses := true, apart := false, narrowed := true }
def FloatingChecksUptoSaid : Prop := floatingChecksUptoRow.holds Tryz.pinned (OpenSpec.upto floatingChecksSpec)

/-- 'keelblocklaw03.FloatingMonotone', WHERE WHAT IT READS IS OF BULK AT MOST 1048576: true; the input reads as it did. -/
def floatingMonotoneUptoRow : OpenClaim := { program := "ytjejnoojnndnlaagreat", sum := "3fe7d9401b3b5639fb256bc74bcf235a4e1949b6f126619405b7730401a89ff8", func := "keelblock/keelblocklaw03.FloatingMonotone", spec := "floatingMonotone", unfollowed := true, recurses := true, apart := false, narrowed := true }
def FloatingMonotoneUptoSaid : Prop := floatingMonotoneUptoRow.holds Tryz.pinned (OpenSpec.upto floatingMonotoneSpec)

/-- 'keelblocklaw03.FloatingReserves', WHERE WHAT IT READS IS OF BULK AT MOST 1048576: true; the input reads as it did. -/
def floatingReservesUptoRow : OpenClaim := { program := "ytjejnoojnndnlaagreat", sum := "3fe7d9401b3b5639fb256bc74bcf235a4e1949b6f126619405b7730401a89ff8", func := "keelblock/keelblocklaw03.FloatingReserves", spec := "floatingReserves", unfollowed := true, recurses := true, apart := false, narrowed := true }
def FloatingReservesUptoSaid : Prop := floatingReservesUptoRow.holds Tryz.pinned (OpenSpec.upto floatingReservesSpec)

/-- 'keelblocklaw03.FloatingEnergies', WHERE WHAT IT READS IS OF BULK AT MOST 1048576: true; the input reads as it did. -/
def floatingEnergiesUptoRow : OpenClaim := { program := "ytjejnoojnndnlaagreat", sum := "3fe7d9401b3b5639fb256bc74bcf235a4e1949b6f126619405b7730401a89ff8", func := "keelblock/keelblocklaw03.FloatingEnergies", spec := "floatingEnergies", unfollowed := true, recurses := true, apart := false, narrowed := true }
def FloatingEnergiesUptoSaid : Prop := floatingEnergiesUptoRow.holds Tryz.pinned (OpenSpec.upto floatingEnergiesSpec)

/-- 'keelblocklaw03.FloatingCertificates', WHERE WHAT IT READS IS OF BULK AT MOST 1048576: true; the input reads as it did. -/
def floatingCertificatesUptoRow : OpenClaim := { program := "ytjejnoojnndnlaagreat", sum := "3fe7d9401b3b5639fb256bc74bcf235a4e1949b6f126619405b7730401a89ff8", func := "keelblock/keelblocklaw03.FloatingCertificates", spec := "floatingCertificates", unfollowed := true, recurses := true, apart := false, narrowed := true }
def FloatingCertificatesUptoSaid : Prop := floatingCertificatesUptoRow.holds Tryz.pinned (OpenSpec.upto floatingCertificatesSpec)

/-- 'keelblocklaw03.FloatingExclude', WHERE WHAT IT READS IS OF BULK AT MOST 1048576: true; the input reads as it did. -/
def floatingExcludeUptoRow : OpenClaim := { program := "ytjejnoojnndnlaagreat", sum := "3fe7d9401b3b5639fb256bc74bcf235a4e1949b6f126619405b7730401a89ff8", func := "keelblock/keelblocklaw03.FloatingExclude", spec := "floatingExclude", unfollowed := true, recurses := true, apart := false, narrowed := true }
def FloatingExcludeUptoSaid : Prop := floatingExcludeUptoRow.holds Tryz.pinned (OpenSpec.upto floatingExcludeSpec)

/-- 'keelblocklaw03.FloatingRaises', WHERE WHAT IT READS IS OF BULK AT MOST 1048576: true; the input reads as it did. -/
def floatingRaisesUptoRow : OpenClaim := { program := "ytjejnoojnndnlaagreat", sum := "3fe7d9401b3b5639fb256bc74bcf235a4e1949b6f126619405b7730401a89ff8", func := "keelblock/keelblocklaw03.FloatingRaises", spec := "floatingRaises", unfollowed := true, recurses := true, apart := false, narrowed := true }
def FloatingRaisesUptoSaid : Prop := floatingRaisesUptoRow.holds Tryz.pinned (OpenSpec.upto floatingRaisesSpec)

/-- 'keelblocklaw03.FloatingTrims', WHERE WHAT IT READS IS OF BULK AT MOST 1048576: true; the input reads as it did. -/
def floatingTrimsUptoRow : OpenClaim := { program := "ytjejnoojnndnlaagreat", sum := "3fe7d9401b3b5639fb256bc74bcf235a4e1949b6f126619405b7730401a89ff8", func := "keelblock/keelblocklaw03.FloatingTrims", spec := "floatingTrims", unfollowed := true, recurses := true, apart := false, narrowed := true }
def FloatingTrimsUptoSaid : Prop := floatingTrimsUptoRow.holds Tryz.pinned (OpenSpec.upto floatingTrimsSpec)

/-- 'keelblocklaw03.FloatingForces', WHERE WHAT IT READS IS OF BULK AT MOST 1048576: true; the input reads as it did. -/
def floatingForcesUptoRow : OpenClaim := { program := "ytjejnoojnndnlaagreat", sum := "3fe7d9401b3b5639fb256bc74bcf235a4e1949b6f126619405b7730401a89ff8", func := "keelblock/keelblocklaw03.FloatingForces", spec := "floatingForces", unfollowed := true, recurses := true, apart := false, narrowed := true }
def FloatingForcesUptoSaid : Prop := floatingForcesUptoRow.holds Tryz.pinned (OpenSpec.upto floatingForcesSpec)

/-- 'keelblocklaw03.FloatingEither', WHERE WHAT IT READS IS OF BULK AT MOST 1048576: true; the input reads as it did. -/
def floatingEitherUptoRow : OpenClaim := { program := "ytjejnoojnndnlaagreat", sum := "3fe7d9401b3b5639fb256bc74bcf235a4e1949b6f126619405b7730401a89ff8", func := "keelblock/keelblocklaw03.FloatingEither", spec := "floatingEither", unfollowed := true, recurses := true, apart := false, narrowed := true }
def FloatingEitherUptoSaid : Prop := floatingEitherUptoRow.holds Tryz.pinned (OpenSpec.upto floatingEitherSpec)

/-- 'keelblocklaw03.FloatingLeast', WHERE WHAT IT READS IS OF BULK AT MOST 1048576: true; the input reads as it did. -/
def floatingLeastUptoRow : OpenClaim := { program := "ytjejnoojnndnlaagreat", sum := "3fe7d9401b3b5639fb256bc74bcf235a4e1949b6f126619405b7730401a89ff8", func := "keelblock/keelblocklaw03.FloatingLeast", spec := "floatingLeast", unfollowed := true, recurses := true, apart := false, narrowed := true }
def FloatingLeastUptoSaid : Prop := floatingLeastUptoRow.holds Tryz.pinned (OpenSpec.upto floatingLeastSpec)

/-- 'keelblocklaw03.FloatingChanges', WHERE WHAT IT READS IS OF BULK AT MOST 1048576: true; the input reads as it did. -/
def floatingChangesUptoRow : OpenClaim := { program := "ytjejnoojnndnlaagreat", sum := "3fe7d9401b3b5639fb256bc74bcf235a4e1949b6f126619405b7730401a89ff8", func := "keelblock/keelblocklaw03.FloatingChanges", spec := "floatingChanges", unfollowed := true, recurses := true, apart := false, narrowed := true }
def FloatingChangesUptoSaid : Prop := floatingChangesUptoRow.holds Tryz.pinned (OpenSpec.upto floatingChangesSpec)

end Rows
end Go.Proofs.YtjejnoojnndnlaaGreat
