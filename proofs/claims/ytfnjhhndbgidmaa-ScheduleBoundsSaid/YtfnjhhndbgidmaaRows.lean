/-
  No cell of these rows narrows 'for every input' (looked for: loops, veiled, ifaces, maps, wideKeys, modest, calm, conditions, laid).
  DERIVED. THE GIVEN ROWS OF THIS SEAT. 7 by the template 'for every input the law returns true; each argument reads behind the call as it read before'; 0 by the template 'total and deterministic' (their statements: YtfnjhhndbgidmaaTotals.lean).
  GIVEN WITH THE SEED: the statements are not yours to turn. If you find one false, say at which input.
  Laid BY PROGRAM, IN A SANDBOX (cutbox-rows.mjs): the forced cells as the released guide's own fill.sh prints them over the translation 387c77e0af70a4eb… (all of the seat's roots in one cut). By AI agents, Wed Nov 11 2026. No macro, syntax, notation, axiom, sorry.
-/
import Derived.Test.YtfnjhhndbgidmaaChecked
import GoSem.Claim
import GoSem.ClaimJoined
import GoSem.ClaimMapViews
import Derived.JoinedTies
import Derived.KernelRfl
namespace Go.Proofs.Ytfnjhhndbgidmaa
/- THE CELL 'sum', in the pinned program and in every row, IS THE sha256 OF THE DUMP (.gsa) THAT YtfnjhhndbgidmaaProg.lean LOADS. Nothing in Lean hashes anything: it is a label: what it is worth is what the hold of that sum in a sandbox is worth. -/
noncomputable def Try.pinned : Pinned := { name := "ytfnjhhndbgidmaa", sum := "387c77e0af70a4eb64b8f2863cef13adc9db05e9522dabf1362c3276ad3cad1b", checked := Try.checked }
namespace Rows
def none {H : Type} : Left H := { results := [], args := [] }

/-- 'keelblocklaw08.ScheduleBreaches': WHATEVER THE INPUT: true; the input reads as it did. -/
def scheduleBreachesSpec : ChangeSpec := { name := "scheduleBreaches", fn := fun _ => fun
  | [d1, d2] => { results := [.lit (.bool true)], args := [d1, d2] }
  | _ => none }
def scheduleBreachesRow : OpenClaim := { program := "ytfnjhhndbgidmaa", sum := "387c77e0af70a4eb64b8f2863cef13adc9db05e9522dabf1362c3276ad3cad1b", func := "keelblock/keelblocklaw08.ScheduleBreaches", spec := "scheduleBreaches", unfollowed := true, recurses := true, apart := false }
def ScheduleBreachesSaid : Prop := scheduleBreachesRow.holds Try.pinned (OpenSpec.ofChange scheduleBreachesSpec)

/-- ITS FALSE NEIGHBOUR: 'it returns false'. Refute it at one input. -/
def scheduleBreachesWrong : ChangeSpec := { name := "scheduleBreaches", fn := fun _ => fun
  | [d1, d2] => { results := [.lit (.bool false)], args := [d1, d2] }
  | _ => none }
def ScheduleBreachesWrongFalsely : Prop := scheduleBreachesRow.holds Try.pinned (OpenSpec.ofChange scheduleBreachesWrong)

/-- 'keelblocklaw08.ScheduleWorks': WHATEVER THE INPUT: true; the input reads as it did. -/
def scheduleWorksSpec : ChangeSpec := { name := "scheduleWorks", fn := fun _ => fun
  | [d] => { results := [.lit (.bool true)], args := [d] }
  | _ => none }
def scheduleWorksRow : OpenClaim := { program := "ytfnjhhndbgidmaa", sum := "387c77e0af70a4eb64b8f2863cef13adc9db05e9522dabf1362c3276ad3cad1b", func := "keelblock/keelblocklaw08.ScheduleWorks", spec := "scheduleWorks", unfollowed := true, recurses := true, apart := false }
def ScheduleWorksSaid : Prop := scheduleWorksRow.holds Try.pinned (OpenSpec.ofChange scheduleWorksSpec)

/-- ITS FALSE NEIGHBOUR: 'it returns false'. Refute it at one input. -/
def scheduleWorksWrong : ChangeSpec := { name := "scheduleWorks", fn := fun _ => fun
  | [d] => { results := [.lit (.bool false)], args := [d] }
  | _ => none }
def ScheduleWorksWrongFalsely : Prop := scheduleWorksRow.holds Try.pinned (OpenSpec.ofChange scheduleWorksWrong)

/-- 'keelblocklaw08.ScheduleExcludes': WHATEVER THE INPUT: true; the input reads as it did. -/
def scheduleExcludesSpec : ChangeSpec := { name := "scheduleExcludes", fn := fun _ => fun
  | [d1, d2, d3] => { results := [.lit (.bool true)], args := [d1, d2, d3] }
  | _ => none }
def scheduleExcludesRow : OpenClaim := { program := "ytfnjhhndbgidmaa", sum := "387c77e0af70a4eb64b8f2863cef13adc9db05e9522dabf1362c3276ad3cad1b", func := "keelblock/keelblocklaw08.ScheduleExcludes", spec := "scheduleExcludes", unfollowed := true, recurses := true, apart := false }
def ScheduleExcludesSaid : Prop := scheduleExcludesRow.holds Try.pinned (OpenSpec.ofChange scheduleExcludesSpec)

/-- ITS FALSE NEIGHBOUR: 'it returns false'. Refute it at one input. -/
def scheduleExcludesWrong : ChangeSpec := { name := "scheduleExcludes", fn := fun _ => fun
  | [d1, d2, d3] => { results := [.lit (.bool false)], args := [d1, d2, d3] }
  | _ => none }
def ScheduleExcludesWrongFalsely : Prop := scheduleExcludesRow.holds Try.pinned (OpenSpec.ofChange scheduleExcludesWrong)

/-- 'keelblocklaw08.ScheduleBounds': WHATEVER THE INPUT: true; the input reads as it did. -/
def scheduleBoundsSpec : ChangeSpec := { name := "scheduleBounds", fn := fun _ => fun
  | [d1, d2] => { results := [.lit (.bool true)], args := [d1, d2] }
  | _ => none }
def scheduleBoundsRow : OpenClaim := { program := "ytfnjhhndbgidmaa", sum := "387c77e0af70a4eb64b8f2863cef13adc9db05e9522dabf1362c3276ad3cad1b", func := "keelblock/keelblocklaw08.ScheduleBounds", spec := "scheduleBounds", unfollowed := true, recurses := true, apart := false }
def ScheduleBoundsSaid : Prop := scheduleBoundsRow.holds Try.pinned (OpenSpec.ofChange scheduleBoundsSpec)

/-- ITS FALSE NEIGHBOUR: 'it returns false'. Refute it at one input. -/
def scheduleBoundsWrong : ChangeSpec := { name := "scheduleBounds", fn := fun _ => fun
  | [d1, d2] => { results := [.lit (.bool false)], args := [d1, d2] }
  | _ => none }
def ScheduleBoundsWrongFalsely : Prop := scheduleBoundsRow.holds Try.pinned (OpenSpec.ofChange scheduleBoundsWrong)

/-- 'keelblocklaw08.ScheduleBelow': WHATEVER THE INPUT: true; the input reads as it did. -/
def scheduleBelowSpec : ChangeSpec := { name := "scheduleBelow", fn := fun _ => fun
  | [d1, d2, d3] => { results := [.lit (.bool true)], args := [d1, d2, d3] }
  | _ => none }
def scheduleBelowRow : OpenClaim := { program := "ytfnjhhndbgidmaa", sum := "387c77e0af70a4eb64b8f2863cef13adc9db05e9522dabf1362c3276ad3cad1b", func := "keelblock/keelblocklaw08.ScheduleBelow", spec := "scheduleBelow", unfollowed := true, recurses := true, apart := false }
def ScheduleBelowSaid : Prop := scheduleBelowRow.holds Try.pinned (OpenSpec.ofChange scheduleBelowSpec)

/-- ITS FALSE NEIGHBOUR: 'it returns false'. Refute it at one input. -/
def scheduleBelowWrong : ChangeSpec := { name := "scheduleBelow", fn := fun _ => fun
  | [d1, d2, d3] => { results := [.lit (.bool false)], args := [d1, d2, d3] }
  | _ => none }
def ScheduleBelowWrongFalsely : Prop := scheduleBelowRow.holds Try.pinned (OpenSpec.ofChange scheduleBelowWrong)

/-- 'keelblocklaw08.ScheduleTimes': WHATEVER THE INPUT: true; the input reads as it did. -/
def scheduleTimesSpec : ChangeSpec := { name := "scheduleTimes", fn := fun _ => fun
  | [d1, d2] => { results := [.lit (.bool true)], args := [d1, d2] }
  | _ => none }
def scheduleTimesRow : OpenClaim := { program := "ytfnjhhndbgidmaa", sum := "387c77e0af70a4eb64b8f2863cef13adc9db05e9522dabf1362c3276ad3cad1b", func := "keelblock/keelblocklaw08.ScheduleTimes", spec := "scheduleTimes", unfollowed := true, recurses := true, apart := false }
def ScheduleTimesSaid : Prop := scheduleTimesRow.holds Try.pinned (OpenSpec.ofChange scheduleTimesSpec)

/-- ITS FALSE NEIGHBOUR: 'it returns false'. Refute it at one input. -/
def scheduleTimesWrong : ChangeSpec := { name := "scheduleTimes", fn := fun _ => fun
  | [d1, d2] => { results := [.lit (.bool false)], args := [d1, d2] }
  | _ => none }
def ScheduleTimesWrongFalsely : Prop := scheduleTimesRow.holds Try.pinned (OpenSpec.ofChange scheduleTimesWrong)

/-- 'keelblocklaw08.ScheduleFloats': WHATEVER THE INPUT: true; the input reads as it did. -/
def scheduleFloatsSpec : ChangeSpec := { name := "scheduleFloats", fn := fun _ => fun
  | [d1, d2] => { results := [.lit (.bool true)], args := [d1, d2] }
  | _ => none }
def scheduleFloatsRow : OpenClaim := { program := "ytfnjhhndbgidmaa", sum := "387c77e0af70a4eb64b8f2863cef13adc9db05e9522dabf1362c3276ad3cad1b", func := "keelblock/keelblocklaw08.ScheduleFloats", spec := "scheduleFloats", unfollowed := true, recurses := true, apart := false }
def ScheduleFloatsSaid : Prop := scheduleFloatsRow.holds Try.pinned (OpenSpec.ofChange scheduleFloatsSpec)

/-- ITS FALSE NEIGHBOUR: 'it returns false'. Refute it at one input. -/
def scheduleFloatsWrong : ChangeSpec := { name := "scheduleFloats", fn := fun _ => fun
  | [d1, d2] => { results := [.lit (.bool false)], args := [d1, d2] }
  | _ => none }
def ScheduleFloatsWrongFalsely : Prop := scheduleFloatsRow.holds Try.pinned (OpenSpec.ofChange scheduleFloatsWrong)

/- THE SECOND FORM. 'bulk': how many values and letters a reading holds, each counted each time it is reached (what is shared counts as often as it is met; a slice's spare places count too). A statement '..UptoSaid' is the law's where the arguments, and the package variables that the reading takes, are together of bulk at most 1048576: NARROWER than '..Said'. Prove '..Said' where nothing that the law and all that it calls make is longer than what came in: it says more and counts as full. Else prove '..UptoSaid'. A law counts once. -/
mutual
def uptoBulk {H : Type} : DataW H → Nat
  | .lit (.string bytes) => bytes.length + 1
  | .lit _ => 1
  | .nil => 1
  | .ptr d => uptoBulk d + 1
  | .slice elems spare => uptoBulkAll elems + uptoBulkAll spare + 1
  | .agg parts => uptoBulkAll parts + 1
  | .iface _ d => uptoBulk d + 1
  | .map entries => uptoBulkEntries entries + 1
  | .held _ => 1
def uptoBulkAll {H : Type} : List (DataW H) → Nat
  | [] => 0
  | d :: r => uptoBulk d + uptoBulkAll r
def uptoBulkEntries {H : Type} : List (Lit × DataW H) → Nat
  | [] => 0
  | x :: r => uptoBulkEntry x + uptoBulkEntries r
def uptoBulkEntry {H : Type} : Lit × DataW H → Nat
  | (.string bytes, d) => bytes.length + uptoBulk d + 1
  | (_, d) => uptoBulk d + 1
 end
def uptoSmall : (H : Type) → List (DataW H) → Bool := fun _ ds => decide (uptoBulkAll ds ≤ 1048576)
def OpenSpec.upto (s : _root_.Go.ChangeSpec) : _root_.Go.OpenSpec := { _root_.Go.OpenSpec.ofChange s with cond := some uptoSmall }

/-- 'keelblocklaw08.ScheduleBreaches', WHERE WHAT IT READS IS OF BULK AT MOST 1048576: true; the input reads as it did. -/
def scheduleBreachesUptoRow : OpenClaim := { program := "ytfnjhhndbgidmaa", sum := "387c77e0af70a4eb64b8f2863cef13adc9db05e9522dabf1362c3276ad3cad1b", func := "keelblock/keelblocklaw08.ScheduleBreaches", spec := "scheduleBreaches", unfollowed := true, recurses := true, apart := false, narrowed := true }
def ScheduleBreachesUptoSaid : Prop := scheduleBreachesUptoRow.holds Try.pinned (OpenSpec.upto scheduleBreachesSpec)

/-- 'keelblocklaw08.ScheduleWorks', WHERE WHAT IT READS IS OF BULK AT MOST 1048576: true; the input reads as it did. -/
def scheduleWorksUptoRow : OpenClaim := { program := "ytfnjhhndbgidmaa", sum := "387c77e0af70a4eb64b8f2863cef13adc9db05e9522dabf1362c3276ad3cad1b", func := "keelblock/keelblocklaw08.ScheduleWorks", spec := "scheduleWorks", unfollowed := true, recurses := true, apart := false, narrowed := true }
def ScheduleWorksUptoSaid : Prop := scheduleWorksUptoRow.holds Try.pinned (OpenSpec.upto scheduleWorksSpec)

/-- 'keelblocklaw08.ScheduleExcludes', WHERE WHAT IT READS IS OF BULK AT MOST 1048576: true; the input reads as it did. -/
def scheduleExcludesUptoRow : OpenClaim := { program := "ytfnjhhndbgidmaa", sum := "387c77e0af70a4eb64b8f2863cef13adc9db05e9522dabf1362c3276ad3cad1b", func := "keelblock/keelblocklaw08.ScheduleExcludes", spec := "scheduleExcludes", unfollowed := true, recurses := true, apart := false, narrowed := true }
def ScheduleExcludesUptoSaid : Prop := scheduleExcludesUptoRow.holds Try.pinned (OpenSpec.upto scheduleExcludesSpec)

/-- 'keelblocklaw08.ScheduleBounds', WHERE WHAT IT READS IS OF BULK AT MOST 1048576: true; the input reads as it did. -/
def scheduleBoundsUptoRow : OpenClaim := { program := "ytfnjhhndbgidmaa", sum := "387c77e0af70a4eb64b8f2863cef13adc9db05e9522dabf1362c3276ad3cad1b", func := "keelblock/keelblocklaw08.ScheduleBounds", spec := "scheduleBounds", unfollowed := true, recurses := true, apart := false, narrowed := true }
def ScheduleBoundsUptoSaid : Prop := scheduleBoundsUptoRow.holds Try.pinned (OpenSpec.upto scheduleBoundsSpec)

/-- 'keelblocklaw08.ScheduleBelow', WHERE WHAT IT READS IS OF BULK AT MOST 1048576: true; the input reads as it did. -/
def scheduleBelowUptoRow : OpenClaim := { program := "ytfnjhhndbgidmaa", sum := "387c77e0af70a4eb64b8f2863cef13adc9db05e9522dabf1362c3276ad3cad1b", func := "keelblock/keelblocklaw08.ScheduleBelow", spec := "scheduleBelow", unfollowed := true, recurses := true, apart := false, narrowed := true }
def ScheduleBelowUptoSaid : Prop := scheduleBelowUptoRow.holds Try.pinned (OpenSpec.upto scheduleBelowSpec)

/-- 'keelblocklaw08.ScheduleTimes', WHERE WHAT IT READS IS OF BULK AT MOST 1048576: true; the input reads as it did. -/
def scheduleTimesUptoRow : OpenClaim := { program := "ytfnjhhndbgidmaa", sum := "387c77e0af70a4eb64b8f2863cef13adc9db05e9522dabf1362c3276ad3cad1b", func := "keelblock/keelblocklaw08.ScheduleTimes", spec := "scheduleTimes", unfollowed := true, recurses := true, apart := false, narrowed := true }
def ScheduleTimesUptoSaid : Prop := scheduleTimesUptoRow.holds Try.pinned (OpenSpec.upto scheduleTimesSpec)

/-- 'keelblocklaw08.ScheduleFloats', WHERE WHAT IT READS IS OF BULK AT MOST 1048576: true; the input reads as it did. -/
def scheduleFloatsUptoRow : OpenClaim := { program := "ytfnjhhndbgidmaa", sum := "387c77e0af70a4eb64b8f2863cef13adc9db05e9522dabf1362c3276ad3cad1b", func := "keelblock/keelblocklaw08.ScheduleFloats", spec := "scheduleFloats", unfollowed := true, recurses := true, apart := false, narrowed := true }
def ScheduleFloatsUptoSaid : Prop := scheduleFloatsUptoRow.holds Try.pinned (OpenSpec.upto scheduleFloatsSpec)

end Rows
end Go.Proofs.Ytfnjhhndbgidmaa
