/- What the given row of 'FloatingPredicts' says of the program's text, looked at item by item. -/
import Derived.Test.YtcnpaheefnefoaaGreatRows
import Derived.WalkKit
import Derived.ProofKit
import Derived.OpenShut
namespace Go.Proofs.YtcnpaheefnefoaaGreat.floatingPredicts
open Go Go.ChangeShapes Go.WideShapes Go.ChangeAt Go.RowKit
theorem k01 : Rows.floatingPredictsRow.wf (OpenSpec.ofChange Rows.floatingPredictsSpec) = true := by kernel_rfl
theorem k02 : laidOutB Tryz.pinned.checked.prog = true := by kernel_rfl
theorem k03 : mapsRowed Tryz.pinned.checked.prog = true := by kernel_rfl
theorem k04 : Tryz.f5.params.all (Tryz.pinned.checked.prog.readableRec ·) = true := by kernel_rfl
theorem k05 : namedTie Tryz.pinned.checked.prog Rows.floatingPredictsRow.named Rows.floatingPredictsSpec.vars = true := by kernel_rfl
theorem k06 : (Rows.floatingPredictsRow.stops == []) = true := by kernel_rfl
theorem k07 : (Tryz.pinned.checked.prog.stops == []) = true := by kernel_rfl
theorem k08 : (Rows.floatingPredictsRow.knobs == []) = true := by kernel_rfl
theorem k09 : (Tryz.pinned.checked.prog.stopKnobs == []) = true := by kernel_rfl
theorem k10 : (Rows.floatingPredictsRow.inPlace == Tryz.pinned.checked.prog.inPlace 5) = true := by kernel_rfl
theorem k11 : (Rows.floatingPredictsRow.unfollowed == Tryz.pinned.checked.prog.unfollowed 5) = true := by kernel_rfl
theorem k12 : (Rows.floatingPredictsRow.recurses == Tryz.pinned.checked.prog.recurses 5) = true := by kernel_rfl
theorem k13 : (Rows.floatingPredictsRow.named == Tryz.pinned.checked.prog.varsNamed 5) = true := by kernel_rfl
theorem k14 : (Rows.floatingPredictsRow.maps == (Tryz.f5.params.toList ++ Rows.floatingPredictsSpec.plain.varTypes Tryz.pinned.checked.prog).any (Tryz.pinned.checked.prog.mapsRec ·)) = true := by kernel_rfl
theorem k15 : (Rows.floatingPredictsRow.ifaces == (Tryz.f5.params.toList ++ Rows.floatingPredictsSpec.plain.varTypes Tryz.pinned.checked.prog).any (Tryz.pinned.checked.prog.ifacesRec ·)) = true := by kernel_rfl
theorem k16 : (Rows.floatingPredictsRow.mapsOut == Tryz.pinned.checked.prog.mapsAmong Tryz.f5.resultTypes.toList) = true := by kernel_rfl
theorem k17 : (Rows.floatingPredictsRow.loops == (Tryz.f5.params.toList ++ Rows.floatingPredictsSpec.plain.varTypes Tryz.pinned.checked.prog).any (Tryz.pinned.checked.prog.loopsFrom ·)) = true := by kernel_rfl
theorem k18 : (Rows.floatingPredictsRow.wideKeys == (Tryz.f5.params.toList ++ Rows.floatingPredictsSpec.plain.varTypes Tryz.pinned.checked.prog ++ Tryz.f5.resultTypes.toList).any (Tryz.pinned.checked.prog.wideKeysFrom ·)) = true := by kernel_rfl
theorem k19 : Rows.floatingPredictsSpec.vars.all (Tryz.pinned.checked.prog.varReadable ·) = true := by kernel_rfl
theorem k20 : Tryz.f5.resultTypes.all (fun t => Tryz.pinned.checked.prog.readableRec t && decide (t < Tryz.pinned.checked.prog.types.size)) = true := by kernel_rfl
theorem k21 : (Rows.floatingPredictsRow.ifacesOut == Tryz.f5.resultTypes.toList.any (Tryz.pinned.checked.prog.ifacesRec ·)) = true := by kernel_rfl
theorem k22 : (Rows.floatingPredictsRow.loopsOut == Tryz.f5.resultTypes.toList.any (Tryz.pinned.checked.prog.loopsFrom ·)) = true := by kernel_rfl
theorem k23 : (Rows.floatingPredictsRow.plainKeys == Tryz.pinned.checked.prog.plainKeys) = true := by kernel_rfl
theorem k24 : Rows.floatingPredictsRow.shortTexts.isNone = true := by kernel_rfl
theorem k25 : Tryz.pinned.checked.prog.stopsHeard = true := by kernel_rfl
theorem k26 : Tryz.pinned.checked.prog.mayEnter = true := by kernel_rfl
theorem k27 : (Rows.floatingPredictsRow.lifted == Tryz.pinned.checked.prog.liftsFinal) = true := by kernel_rfl
theorem k28 : (Tryz.pinned.checked.prog.make == some Rows.floatingPredictsRow.make) = true := by kernel_rfl
theorem k30 : (Rows.floatingPredictsRow.pinned == Rows.floatingPredictsRow.pinnedBy) = true := by kernel_rfl
theorem k31 : (Rows.floatingPredictsRow.veiled == (Tryz.f5.params.toList ++ Rows.floatingPredictsSpec.plain.varTypes Tryz.pinned.checked.prog ++ Tryz.f5.resultTypes.toList).any (Tryz.pinned.checked.prog.veiledRec ·)) = true := by kernel_rfl
theorem k32 : Rows.floatingPredictsRow.veiledFits Tryz.pinned.checked.prog Tryz.f5.params.toList (Tryz.f5.params.toList ++ Rows.floatingPredictsSpec.plain.varTypes Tryz.pinned.checked.prog ++ Tryz.f5.resultTypes.toList) = true := by kernel_rfl
theorem facts : joinedFacts Tryz.pinned.checked.prog 5 Tryz.f5 Rows.floatingPredictsSpec Rows.floatingPredictsRow = true := by
  unfold joinedFacts
  simp only [Bool.and_eq_true]
  exact ⟨⟨⟨⟨⟨⟨⟨⟨⟨⟨⟨⟨⟨⟨⟨⟨⟨⟨⟨⟨⟨⟨⟨⟨⟨⟨⟨⟨⟨⟨⟨k01, k02⟩, k03⟩, k04⟩, k05⟩, k06⟩, k07⟩, k08⟩, k09⟩, k10⟩, k11⟩, k12⟩, k13⟩, k14⟩, k15⟩, k16⟩, k17⟩, k18⟩, k19⟩, k20⟩, k21⟩, k22⟩, k23⟩, k24⟩, k25⟩, k26⟩, k27⟩, k28⟩, (by kernel_rfl)⟩, k30⟩, k31⟩, k32⟩
theorem named : Tryz.pinned.checked.prog.funcNamed Rows.floatingPredictsRow.func = some 5 := by kernel_rfl
theorem inst : Tryz.f5.isInstance Tryz.pinned.checked.prog Rows.floatingPredictsRow.origin Rows.floatingPredictsRow.targs := of_decide_eq_true (by kernel_rfl)
set_option maxRecDepth 100000 in
theorem wrap : Tryz.f5.isWrapper Tryz.pinned.checked.prog Rows.floatingPredictsRow.wrapper Rows.floatingPredictsRow.mainSum := by unfold Func.isWrapper; first | (rw [if_pos (by decide +kernel)]; kernel_rfl) | (rw [if_neg (by decide +kernel)]; exact ⟨rfl, rfl⟩)
end Go.Proofs.YtcnpaheefnefoaaGreat.floatingPredicts
