/- What the given row of 'DockingFailures' says of the program's text, looked at item by item. -/
import Derived.Test.YtmfjgnchaacgnaaGreatRows
import Derived.WalkKit
import Derived.ProofKit
import Derived.OpenShut
namespace Go.Proofs.YtmfjgnchaacgnaaGreat.dockingFailures
open Go Go.ChangeShapes Go.WideShapes Go.ChangeAt Go.RowKit
theorem k01 : Rows.dockingFailuresRow.wf (OpenSpec.ofChange Rows.dockingFailuresSpec) = true := by kernel_rfl
theorem k02 : laidOutB Tryz.pinned.checked.prog = true := by kernel_rfl
theorem k03 : mapsRowed Tryz.pinned.checked.prog = true := by kernel_rfl
theorem k04 : Tryz.f12.params.all (Tryz.pinned.checked.prog.readableRec ·) = true := by kernel_rfl
theorem k05 : namedTie Tryz.pinned.checked.prog Rows.dockingFailuresRow.named Rows.dockingFailuresSpec.vars = true := by kernel_rfl
theorem k06 : (Rows.dockingFailuresRow.stops == []) = true := by kernel_rfl
theorem k07 : (Tryz.pinned.checked.prog.stops == []) = true := by kernel_rfl
theorem k08 : (Rows.dockingFailuresRow.knobs == []) = true := by kernel_rfl
theorem k09 : (Tryz.pinned.checked.prog.stopKnobs == []) = true := by kernel_rfl
theorem k10 : (Rows.dockingFailuresRow.inPlace == Tryz.pinned.checked.prog.inPlace 12) = true := by kernel_rfl
theorem k11 : (Rows.dockingFailuresRow.unfollowed == Tryz.pinned.checked.prog.unfollowed 12) = true := by kernel_rfl
theorem k12 : (Rows.dockingFailuresRow.recurses == Tryz.pinned.checked.prog.recurses 12) = true := by kernel_rfl
theorem k13 : (Rows.dockingFailuresRow.named == Tryz.pinned.checked.prog.varsNamed 12) = true := by kernel_rfl
theorem k14 : (Rows.dockingFailuresRow.maps == (Tryz.f12.params.toList ++ Rows.dockingFailuresSpec.plain.varTypes Tryz.pinned.checked.prog).any (Tryz.pinned.checked.prog.mapsRec ·)) = true := by kernel_rfl
theorem k15 : (Rows.dockingFailuresRow.ifaces == (Tryz.f12.params.toList ++ Rows.dockingFailuresSpec.plain.varTypes Tryz.pinned.checked.prog).any (Tryz.pinned.checked.prog.ifacesRec ·)) = true := by kernel_rfl
theorem k16 : (Rows.dockingFailuresRow.mapsOut == Tryz.pinned.checked.prog.mapsAmong Tryz.f12.resultTypes.toList) = true := by kernel_rfl
theorem k17 : (Rows.dockingFailuresRow.loops == (Tryz.f12.params.toList ++ Rows.dockingFailuresSpec.plain.varTypes Tryz.pinned.checked.prog).any (Tryz.pinned.checked.prog.loopsFrom ·)) = true := by kernel_rfl
theorem k18 : (Rows.dockingFailuresRow.wideKeys == (Tryz.f12.params.toList ++ Rows.dockingFailuresSpec.plain.varTypes Tryz.pinned.checked.prog ++ Tryz.f12.resultTypes.toList).any (Tryz.pinned.checked.prog.wideKeysFrom ·)) = true := by kernel_rfl
theorem k19 : Rows.dockingFailuresSpec.vars.all (Tryz.pinned.checked.prog.varReadable ·) = true := by kernel_rfl
theorem k20 : Tryz.f12.resultTypes.all (fun t => Tryz.pinned.checked.prog.readableRec t && decide (t < Tryz.pinned.checked.prog.types.size)) = true := by kernel_rfl
theorem k21 : (Rows.dockingFailuresRow.ifacesOut == Tryz.f12.resultTypes.toList.any (Tryz.pinned.checked.prog.ifacesRec ·)) = true := by kernel_rfl
theorem k22 : (Rows.dockingFailuresRow.loopsOut == Tryz.f12.resultTypes.toList.any (Tryz.pinned.checked.prog.loopsFrom ·)) = true := by kernel_rfl
theorem k23 : (Rows.dockingFailuresRow.plainKeys == Tryz.pinned.checked.prog.plainKeys) = true := by kernel_rfl
theorem k24 : Rows.dockingFailuresRow.shortTexts.isNone = true := by kernel_rfl
theorem k25 : Tryz.pinned.checked.prog.stopsHeard = true := by kernel_rfl
theorem k26 : Tryz.pinned.checked.prog.mayEnter = true := by kernel_rfl
theorem k27 : (Rows.dockingFailuresRow.lifted == Tryz.pinned.checked.prog.liftsFinal) = true := by kernel_rfl
theorem k28 : (Tryz.pinned.checked.prog.make == some Rows.dockingFailuresRow.make) = true := by kernel_rfl
theorem k30 : (Rows.dockingFailuresRow.pinned == Rows.dockingFailuresRow.pinnedBy) = true := by kernel_rfl
theorem k31 : (Rows.dockingFailuresRow.veiled == (Tryz.f12.params.toList ++ Rows.dockingFailuresSpec.plain.varTypes Tryz.pinned.checked.prog ++ Tryz.f12.resultTypes.toList).any (Tryz.pinned.checked.prog.veiledRec ·)) = true := by kernel_rfl
theorem k32 : Rows.dockingFailuresRow.veiledFits Tryz.pinned.checked.prog Tryz.f12.params.toList (Tryz.f12.params.toList ++ Rows.dockingFailuresSpec.plain.varTypes Tryz.pinned.checked.prog ++ Tryz.f12.resultTypes.toList) = true := by kernel_rfl
theorem facts : joinedFacts Tryz.pinned.checked.prog 12 Tryz.f12 Rows.dockingFailuresSpec Rows.dockingFailuresRow = true := by
  unfold joinedFacts
  simp only [Bool.and_eq_true]
  exact ⟨⟨⟨⟨⟨⟨⟨⟨⟨⟨⟨⟨⟨⟨⟨⟨⟨⟨⟨⟨⟨⟨⟨⟨⟨⟨⟨⟨⟨⟨⟨k01, k02⟩, k03⟩, k04⟩, k05⟩, k06⟩, k07⟩, k08⟩, k09⟩, k10⟩, k11⟩, k12⟩, k13⟩, k14⟩, k15⟩, k16⟩, k17⟩, k18⟩, k19⟩, k20⟩, k21⟩, k22⟩, k23⟩, k24⟩, k25⟩, k26⟩, k27⟩, k28⟩, (by kernel_rfl)⟩, k30⟩, k31⟩, k32⟩
theorem named : Tryz.pinned.checked.prog.funcNamed Rows.dockingFailuresRow.func = some 12 := by kernel_rfl
theorem inst : Tryz.f12.isInstance Tryz.pinned.checked.prog Rows.dockingFailuresRow.origin Rows.dockingFailuresRow.targs := of_decide_eq_true (by kernel_rfl)
set_option maxRecDepth 100000 in
theorem wrap : Tryz.f12.isWrapper Tryz.pinned.checked.prog Rows.dockingFailuresRow.wrapper Rows.dockingFailuresRow.mainSum := by unfold Func.isWrapper; first | (rw [if_pos (by decide +kernel)]; kernel_rfl) | (rw [if_neg (by decide +kernel)]; exact ⟨rfl, rfl⟩)
end Go.Proofs.YtmfjgnchaacgnaaGreat.dockingFailures
