/- What the given row of 'DockingJudges' says of the program's text, looked at item by item. -/
import Derived.Test.YtmfjgnchaacgnaaGreatRows
import Derived.WalkKit
import Derived.ProofKit
import Derived.OpenShut
namespace Go.Proofs.YtmfjgnchaacgnaaGreat.dockingJudges
open Go Go.ChangeShapes Go.WideShapes Go.ChangeAt Go.RowKit
theorem k01 : Rows.dockingJudgesRow.wf (OpenSpec.ofChange Rows.dockingJudgesSpec) = true := by kernel_rfl
theorem k02 : laidOutB Tryz.pinned.checked.prog = true := by kernel_rfl
theorem k03 : mapsRowed Tryz.pinned.checked.prog = true := by kernel_rfl
theorem k04 : Tryz.f14.params.all (Tryz.pinned.checked.prog.readableRec ·) = true := by kernel_rfl
theorem k05 : namedTie Tryz.pinned.checked.prog Rows.dockingJudgesRow.named Rows.dockingJudgesSpec.vars = true := by kernel_rfl
theorem k06 : (Rows.dockingJudgesRow.stops == []) = true := by kernel_rfl
theorem k07 : (Tryz.pinned.checked.prog.stops == []) = true := by kernel_rfl
theorem k08 : (Rows.dockingJudgesRow.knobs == []) = true := by kernel_rfl
theorem k09 : (Tryz.pinned.checked.prog.stopKnobs == []) = true := by kernel_rfl
theorem k10 : (Rows.dockingJudgesRow.inPlace == Tryz.pinned.checked.prog.inPlace 14) = true := by kernel_rfl
theorem k11 : (Rows.dockingJudgesRow.unfollowed == Tryz.pinned.checked.prog.unfollowed 14) = true := by kernel_rfl
theorem k12 : (Rows.dockingJudgesRow.recurses == Tryz.pinned.checked.prog.recurses 14) = true := by kernel_rfl
theorem k13 : (Rows.dockingJudgesRow.named == Tryz.pinned.checked.prog.varsNamed 14) = true := by kernel_rfl
theorem k14 : (Rows.dockingJudgesRow.maps == (Tryz.f14.params.toList ++ Rows.dockingJudgesSpec.plain.varTypes Tryz.pinned.checked.prog).any (Tryz.pinned.checked.prog.mapsRec ·)) = true := by kernel_rfl
theorem k15 : (Rows.dockingJudgesRow.ifaces == (Tryz.f14.params.toList ++ Rows.dockingJudgesSpec.plain.varTypes Tryz.pinned.checked.prog).any (Tryz.pinned.checked.prog.ifacesRec ·)) = true := by kernel_rfl
theorem k16 : (Rows.dockingJudgesRow.mapsOut == Tryz.pinned.checked.prog.mapsAmong Tryz.f14.resultTypes.toList) = true := by kernel_rfl
theorem k17 : (Rows.dockingJudgesRow.loops == (Tryz.f14.params.toList ++ Rows.dockingJudgesSpec.plain.varTypes Tryz.pinned.checked.prog).any (Tryz.pinned.checked.prog.loopsFrom ·)) = true := by kernel_rfl
theorem k18 : (Rows.dockingJudgesRow.wideKeys == (Tryz.f14.params.toList ++ Rows.dockingJudgesSpec.plain.varTypes Tryz.pinned.checked.prog ++ Tryz.f14.resultTypes.toList).any (Tryz.pinned.checked.prog.wideKeysFrom ·)) = true := by kernel_rfl
theorem k19 : Rows.dockingJudgesSpec.vars.all (Tryz.pinned.checked.prog.varReadable ·) = true := by kernel_rfl
theorem k20 : Tryz.f14.resultTypes.all (fun t => Tryz.pinned.checked.prog.readableRec t && decide (t < Tryz.pinned.checked.prog.types.size)) = true := by kernel_rfl
theorem k21 : (Rows.dockingJudgesRow.ifacesOut == Tryz.f14.resultTypes.toList.any (Tryz.pinned.checked.prog.ifacesRec ·)) = true := by kernel_rfl
theorem k22 : (Rows.dockingJudgesRow.loopsOut == Tryz.f14.resultTypes.toList.any (Tryz.pinned.checked.prog.loopsFrom ·)) = true := by kernel_rfl
theorem k23 : (Rows.dockingJudgesRow.plainKeys == Tryz.pinned.checked.prog.plainKeys) = true := by kernel_rfl
theorem k24 : Rows.dockingJudgesRow.shortTexts.isNone = true := by kernel_rfl
theorem k25 : Tryz.pinned.checked.prog.stopsHeard = true := by kernel_rfl
theorem k26 : Tryz.pinned.checked.prog.mayEnter = true := by kernel_rfl
theorem k27 : (Rows.dockingJudgesRow.lifted == Tryz.pinned.checked.prog.liftsFinal) = true := by kernel_rfl
theorem k28 : (Tryz.pinned.checked.prog.make == some Rows.dockingJudgesRow.make) = true := by kernel_rfl
theorem k30 : (Rows.dockingJudgesRow.pinned == Rows.dockingJudgesRow.pinnedBy) = true := by kernel_rfl
theorem k31 : (Rows.dockingJudgesRow.veiled == (Tryz.f14.params.toList ++ Rows.dockingJudgesSpec.plain.varTypes Tryz.pinned.checked.prog ++ Tryz.f14.resultTypes.toList).any (Tryz.pinned.checked.prog.veiledRec ·)) = true := by kernel_rfl
theorem k32 : Rows.dockingJudgesRow.veiledFits Tryz.pinned.checked.prog Tryz.f14.params.toList (Tryz.f14.params.toList ++ Rows.dockingJudgesSpec.plain.varTypes Tryz.pinned.checked.prog ++ Tryz.f14.resultTypes.toList) = true := by kernel_rfl
theorem facts : joinedFacts Tryz.pinned.checked.prog 14 Tryz.f14 Rows.dockingJudgesSpec Rows.dockingJudgesRow = true := by
  unfold joinedFacts
  simp only [Bool.and_eq_true]
  exact ⟨⟨⟨⟨⟨⟨⟨⟨⟨⟨⟨⟨⟨⟨⟨⟨⟨⟨⟨⟨⟨⟨⟨⟨⟨⟨⟨⟨⟨⟨⟨k01, k02⟩, k03⟩, k04⟩, k05⟩, k06⟩, k07⟩, k08⟩, k09⟩, k10⟩, k11⟩, k12⟩, k13⟩, k14⟩, k15⟩, k16⟩, k17⟩, k18⟩, k19⟩, k20⟩, k21⟩, k22⟩, k23⟩, k24⟩, k25⟩, k26⟩, k27⟩, k28⟩, (by kernel_rfl)⟩, k30⟩, k31⟩, k32⟩
theorem named : Tryz.pinned.checked.prog.funcNamed Rows.dockingJudgesRow.func = some 14 := by kernel_rfl
theorem inst : Tryz.f14.isInstance Tryz.pinned.checked.prog Rows.dockingJudgesRow.origin Rows.dockingJudgesRow.targs := of_decide_eq_true (by kernel_rfl)
set_option maxRecDepth 100000 in
theorem wrap : Tryz.f14.isWrapper Tryz.pinned.checked.prog Rows.dockingJudgesRow.wrapper Rows.dockingJudgesRow.mainSum := by unfold Func.isWrapper; first | (rw [if_pos (by decide +kernel)]; kernel_rfl) | (rw [if_neg (by decide +kernel)]; exact ⟨rfl, rfl⟩)
end Go.Proofs.YtmfjgnchaacgnaaGreat.dockingJudges
