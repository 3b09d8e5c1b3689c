/- What the given row of 'TopUpthrustGrows' says of the program's text, looked at item by item. -/
import Derived.Test.YtaeeehokaleakaaGreatRows
import Derived.WalkKit
import Derived.ProofKit
import Derived.OpenShut
namespace Go.Proofs.YtaeeehokaleakaaGreat.topUpthrustGrows
open Go Go.ChangeShapes Go.WideShapes Go.ChangeAt Go.RowKit
theorem k01 : Rows.topUpthrustGrowsRow.wf (OpenSpec.ofChange Rows.topUpthrustGrowsSpec) = true := by kernel_rfl
theorem k02 : laidOutB Tryz.pinned.checked.prog = true := by kernel_rfl
theorem k03 : mapsRowed Tryz.pinned.checked.prog = true := by kernel_rfl
theorem k04 : Tryz.f4.params.all (Tryz.pinned.checked.prog.readableRec ·) = true := by kernel_rfl
theorem k05 : namedTie Tryz.pinned.checked.prog Rows.topUpthrustGrowsRow.named Rows.topUpthrustGrowsSpec.vars = true := by kernel_rfl
theorem k06 : (Rows.topUpthrustGrowsRow.stops == []) = true := by kernel_rfl
theorem k07 : (Tryz.pinned.checked.prog.stops == []) = true := by kernel_rfl
theorem k08 : (Rows.topUpthrustGrowsRow.knobs == []) = true := by kernel_rfl
theorem k09 : (Tryz.pinned.checked.prog.stopKnobs == []) = true := by kernel_rfl
theorem k10 : (Rows.topUpthrustGrowsRow.inPlace == Tryz.pinned.checked.prog.inPlace 4) = true := by kernel_rfl
theorem k11 : (Rows.topUpthrustGrowsRow.unfollowed == Tryz.pinned.checked.prog.unfollowed 4) = true := by kernel_rfl
theorem k12 : (Rows.topUpthrustGrowsRow.recurses == Tryz.pinned.checked.prog.recurses 4) = true := by kernel_rfl
theorem k13 : (Rows.topUpthrustGrowsRow.named == Tryz.pinned.checked.prog.varsNamed 4) = true := by kernel_rfl
theorem k14 : (Rows.topUpthrustGrowsRow.maps == (Tryz.f4.params.toList ++ Rows.topUpthrustGrowsSpec.plain.varTypes Tryz.pinned.checked.prog).any (Tryz.pinned.checked.prog.mapsRec ·)) = true := by kernel_rfl
theorem k15 : (Rows.topUpthrustGrowsRow.ifaces == (Tryz.f4.params.toList ++ Rows.topUpthrustGrowsSpec.plain.varTypes Tryz.pinned.checked.prog).any (Tryz.pinned.checked.prog.ifacesRec ·)) = true := by kernel_rfl
theorem k16 : (Rows.topUpthrustGrowsRow.mapsOut == Tryz.pinned.checked.prog.mapsAmong Tryz.f4.resultTypes.toList) = true := by kernel_rfl
theorem k17 : (Rows.topUpthrustGrowsRow.loops == (Tryz.f4.params.toList ++ Rows.topUpthrustGrowsSpec.plain.varTypes Tryz.pinned.checked.prog).any (Tryz.pinned.checked.prog.loopsFrom ·)) = true := by kernel_rfl
theorem k18 : (Rows.topUpthrustGrowsRow.wideKeys == (Tryz.f4.params.toList ++ Rows.topUpthrustGrowsSpec.plain.varTypes Tryz.pinned.checked.prog ++ Tryz.f4.resultTypes.toList).any (Tryz.pinned.checked.prog.wideKeysFrom ·)) = true := by kernel_rfl
theorem k19 : Rows.topUpthrustGrowsSpec.vars.all (Tryz.pinned.checked.prog.varReadable ·) = true := by kernel_rfl
theorem k20 : Tryz.f4.resultTypes.all (fun t => Tryz.pinned.checked.prog.readableRec t && decide (t < Tryz.pinned.checked.prog.types.size)) = true := by kernel_rfl
theorem k21 : (Rows.topUpthrustGrowsRow.ifacesOut == Tryz.f4.resultTypes.toList.any (Tryz.pinned.checked.prog.ifacesRec ·)) = true := by kernel_rfl
theorem k22 : (Rows.topUpthrustGrowsRow.loopsOut == Tryz.f4.resultTypes.toList.any (Tryz.pinned.checked.prog.loopsFrom ·)) = true := by kernel_rfl
theorem k23 : (Rows.topUpthrustGrowsRow.plainKeys == Tryz.pinned.checked.prog.plainKeys) = true := by kernel_rfl
theorem k24 : Rows.topUpthrustGrowsRow.shortTexts.isNone = true := by kernel_rfl
theorem k25 : Tryz.pinned.checked.prog.stopsHeard = true := by kernel_rfl
theorem k26 : Tryz.pinned.checked.prog.mayEnter = true := by kernel_rfl
theorem k27 : (Rows.topUpthrustGrowsRow.lifted == Tryz.pinned.checked.prog.liftsFinal) = true := by kernel_rfl
theorem k28 : (Tryz.pinned.checked.prog.make == some Rows.topUpthrustGrowsRow.make) = true := by kernel_rfl
theorem k30 : (Rows.topUpthrustGrowsRow.pinned == Rows.topUpthrustGrowsRow.pinnedBy) = true := by kernel_rfl
theorem k31 : (Rows.topUpthrustGrowsRow.veiled == (Tryz.f4.params.toList ++ Rows.topUpthrustGrowsSpec.plain.varTypes Tryz.pinned.checked.prog ++ Tryz.f4.resultTypes.toList).any (Tryz.pinned.checked.prog.veiledRec ·)) = true := by kernel_rfl
theorem k32 : Rows.topUpthrustGrowsRow.veiledFits Tryz.pinned.checked.prog Tryz.f4.params.toList (Tryz.f4.params.toList ++ Rows.topUpthrustGrowsSpec.plain.varTypes Tryz.pinned.checked.prog ++ Tryz.f4.resultTypes.toList) = true := by kernel_rfl
theorem facts : joinedFacts Tryz.pinned.checked.prog 4 Tryz.f4 Rows.topUpthrustGrowsSpec Rows.topUpthrustGrowsRow = true := by
  unfold joinedFacts
  simp only [Bool.and_eq_true]
  exact ⟨⟨⟨⟨⟨⟨⟨⟨⟨⟨⟨⟨⟨⟨⟨⟨⟨⟨⟨⟨⟨⟨⟨⟨⟨⟨⟨⟨⟨⟨⟨k01, k02⟩, k03⟩, k04⟩, k05⟩, k06⟩, k07⟩, k08⟩, k09⟩, k10⟩, k11⟩, k12⟩, k13⟩, k14⟩, k15⟩, k16⟩, k17⟩, k18⟩, k19⟩, k20⟩, k21⟩, k22⟩, k23⟩, k24⟩, k25⟩, k26⟩, k27⟩, k28⟩, (by kernel_rfl)⟩, k30⟩, k31⟩, k32⟩
theorem named : Tryz.pinned.checked.prog.funcNamed Rows.topUpthrustGrowsRow.func = some 4 := by kernel_rfl
theorem inst : Tryz.f4.isInstance Tryz.pinned.checked.prog Rows.topUpthrustGrowsRow.origin Rows.topUpthrustGrowsRow.targs := of_decide_eq_true (by kernel_rfl)
set_option maxRecDepth 100000 in
theorem wrap : Tryz.f4.isWrapper Tryz.pinned.checked.prog Rows.topUpthrustGrowsRow.wrapper Rows.topUpthrustGrowsRow.mainSum := by unfold Func.isWrapper; first | (rw [if_pos (by decide +kernel)]; kernel_rfl) | (rw [if_neg (by decide +kernel)]; exact ⟨rfl, rfl⟩)
end Go.Proofs.YtaeeehokaleakaaGreat.topUpthrustGrows
