/- What the given row of 'TopArchimedes' says of the program's text, looked at item by item. -/
import Derived.Test.YtaeeehokaleakaaGreatRows
import Derived.WalkKit
import Derived.ProofKit
import Derived.OpenShut
namespace Go.Proofs.YtaeeehokaleakaaGreat.topArchimedes
open Go Go.ChangeShapes Go.WideShapes Go.ChangeAt Go.RowKit
theorem k01 : Rows.topArchimedesRow.wf (OpenSpec.ofChange Rows.topArchimedesSpec) = true := by kernel_rfl
theorem k02 : laidOutB Tryz.pinned.checked.prog = true := by kernel_rfl
theorem k03 : mapsRowed Tryz.pinned.checked.prog = true := by kernel_rfl
theorem k04 : Tryz.f3.params.all (Tryz.pinned.checked.prog.readableRec ·) = true := by kernel_rfl
theorem k05 : namedTie Tryz.pinned.checked.prog Rows.topArchimedesRow.named Rows.topArchimedesSpec.vars = true := by kernel_rfl
theorem k06 : (Rows.topArchimedesRow.stops == []) = true := by kernel_rfl
theorem k07 : (Tryz.pinned.checked.prog.stops == []) = true := by kernel_rfl
theorem k08 : (Rows.topArchimedesRow.knobs == []) = true := by kernel_rfl
theorem k09 : (Tryz.pinned.checked.prog.stopKnobs == []) = true := by kernel_rfl
theorem k10 : (Rows.topArchimedesRow.inPlace == Tryz.pinned.checked.prog.inPlace 3) = true := by kernel_rfl
theorem k11 : (Rows.topArchimedesRow.unfollowed == Tryz.pinned.checked.prog.unfollowed 3) = true := by kernel_rfl
theorem k12 : (Rows.topArchimedesRow.recurses == Tryz.pinned.checked.prog.recurses 3) = true := by kernel_rfl
theorem k13 : (Rows.topArchimedesRow.named == Tryz.pinned.checked.prog.varsNamed 3) = true := by kernel_rfl
theorem k14 : (Rows.topArchimedesRow.maps == (Tryz.f3.params.toList ++ Rows.topArchimedesSpec.plain.varTypes Tryz.pinned.checked.prog).any (Tryz.pinned.checked.prog.mapsRec ·)) = true := by kernel_rfl
theorem k15 : (Rows.topArchimedesRow.ifaces == (Tryz.f3.params.toList ++ Rows.topArchimedesSpec.plain.varTypes Tryz.pinned.checked.prog).any (Tryz.pinned.checked.prog.ifacesRec ·)) = true := by kernel_rfl
theorem k16 : (Rows.topArchimedesRow.mapsOut == Tryz.pinned.checked.prog.mapsAmong Tryz.f3.resultTypes.toList) = true := by kernel_rfl
theorem k17 : (Rows.topArchimedesRow.loops == (Tryz.f3.params.toList ++ Rows.topArchimedesSpec.plain.varTypes Tryz.pinned.checked.prog).any (Tryz.pinned.checked.prog.loopsFrom ·)) = true := by kernel_rfl
theorem k18 : (Rows.topArchimedesRow.wideKeys == (Tryz.f3.params.toList ++ Rows.topArchimedesSpec.plain.varTypes Tryz.pinned.checked.prog ++ Tryz.f3.resultTypes.toList).any (Tryz.pinned.checked.prog.wideKeysFrom ·)) = true := by kernel_rfl
theorem k19 : Rows.topArchimedesSpec.vars.all (Tryz.pinned.checked.prog.varReadable ·) = true := by kernel_rfl
theorem k20 : Tryz.f3.resultTypes.all (fun t => Tryz.pinned.checked.prog.readableRec t && decide (t < Tryz.pinned.checked.prog.types.size)) = true := by kernel_rfl
theorem k21 : (Rows.topArchimedesRow.ifacesOut == Tryz.f3.resultTypes.toList.any (Tryz.pinned.checked.prog.ifacesRec ·)) = true := by kernel_rfl
theorem k22 : (Rows.topArchimedesRow.loopsOut == Tryz.f3.resultTypes.toList.any (Tryz.pinned.checked.prog.loopsFrom ·)) = true := by kernel_rfl
theorem k23 : (Rows.topArchimedesRow.plainKeys == Tryz.pinned.checked.prog.plainKeys) = true := by kernel_rfl
theorem k24 : Rows.topArchimedesRow.shortTexts.isNone = true := by kernel_rfl
theorem k25 : Tryz.pinned.checked.prog.stopsHeard = true := by kernel_rfl
theorem k26 : Tryz.pinned.checked.prog.mayEnter = true := by kernel_rfl
theorem k27 : (Rows.topArchimedesRow.lifted == Tryz.pinned.checked.prog.liftsFinal) = true := by kernel_rfl
theorem k28 : (Tryz.pinned.checked.prog.make == some Rows.topArchimedesRow.make) = true := by kernel_rfl
theorem k30 : (Rows.topArchimedesRow.pinned == Rows.topArchimedesRow.pinnedBy) = true := by kernel_rfl
theorem k31 : (Rows.topArchimedesRow.veiled == (Tryz.f3.params.toList ++ Rows.topArchimedesSpec.plain.varTypes Tryz.pinned.checked.prog ++ Tryz.f3.resultTypes.toList).any (Tryz.pinned.checked.prog.veiledRec ·)) = true := by kernel_rfl
theorem k32 : Rows.topArchimedesRow.veiledFits Tryz.pinned.checked.prog Tryz.f3.params.toList (Tryz.f3.params.toList ++ Rows.topArchimedesSpec.plain.varTypes Tryz.pinned.checked.prog ++ Tryz.f3.resultTypes.toList) = true := by kernel_rfl
theorem facts : joinedFacts Tryz.pinned.checked.prog 3 Tryz.f3 Rows.topArchimedesSpec Rows.topArchimedesRow = true := by
  unfold joinedFacts
  simp only [Bool.and_eq_true]
  exact ⟨⟨⟨⟨⟨⟨⟨⟨⟨⟨⟨⟨⟨⟨⟨⟨⟨⟨⟨⟨⟨⟨⟨⟨⟨⟨⟨⟨⟨⟨⟨k01, k02⟩, k03⟩, k04⟩, k05⟩, k06⟩, k07⟩, k08⟩, k09⟩, k10⟩, k11⟩, k12⟩, k13⟩, k14⟩, k15⟩, k16⟩, k17⟩, k18⟩, k19⟩, k20⟩, k21⟩, k22⟩, k23⟩, k24⟩, k25⟩, k26⟩, k27⟩, k28⟩, (by kernel_rfl)⟩, k30⟩, k31⟩, k32⟩
theorem named : Tryz.pinned.checked.prog.funcNamed Rows.topArchimedesRow.func = some 3 := by kernel_rfl
theorem inst : Tryz.f3.isInstance Tryz.pinned.checked.prog Rows.topArchimedesRow.origin Rows.topArchimedesRow.targs := of_decide_eq_true (by kernel_rfl)
set_option maxRecDepth 100000 in
theorem wrap : Tryz.f3.isWrapper Tryz.pinned.checked.prog Rows.topArchimedesRow.wrapper Rows.topArchimedesRow.mainSum := by unfold Func.isWrapper; first | (rw [if_pos (by decide +kernel)]; kernel_rfl) | (rw [if_neg (by decide +kernel)]; exact ⟨rfl, rfl⟩)
end Go.Proofs.YtaeeehokaleakaaGreat.topArchimedes
