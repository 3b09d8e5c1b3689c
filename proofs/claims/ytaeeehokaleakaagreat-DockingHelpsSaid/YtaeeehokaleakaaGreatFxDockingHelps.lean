/- What the given row of 'DockingHelps' says of the program's text, looked at item by item. -/
import Derived.Test.YtaeeehokaleakaaGreatRows
import Derived.WalkKit
import Derived.ProofKit
import Derived.OpenShut
namespace Go.Proofs.YtaeeehokaleakaaGreat.dockingHelps
open Go Go.ChangeShapes Go.WideShapes Go.ChangeAt Go.RowKit
theorem k01 : Rows.dockingHelpsRow.wf (OpenSpec.ofChange Rows.dockingHelpsSpec) = true := by kernel_rfl
theorem k02 : laidOutB Tryz.pinned.checked.prog = true := by kernel_rfl
theorem k03 : mapsRowed Tryz.pinned.checked.prog = true := by kernel_rfl
theorem k04 : Tryz.f7.params.all (Tryz.pinned.checked.prog.readableRec ·) = true := by kernel_rfl
theorem k05 : namedTie Tryz.pinned.checked.prog Rows.dockingHelpsRow.named Rows.dockingHelpsSpec.vars = true := by kernel_rfl
theorem k06 : (Rows.dockingHelpsRow.stops == []) = true := by kernel_rfl
theorem k07 : (Tryz.pinned.checked.prog.stops == []) = true := by kernel_rfl
theorem k08 : (Rows.dockingHelpsRow.knobs == []) = true := by kernel_rfl
theorem k09 : (Tryz.pinned.checked.prog.stopKnobs == []) = true := by kernel_rfl
theorem k10 : (Rows.dockingHelpsRow.inPlace == Tryz.pinned.checked.prog.inPlace 7) = true := by kernel_rfl
theorem k11 : (Rows.dockingHelpsRow.unfollowed == Tryz.pinned.checked.prog.unfollowed 7) = true := by kernel_rfl
theorem k12 : (Rows.dockingHelpsRow.recurses == Tryz.pinned.checked.prog.recurses 7) = true := by kernel_rfl
theorem k13 : (Rows.dockingHelpsRow.named == Tryz.pinned.checked.prog.varsNamed 7) = true := by kernel_rfl
theorem k14 : (Rows.dockingHelpsRow.maps == (Tryz.f7.params.toList ++ Rows.dockingHelpsSpec.plain.varTypes Tryz.pinned.checked.prog).any (Tryz.pinned.checked.prog.mapsRec ·)) = true := by kernel_rfl
theorem k15 : (Rows.dockingHelpsRow.ifaces == (Tryz.f7.params.toList ++ Rows.dockingHelpsSpec.plain.varTypes Tryz.pinned.checked.prog).any (Tryz.pinned.checked.prog.ifacesRec ·)) = true := by kernel_rfl
theorem k16 : (Rows.dockingHelpsRow.mapsOut == Tryz.pinned.checked.prog.mapsAmong Tryz.f7.resultTypes.toList) = true := by kernel_rfl
theorem k17 : (Rows.dockingHelpsRow.loops == (Tryz.f7.params.toList ++ Rows.dockingHelpsSpec.plain.varTypes Tryz.pinned.checked.prog).any (Tryz.pinned.checked.prog.loopsFrom ·)) = true := by kernel_rfl
theorem k18 : (Rows.dockingHelpsRow.wideKeys == (Tryz.f7.params.toList ++ Rows.dockingHelpsSpec.plain.varTypes Tryz.pinned.checked.prog ++ Tryz.f7.resultTypes.toList).any (Tryz.pinned.checked.prog.wideKeysFrom ·)) = true := by kernel_rfl
theorem k19 : Rows.dockingHelpsSpec.vars.all (Tryz.pinned.checked.prog.varReadable ·) = true := by kernel_rfl
theorem k20 : Tryz.f7.resultTypes.all (fun t => Tryz.pinned.checked.prog.readableRec t && decide (t < Tryz.pinned.checked.prog.types.size)) = true := by kernel_rfl
theorem k21 : (Rows.dockingHelpsRow.ifacesOut == Tryz.f7.resultTypes.toList.any (Tryz.pinned.checked.prog.ifacesRec ·)) = true := by kernel_rfl
theorem k22 : (Rows.dockingHelpsRow.loopsOut == Tryz.f7.resultTypes.toList.any (Tryz.pinned.checked.prog.loopsFrom ·)) = true := by kernel_rfl
theorem k23 : (Rows.dockingHelpsRow.plainKeys == Tryz.pinned.checked.prog.plainKeys) = true := by kernel_rfl
theorem k24 : Rows.dockingHelpsRow.shortTexts.isNone = true := by kernel_rfl
theorem k25 : Tryz.pinned.checked.prog.stopsHeard = true := by kernel_rfl
theorem k26 : Tryz.pinned.checked.prog.mayEnter = true := by kernel_rfl
theorem k27 : (Rows.dockingHelpsRow.lifted == Tryz.pinned.checked.prog.liftsFinal) = true := by kernel_rfl
theorem k28 : (Tryz.pinned.checked.prog.make == some Rows.dockingHelpsRow.make) = true := by kernel_rfl
theorem k30 : (Rows.dockingHelpsRow.pinned == Rows.dockingHelpsRow.pinnedBy) = true := by kernel_rfl
theorem k31 : (Rows.dockingHelpsRow.veiled == (Tryz.f7.params.toList ++ Rows.dockingHelpsSpec.plain.varTypes Tryz.pinned.checked.prog ++ Tryz.f7.resultTypes.toList).any (Tryz.pinned.checked.prog.veiledRec ·)) = true := by kernel_rfl
theorem k32 : Rows.dockingHelpsRow.veiledFits Tryz.pinned.checked.prog Tryz.f7.params.toList (Tryz.f7.params.toList ++ Rows.dockingHelpsSpec.plain.varTypes Tryz.pinned.checked.prog ++ Tryz.f7.resultTypes.toList) = true := by kernel_rfl
theorem facts : joinedFacts Tryz.pinned.checked.prog 7 Tryz.f7 Rows.dockingHelpsSpec Rows.dockingHelpsRow = true := by
  unfold joinedFacts
  simp only [Bool.and_eq_true]
  exact ⟨⟨⟨⟨⟨⟨⟨⟨⟨⟨⟨⟨⟨⟨⟨⟨⟨⟨⟨⟨⟨⟨⟨⟨⟨⟨⟨⟨⟨⟨⟨k01, k02⟩, k03⟩, k04⟩, k05⟩, k06⟩, k07⟩, k08⟩, k09⟩, k10⟩, k11⟩, k12⟩, k13⟩, k14⟩, k15⟩, k16⟩, k17⟩, k18⟩, k19⟩, k20⟩, k21⟩, k22⟩, k23⟩, k24⟩, k25⟩, k26⟩, k27⟩, k28⟩, (by kernel_rfl)⟩, k30⟩, k31⟩, k32⟩
theorem named : Tryz.pinned.checked.prog.funcNamed Rows.dockingHelpsRow.func = some 7 := by kernel_rfl
theorem inst : Tryz.f7.isInstance Tryz.pinned.checked.prog Rows.dockingHelpsRow.origin Rows.dockingHelpsRow.targs := of_decide_eq_true (by kernel_rfl)
set_option maxRecDepth 100000 in
theorem wrap : Tryz.f7.isWrapper Tryz.pinned.checked.prog Rows.dockingHelpsRow.wrapper Rows.dockingHelpsRow.mainSum := by unfold Func.isWrapper; first | (rw [if_pos (by decide +kernel)]; kernel_rfl) | (rw [if_neg (by decide +kernel)]; exact ⟨rfl, rfl⟩)
end Go.Proofs.YtaeeehokaleakaaGreat.dockingHelps
