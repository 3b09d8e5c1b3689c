/- The failures at a water level and the overhangs are those of the reference, or the errors are: the law returns true for every input and leaves it as it was; no condition. -/
import Derived.Test.YtmfjgnchaacgnaaGreatXi1
import Derived.Test.YtmfjgnchaacgnaaGreatRows
import Derived.WalkKit
import Derived.ProofKit
import Derived.OpenShut
import Derived.Test.YtmfjgnchaacgnaaGreatFxDockingFailures
namespace Go.Proofs.YtmfjgnchaacgnaaGreat.dockingFailures
open Go.ChangeShapes Go.WideShapes Go.ChangeAt Go.RowKit Go.Pv

theorem own : ownKnob Tryz.prog.godebug = none := by kernel_rfl
theorem laid : laidOutB Tryz.prog = true := by kernel_rfl

theorem law (pargs : List PV) (hl : pargs.length = 2) (h : ∀ (i : Nat) t c, ([31, 42] : List TypeId)[i]? = some t → pargs[i]? = some c → argW lay.get t c) : Ret Tryz.prog .shared 12 pargs (.bool true) := by
  match pargs, hl with
  | [c0, c1], _ =>
    have h0 := h 0 31 c0 rfl rfl
    have h1 := h 1 42 c1 rfl rfl
    obtain ⟨d, rfl, hd⟩ := dkD0 h0
    obtain ⟨lv, rfl⟩ := dec_RR h1
    exact failures_law d hd lv

set_option maxRecDepth 100000 in
theorem lifted (os : Os) (started : os.Started) (H : Type) (enc : TypeId × Value → H) :
    ReturnsInHanded {} Tryz.checked os 12 .any (Rows.dockingFailuresSpec.pre6 enc Tryz.prog Tryz.f12 Rows.dockingFailuresRow.domain false) (Rows.dockingFailuresSpec.post enc Tryz.prog Tryz.f12 false true false false) := by
  refine returnsInHanded_of_change (C := Tryz.checked) own started (by kernel_rfl) Tryz.func12
    (ChangeSpec.witness6 (enc := enc) (C := Tryz.checked) false ⟨#[], #[.agg #[.string ⟨#[]⟩, .int .i64 0, .slice none 0 0, .string ⟨#[]⟩, .int .i64 0, .int .i64 0, .int .i64 0, .int .i64 0, .slice none 0 0, .int .i64 0, .slice none 0 0, .slice none 0 0, .int .i64 0, .int .i64 0], .agg #[.bool false, .slice none 0 0, .bool false, .slice none 0 0]], []⟩ 8 (by kernel_rfl) (by kernel_rfl) (by kernel_rfl) (by kernel_rfl)) ?_
  intro W base args ds gs before hval hW hcnd _
  exact law_stepW layOk laid (f := 12) (fn := Tryz.f12) (ts := [31, 42]) (T := Tryz.f12.resultTypes[0]!) rfl rfl (by decide +kernel) (by decide +kernel) rfl (by kernel_rfl)
    (fun ds hd => match ds, hd with | [d0, d1], _ => ⟨rfl, rfl, rfl⟩) law hval trivial hW

theorem over : Rows.dockingFailuresRow.holds Tryz.pinned (OpenSpec.ofChange Rows.dockingFailuresSpec) :=
  OpenClaim.holds_of_wide 12 Tryz.f12 rfl rfl rfl rfl rfl rfl rfl ⟨rfl, rfl, rfl, rfl, rfl⟩ rfl rfl rfl rfl rfl named Tryz.func12 facts inst wrap
    (fun os started H enc _ => lifted os started H enc)

theorem proved : Rows.DockingFailuresSaid := over
#print axioms proved
end Go.Proofs.YtmfjgnchaacgnaaGreat.dockingFailures
