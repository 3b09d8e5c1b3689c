/- Whether a docking is valid is as specified: the law returns true for every input and leaves it as it was; no condition. -/
import Derived.Test.YtmfjgnchaacgnaaGreatXc1
import Derived.Test.YtmfjgnchaacgnaaGreatRows
import Derived.WalkKit
import Derived.ProofKit
import Derived.OpenShut
import Derived.Test.YtmfjgnchaacgnaaGreatFxDockingChecks
namespace Go.Proofs.YtmfjgnchaacgnaaGreat.dockingChecks
open Go.ChangeShapes Go.WideShapes Go.ChangeAt Go.RowKit Go.Pv

theorem own : ownKnob Tryz.prog.godebug = none := by kernel_rfl
theorem laid : laidOutB Tryz.prog = true := by kernel_rfl

theorem law (pargs : List PV) (hl : pargs.length = 1) (h : ∀ (i : Nat) t c, ([31] : List TypeId)[i]? = some t → pargs[i]? = some c → argW lay.get t c) : Ret Tryz.prog .shared 3 pargs (.bool true) := by
  match pargs, hl with
  | [c0], _ =>
    have h0 := h 0 31 c0 rfl rfl
    obtain ⟨d, rfl, hd⟩ := dkD0 h0
    exact checks4_law d hd

set_option maxRecDepth 100000 in
theorem lifted (os : Os) (started : os.Started) (H : Type) (enc : TypeId × Value → H) :
    ReturnsInHanded {} Tryz.checked os 3 .any (Rows.dockingChecksSpec.pre6 enc Tryz.prog Tryz.f3 Rows.dockingChecksRow.domain false) (Rows.dockingChecksSpec.post enc Tryz.prog Tryz.f3 false true false false) := by
  refine returnsInHanded_of_change (C := Tryz.checked) own started (by kernel_rfl) Tryz.func3
    (ChangeSpec.witness6 (enc := enc) (C := Tryz.checked) false ⟨#[], #[.agg #[.string ⟨#[]⟩, .int .i64 0, .slice none 0 0, .string ⟨#[]⟩, .int .i64 0, .int .i64 0, .int .i64 0, .int .i64 0, .slice none 0 0, .int .i64 0, .slice none 0 0, .slice none 0 0, .int .i64 0, .int .i64 0]], []⟩ 8 (by kernel_rfl) (by kernel_rfl) (by kernel_rfl) (by kernel_rfl)) ?_
  intro W base args ds gs before hval hW hcnd _
  exact law_stepW layOk laid (f := 3) (fn := Tryz.f3) (ts := [31]) (T := Tryz.f3.resultTypes[0]!) rfl rfl (by decide +kernel) (by decide +kernel) rfl (by kernel_rfl)
    (fun ds hd => match ds, hd with | [d0], _ => ⟨rfl, rfl, rfl⟩) law hval trivial hW

theorem over : Rows.dockingChecksRow.holds Tryz.pinned (OpenSpec.ofChange Rows.dockingChecksSpec) :=
  OpenClaim.holds_of_wide 3 Tryz.f3 rfl rfl rfl rfl rfl rfl rfl ⟨rfl, rfl, rfl, rfl, rfl⟩ rfl rfl rfl rfl rfl named Tryz.func3 facts inst wrap
    (fun os started H enc _ => lifted os started H enc)

theorem proved : Rows.DockingChecksSaid := over
#print axioms proved
end Go.Proofs.YtmfjgnchaacgnaaGreat.dockingChecks
