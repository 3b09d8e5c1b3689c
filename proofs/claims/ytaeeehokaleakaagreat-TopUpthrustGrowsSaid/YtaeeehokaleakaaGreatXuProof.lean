/- The upthrust grows as the water falls: along a course the loads and the buoyancy together are the mass of the ship, a lower level has not less upthrust, a ship that is afloat has none, and the course backwards has the same standings: the law returns true for every input and leaves it as it was; no condition. -/
import Derived.Test.YtaeeehokaleakaaGreatXu1
import Derived.Test.YtaeeehokaleakaaGreatRows
import Derived.WalkKit
import Derived.ProofKit
import Derived.OpenShut
import Derived.Test.YtaeeehokaleakaaGreatFxTopUpthrustGrows
namespace Go.Proofs.YtaeeehokaleakaaGreat.topUpthrustGrows
open Go.ChangeShapes Go.WideShapes Go.ChangeAt Go.RowKit Go.Pv

theorem own : ownKnob Tryz.prog.godebug = none := by kernel_rfl
theorem laid : laidOutB Tryz.prog = true := by kernel_rfl

theorem law (pargs : List PV) (hl : pargs.length = 2) (h : ∀ (i : Nat) t c, ([56, 57] : List TypeId)[i]? = some t → pargs[i]? = some c → argW lay.get t c) : Ret Tryz.prog .shared 4 pargs (.bool true) := by
  match pargs, hl with
  | [c0, c1], _ =>
    have h0 := h 0 56 c0 rfl rfl
    have h1 := h 1 57 c1 rfl rfl
    obtain ⟨d, rfl, hd⟩ := dkD0 h0
    obtain ⟨l, rfl, hc⟩ := dec_Cr h1
    exact upthrust_law d hd l hc

set_option maxRecDepth 100000 in
theorem lifted (os : Os) (started : os.Started) (H : Type) (enc : TypeId × Value → H) :
    ReturnsInHanded {} Tryz.checked os 4 .any (Rows.topUpthrustGrowsSpec.pre6 enc Tryz.prog Tryz.f4 Rows.topUpthrustGrowsRow.domain false) (Rows.topUpthrustGrowsSpec.post enc Tryz.prog Tryz.f4 false true false false) := by
  refine returnsInHanded_of_change (C := Tryz.checked) own started (by kernel_rfl) Tryz.func4
    (ChangeSpec.witness6 (enc := enc) (C := Tryz.checked) false ⟨#[], #[.agg #[.string ⟨#[]⟩, .int .i64 0, .slice none 0 0, .string ⟨#[]⟩, .int .i64 0, .int .i64 0, .int .i64 0, .int .i64 0, .slice none 0 0, .int .i64 0, .slice none 0 0, .slice none 0 0, .int .i64 0, .int .i64 0], .slice none 0 0], []⟩ 8 (by kernel_rfl) (by kernel_rfl) (by kernel_rfl) (by kernel_rfl)) ?_
  intro W base args ds gs before hval hW hcnd _
  exact law_stepW layOk laid (f := 4) (fn := Tryz.f4) (ts := [56, 57]) (T := Tryz.f4.resultTypes[0]!) rfl rfl (by decide +kernel) (by decide +kernel) rfl (by kernel_rfl)
    (fun ds hd => match ds, hd with | [d0, d1], _ => ⟨rfl, rfl, rfl⟩) law hval trivial hW

theorem over : Rows.topUpthrustGrowsRow.holds Tryz.pinned (OpenSpec.ofChange Rows.topUpthrustGrowsSpec) :=
  OpenClaim.holds_of_wide 4 Tryz.f4 rfl rfl rfl rfl rfl rfl rfl ⟨rfl, rfl, rfl, rfl, rfl⟩ rfl rfl rfl rfl rfl named Tryz.func4 facts inst wrap
    (fun os started H enc _ => lifted os started H enc)

theorem proved : Rows.TopUpthrustGrowsSaid := over
#print axioms proved
end Go.Proofs.YtaeeehokaleakaaGreat.topUpthrustGrows
