/- The standings along a course are those at its levels, one by one, or the first error is returned, and Lift returns the first level from which on the ship is afloat: the law returns true for every input and leaves it as it was; no condition. -/
import Derived.Test.YtmfjgnchaacgnaaGreatXf1
import Derived.Test.YtmfjgnchaacgnaaGreatRows
import Derived.WalkKit
import Derived.ProofKit
import Derived.OpenShut
import Derived.Test.YtmfjgnchaacgnaaGreatFxDockingFollows
namespace Go.Proofs.YtmfjgnchaacgnaaGreat.dockingFollows
open Go.ChangeShapes Go.WideShapes Go.ChangeAt Go.RowKit Go.Pv

theorem own : ownKnob Tryz.prog.godebug = none := by kernel_rfl
theorem laid : laidOutB Tryz.prog = true := by kernel_rfl

theorem law (pargs : List PV) (hl : pargs.length = 2) (h : ∀ (i : Nat) t c, ([31, 92] : List TypeId)[i]? = some t → pargs[i]? = some c → argW lay.get t c) : Ret Tryz.prog .shared 9 pargs (.bool true) := by
  match pargs, hl with
  | [c0, c1], _ =>
    have h0 := h 0 31 c0 rfl rfl
    have h1 := h 1 92 c1 rfl rfl
    obtain ⟨d, rfl, hd⟩ := dkD0 h0
    obtain ⟨l, rfl, hc⟩ := dec_Crs h1
    exact follows_law d hd l hc

set_option maxRecDepth 100000 in
theorem lifted (os : Os) (started : os.Started) (H : Type) (enc : TypeId × Value → H) :
    ReturnsInHanded {} Tryz.checked os 9 .any (Rows.dockingFollowsSpec.pre6 enc Tryz.prog Tryz.f9 Rows.dockingFollowsRow.domain false) (Rows.dockingFollowsSpec.post enc Tryz.prog Tryz.f9 false true false false) := by
  refine returnsInHanded_of_change (C := Tryz.checked) own started (by kernel_rfl) Tryz.func9
    (ChangeSpec.witness6 (enc := enc) (C := Tryz.checked) false ⟨#[], #[.agg #[.string ⟨#[]⟩, .int .i64 0, .slice none 0 0, .string ⟨#[]⟩, .int .i64 0, .int .i64 0, .int .i64 0, .int .i64 0, .slice none 0 0, .int .i64 0, .slice none 0 0, .slice none 0 0, .int .i64 0, .int .i64 0], .slice none 0 0], []⟩ 8 (by kernel_rfl) (by kernel_rfl) (by kernel_rfl) (by kernel_rfl)) ?_
  intro W base args ds gs before hval hW hcnd _
  exact law_stepW layOk laid (f := 9) (fn := Tryz.f9) (ts := [31, 92]) (T := Tryz.f9.resultTypes[0]!) rfl rfl (by decide +kernel) (by decide +kernel) rfl (by kernel_rfl)
    (fun ds hd => match ds, hd with | [d0, d1], _ => ⟨rfl, rfl, rfl⟩) law hval trivial hW

theorem over : Rows.dockingFollowsRow.holds Tryz.pinned (OpenSpec.ofChange Rows.dockingFollowsSpec) :=
  OpenClaim.holds_of_wide 9 Tryz.f9 rfl rfl rfl rfl rfl rfl rfl ⟨rfl, rfl, rfl, rfl, rfl⟩ rfl rfl rfl rfl rfl named Tryz.func9 facts inst wrap
    (fun os started H enc _ => lifted os started H enc)

theorem proved : Rows.DockingFollowsSaid := over
#print axioms proved
end Go.Proofs.YtmfjgnchaacgnaaGreat.dockingFollows
