/- Compressions, forces, resultants, capacities and stiffness at any attitude are as specified: the law returns true for every input and leaves it as it was; no condition. -/
import Derived.Test.YtjejnoojnndnlaaGreatFo1
import Derived.Test.YtjejnoojnndnlaaGreatRows
import Derived.WalkKit
import Derived.ProofKit
import Derived.OpenShut
import Derived.Test.YtjejnoojnndnlaaGreatFxFloatingForces
namespace Go.Proofs.YtjejnoojnndnlaaGreat.floatingForces
open Go.ChangeShapes Go.WideShapes Go.ChangeAt Go.RowKit Go.Pv

theorem own : ownKnob Tryz.prog.godebug = none := by kernel_rfl
theorem laid : laidOutB Tryz.prog = true := by kernel_rfl

theorem law (pargs : List PV) (hl : pargs.length = 2) (h : ∀ (i : Nat) t c, ([27, 40] : List TypeId)[i]? = some t → pargs[i]? = some c → argW lay.get t c) : Ret Tryz.prog .shared 11 pargs (.bool true) := by
  match pargs, hl with
  | [c0, c1], _ =>
    have h0 := h 0 27 c0 rfl rfl
    have h1 := h 1 40 c1 rfl rfl
    obtain ⟨l, rfl, hl, hd⟩ := dec_LL h0
    obtain ⟨a, rfl⟩ := dec_A h1
    exact forces_law l hl hd a

set_option maxRecDepth 100000 in
theorem lifted (os : Os) (started : os.Started) (H : Type) (enc : TypeId × Value → H) :
    ReturnsInHanded {} Tryz.checked os 11 .any (Rows.floatingForcesSpec.pre6 enc Tryz.prog Tryz.f11 Rows.floatingForcesRow.domain false) (Rows.floatingForcesSpec.post enc Tryz.prog Tryz.f11 false true false false) := by
  refine returnsInHanded_of_change (C := Tryz.checked) own started (by kernel_rfl) Tryz.func11
    (ChangeSpec.witness6 (enc := enc) (C := Tryz.checked) false ⟨#[], #[.slice none 0 0, .agg #[.bool false, .slice none 0 0, .bool false, .slice none 0 0, .bool false, .slice none 0 0, .bool false, .slice none 0 0]], []⟩ 8 (by kernel_rfl) (by kernel_rfl) (by kernel_rfl) (by kernel_rfl)) ?_
  intro W base args ds gs before hval hW hcnd _
  exact law_stepW layOk laid (f := 11) (fn := Tryz.f11) (ts := [27, 40]) (T := Tryz.f11.resultTypes[0]!) rfl rfl (by decide +kernel) (by decide +kernel) rfl (by kernel_rfl)
    (fun ds hd => match ds, hd with | [d0, d1], _ => ⟨rfl, rfl, rfl⟩) law hval trivial hW

theorem over : Rows.floatingForcesRow.holds Tryz.pinned (OpenSpec.ofChange Rows.floatingForcesSpec) :=
  OpenClaim.holds_of_wide 11 Tryz.f11 rfl rfl rfl rfl rfl rfl rfl ⟨rfl, rfl, rfl, rfl, rfl⟩ rfl rfl rfl rfl rfl named Tryz.func11 facts inst wrap
    (fun os started H enc _ => lifted os started H enc)

theorem proved : Rows.FloatingForcesSaid := over
#print axioms proved
end Go.Proofs.YtjejnoojnndnlaaGreat.floatingForces
