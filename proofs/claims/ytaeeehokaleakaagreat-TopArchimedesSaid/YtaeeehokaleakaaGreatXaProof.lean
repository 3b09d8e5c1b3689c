/- Archimedes: a ship that floats displaces its mass, the centre of its buoyancy stands over that of its loads, and behind its last place nothing is left; with a load more and without it again it floats as before: the law returns true for every input and leaves it as it was; no condition. -/
import Derived.Test.YtaeeehokaleakaaGreatXa1
import Derived.Test.YtaeeehokaleakaaGreatRows
import Derived.WalkKit
import Derived.ProofKit
import Derived.OpenShut
import Derived.Test.YtaeeehokaleakaaGreatFxTopArchimedes
namespace Go.Proofs.YtaeeehokaleakaaGreat.topArchimedes
open Go.ChangeShapes Go.WideShapes Go.ChangeAt Go.RowKit Go.Pv

theorem own : ownKnob Tryz.prog.godebug = none := by kernel_rfl
theorem laid : laidOutB Tryz.prog = true := by kernel_rfl

theorem law (pargs : List PV) (hl : pargs.length = 3) (h : ∀ (i : Nat) t c, ([27, 24, 3] : List TypeId)[i]? = some t → pargs[i]? = some c → argA lay.get t c) : Ret Tryz.prog .shared 3 pargs (.bool true) := by
  match pargs, hl with
  | [c0, c1, c2], _ =>
    have h0 := h 0 27 c0 rfl rfl
    have h1 := h 1 24 c1 rfl rfl
    have h2 := h 2 3 c2 rfl rfl
    obtain ⟨s, rfl, hs⟩ := dkSh0 h0
    obtain ⟨w, rfl⟩ := dkW0 h1
    obtain ⟨d, rfl⟩ := dkI0 h2
    exact arch_law s hs w d

set_option maxRecDepth 100000 in
theorem lifted (os : Os) (started : os.Started) (H : Type) (enc : TypeId × Value → H) :
    ReturnsInHanded {} Tryz.checked os 3 .any (Rows.topArchimedesSpec.pre6 enc Tryz.prog Tryz.f3 Rows.topArchimedesRow.domain false) (Rows.topArchimedesSpec.post enc Tryz.prog Tryz.f3 false true false false) := by
  refine returnsInHanded_of_change (C := Tryz.checked) own started (by kernel_rfl) Tryz.func3
    (ChangeSpec.witness6 (enc := enc) (C := Tryz.checked) false ⟨#[], #[.agg #[.string ⟨#[]⟩, .int .i64 0, .slice none 0 0, .string ⟨#[]⟩, .int .i64 0, .int .i64 0, .int .i64 0, .int .i64 0, .slice none 0 0], .agg #[.string ⟨#[]⟩, .int .i64 0, .int .i64 0, .int .i64 0, .int .i64 0], .int .i64 0], []⟩ 8 (by kernel_rfl) (by kernel_rfl) (by kernel_rfl) (by kernel_rfl)) ?_
  intro W base args ds gs before hval hW hcnd _
  exact law_stepW layA laid (f := 3) (fn := Tryz.f3) (ts := [27, 24, 3]) (T := Tryz.f3.resultTypes[0]!) rfl rfl (by decide +kernel) (by decide +kernel) rfl (by kernel_rfl)
    (fun ds hd => match ds, hd with | [da0, da1, da2], _ => ⟨rfl, rfl, rfl⟩) law hval trivial hW

theorem over : Rows.topArchimedesRow.holds Tryz.pinned (OpenSpec.ofChange Rows.topArchimedesSpec) :=
  OpenClaim.holds_of_wide 3 Tryz.f3 rfl rfl rfl rfl rfl rfl rfl ⟨rfl, rfl, rfl, rfl, rfl⟩ rfl rfl rfl rfl rfl named Tryz.func3 facts inst wrap
    (fun os started H enc _ => lifted os started H enc)

theorem proved : Rows.TopArchimedesSaid := over
#print axioms proved
end Go.Proofs.YtaeeehokaleakaaGreat.topArchimedes
