/- The sum of the differences of the forces at two attitudes times those of the compressions is not negative: the law returns true for every input and leaves it as it was; no condition. -/
import Derived.Test.YtjejnoojnndnlaaGreatMo1
import Derived.Test.YtjejnoojnndnlaaGreatRows
import Derived.WalkKit
import Derived.ProofKit
import Derived.OpenShut
import Derived.Test.YtjejnoojnndnlaaGreatFxFloatingMonotone
namespace Go.Proofs.YtjejnoojnndnlaaGreat.floatingMonotone
open Go.ChangeShapes Go.WideShapes Go.ChangeAt Go.RowKit Go.Pv

theorem own : ownKnob Tryz.prog.godebug = none := by kernel_rfl
theorem laid : laidOutB Tryz.prog = true := by kernel_rfl

theorem law (pargs : List PV) (hl : pargs.length = 3) (h : ∀ (i : Nat) t c, ([27, 40, 40] : List TypeId)[i]? = some t → pargs[i]? = some c → argW lay.get t c) : Ret Tryz.prog .shared 4 pargs (.bool true) := by
  match pargs, hl with
  | [c0, c1, c2], _ =>
    have h0 := h 0 27 c0 rfl rfl
    have h1 := h 1 40 c1 rfl rfl
    have h2 := h 2 40 c2 rfl rfl
    obtain ⟨l, rfl, hl, hd⟩ := dec_LL h0
    obtain ⟨a, rfl⟩ := dec_A h1
    obtain ⟨c, rfl⟩ := dec_A h2
    exact mono_law l hl hd a c

set_option maxRecDepth 100000 in
theorem lifted (os : Os) (started : os.Started) (H : Type) (enc : TypeId × Value → H) :
    ReturnsInHanded {} Tryz.checked os 4 .any (Rows.floatingMonotoneSpec.pre6 enc Tryz.prog Tryz.f4 Rows.floatingMonotoneRow.domain false) (Rows.floatingMonotoneSpec.post enc Tryz.prog Tryz.f4 false true false false) := by
  refine returnsInHanded_of_change (C := Tryz.checked) own started (by kernel_rfl) Tryz.func4
    (ChangeSpec.witness6 (enc := enc) (C := Tryz.checked) false ⟨#[], #[.slice none 0 0, .agg #[.bool false, .slice none 0 0, .bool false, .slice none 0 0, .bool false, .slice none 0 0, .bool false, .slice none 0 0], .agg #[.bool false, .slice none 0 0, .bool false, .slice none 0 0, .bool false, .slice none 0 0, .bool false, .slice none 0 0]], []⟩ 8 (by kernel_rfl) (by kernel_rfl) (by kernel_rfl) (by kernel_rfl)) ?_
  intro W base args ds gs before hval hW hcnd _
  exact law_stepW layOk laid (f := 4) (fn := Tryz.f4) (ts := [27, 40, 40]) (T := Tryz.f4.resultTypes[0]!) rfl rfl (by decide +kernel) (by decide +kernel) rfl (by kernel_rfl)
    (fun ds hd => match ds, hd with | [d0, d1, d2], _ => ⟨rfl, rfl, rfl⟩) law hval trivial hW

theorem over : Rows.floatingMonotoneRow.holds Tryz.pinned (OpenSpec.ofChange Rows.floatingMonotoneSpec) :=
  OpenClaim.holds_of_wide 4 Tryz.f4 rfl rfl rfl rfl rfl rfl rfl ⟨rfl, rfl, rfl, rfl, rfl⟩ rfl rfl rfl rfl rfl named Tryz.func4 facts inst wrap
    (fun os started H enc _ => lifted os started H enc)

theorem proved : Rows.FloatingMonotoneSaid := over
#print axioms proved
end Go.Proofs.YtjejnoojnndnlaaGreat.floatingMonotone
