/- No body has both an equilibrium and a refusal that are accepted: the law returns true for every input and leaves it as it was; no condition. -/
import Derived.Test.YtjejnoojnndnlaaGreatEx1
import Derived.Test.YtjejnoojnndnlaaGreatRows
import Derived.WalkKit
import Derived.ProofKit
import Derived.OpenShut
import Derived.Test.YtjejnoojnndnlaaGreatFxFloatingExclude
namespace Go.Proofs.YtjejnoojnndnlaaGreat.floatingExclude
open Go.ChangeShapes Go.WideShapes Go.ChangeAt Go.RowKit Go.Pv

theorem own : ownKnob Tryz.prog.godebug = none := by kernel_rfl
theorem laid : laidOutB Tryz.prog = true := by kernel_rfl

theorem law (pargs : List PV) (hl : pargs.length = 3) (h : ∀ (i : Nat) t c, ([29, 60, 62] : List TypeId)[i]? = some t → pargs[i]? = some c → argW lay.get t c) : Ret Tryz.prog .shared 8 pargs (.bool true) := by
  match pargs, hl with
  | [c0, c1, c2], _ =>
    have h0 := h 0 29 c0 rfl rfl
    have h1 := h 1 60 c1 rfl rfl
    have h2 := h 2 62 c2 rfl rfl
    obtain ⟨b, rfl, hb⟩ := dec_B h0
    obtain ⟨a, F, rfl, hF⟩ := dec_Sol h1
    obtain ⟨r, rfl⟩ := dec_F h2
    exact exclude_law b hb a F hF r

set_option maxRecDepth 100000 in
theorem lifted (os : Os) (started : os.Started) (H : Type) (enc : TypeId × Value → H) :
    ReturnsInHanded {} Tryz.checked os 8 .any (Rows.floatingExcludeSpec.pre6 enc Tryz.prog Tryz.f8 Rows.floatingExcludeRow.domain false) (Rows.floatingExcludeSpec.post enc Tryz.prog Tryz.f8 false true false false) := by
  refine returnsInHanded_of_change (C := Tryz.checked) own started (by kernel_rfl) Tryz.func8
    (ChangeSpec.witness6 (enc := enc) (C := Tryz.checked) false ⟨#[], #[.agg #[.int .i64 0, .bool false, .slice none 0 0, .bool false, .slice none 0 0, .slice none 0 0], .agg #[.bool false, .slice none 0 0, .bool false, .slice none 0 0, .bool false, .slice none 0 0, .bool false, .slice none 0 0, .slice none 0 0], .agg #[.bool false, .slice none 0 0, .bool false, .slice none 0 0, .bool false, .slice none 0 0, .bool false, .slice none 0 0]], []⟩ 8 (by kernel_rfl) (by kernel_rfl) (by kernel_rfl) (by kernel_rfl)) ?_
  intro W base args ds gs before hval hW hcnd _
  exact law_stepW layOk laid (f := 8) (fn := Tryz.f8) (ts := [29, 60, 62]) (T := Tryz.f8.resultTypes[0]!) rfl rfl (by decide +kernel) (by decide +kernel) rfl (by kernel_rfl)
    (fun ds hd => match ds, hd with | [d0, d1, d2], _ => ⟨rfl, rfl, rfl⟩) law hval trivial hW

theorem over : Rows.floatingExcludeRow.holds Tryz.pinned (OpenSpec.ofChange Rows.floatingExcludeSpec) :=
  OpenClaim.holds_of_wide 8 Tryz.f8 rfl rfl rfl rfl rfl rfl rfl ⟨rfl, rfl, rfl, rfl, rfl⟩ rfl rfl rfl rfl rfl named Tryz.func8 facts inst wrap
    (fun os started H enc _ => lifted os started H enc)

theorem proved : Rows.FloatingExcludeSaid := over
#print axioms proved
end Go.Proofs.YtjejnoojnndnlaaGreat.floatingExclude
