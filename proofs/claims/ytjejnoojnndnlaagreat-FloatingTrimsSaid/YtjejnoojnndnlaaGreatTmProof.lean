/- The attitude that the stiffness predicts behind a load is as specified: the law returns true for every input and leaves it as it was; no condition. -/
import Derived.Test.YtjejnoojnndnlaaGreatTm1
import Derived.Test.YtjejnoojnndnlaaGreatRows
import Derived.WalkKit
import Derived.ProofKit
import Derived.OpenShut
import Derived.Test.YtjejnoojnndnlaaGreatFxFloatingTrims
namespace Go.Proofs.YtjejnoojnndnlaaGreat.floatingTrims
open Go.ChangeShapes Go.WideShapes Go.ChangeAt Go.RowKit Go.Pv

theorem own : ownKnob Tryz.prog.godebug = none := by kernel_rfl
theorem laid : laidOutB Tryz.prog = true := by kernel_rfl

theorem law (pargs : List PV) (hl : pargs.length = 3) (h : ∀ (i : Nat) t c, ([29, 60, 79] : List TypeId)[i]? = some t → pargs[i]? = some c → argW lay.get t c) : Ret Tryz.prog .shared 10 pargs (.bool true) := by
  match pargs, hl with
  | [c0, c1, c2], _ =>
    have h0 := h 0 29 c0 rfl rfl
    have h1 := h 1 60 c1 rfl rfl
    have h2 := h 2 79 c2 rfl rfl
    obtain ⟨b, rfl, hb⟩ := dec_B h0
    obtain ⟨a, F, rfl, hF⟩ := dec_Sol h1
    obtain ⟨w, rfl⟩ := dec_Ld h2
    exact trims_law b hb a F hF w

set_option maxRecDepth 100000 in
theorem lifted (os : Os) (started : os.Started) (H : Type) (enc : TypeId × Value → H) :
    ReturnsInHanded {} Tryz.checked os 10 .any (Rows.floatingTrimsSpec.pre6 enc Tryz.prog Tryz.f10 Rows.floatingTrimsRow.domain false) (Rows.floatingTrimsSpec.post enc Tryz.prog Tryz.f10 false true false false) := by
  refine returnsInHanded_of_change (C := Tryz.checked) own started (by kernel_rfl) Tryz.func10
    (ChangeSpec.witness6 (enc := enc) (C := Tryz.checked) false ⟨#[], #[.agg #[.int .i64 0, .bool false, .slice none 0 0, .bool false, .slice none 0 0, .slice none 0 0], .agg #[.bool false, .slice none 0 0, .bool false, .slice none 0 0, .bool false, .slice none 0 0, .bool false, .slice none 0 0, .slice none 0 0], .agg #[.string ⟨#[]⟩, .int .i64 0, .int .i64 0, .int .i64 0, .int .i64 0]], []⟩ 8 (by kernel_rfl) (by kernel_rfl) (by kernel_rfl) (by kernel_rfl)) ?_
  intro W base args ds gs before hval hW hcnd _
  exact law_stepW layOk laid (f := 10) (fn := Tryz.f10) (ts := [29, 60, 79]) (T := Tryz.f10.resultTypes[0]!) rfl rfl (by decide +kernel) (by decide +kernel) rfl (by kernel_rfl)
    (fun ds hd => match ds, hd with | [d0, d1, d2], _ => ⟨rfl, rfl, rfl⟩) law hval trivial hW

theorem over : Rows.floatingTrimsRow.holds Tryz.pinned (OpenSpec.ofChange Rows.floatingTrimsSpec) :=
  OpenClaim.holds_of_wide 10 Tryz.f10 rfl rfl rfl rfl rfl rfl rfl ⟨rfl, rfl, rfl, rfl, rfl⟩ rfl rfl rfl rfl rfl named Tryz.func10 facts inst wrap
    (fun os started H enc _ => lifted os started H enc)

theorem proved : Rows.FloatingTrimsSaid := over
#print axioms proved
end Go.Proofs.YtjejnoojnndnlaaGreat.floatingTrims
