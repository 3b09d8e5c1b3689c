/- Raised bodies, and bodies with a mass more or a support less, are as specified: the law returns true for every input and leaves it as it was; no condition. -/
import Derived.Test.YtjejnoojnndnlaaGreatCh1
import Derived.Test.YtjejnoojnndnlaaGreatRows
import Derived.WalkKit
import Derived.ProofKit
import Derived.OpenShut
import Derived.Test.YtjejnoojnndnlaaGreatFxFloatingChanges
namespace Go.Proofs.YtjejnoojnndnlaaGreat.floatingChanges
open Go.ChangeShapes Go.WideShapes Go.ChangeAt Go.RowKit Go.Pv

theorem own : ownKnob Tryz.prog.godebug = none := by kernel_rfl
theorem laid : laidOutB Tryz.prog = true := by kernel_rfl

theorem law (pargs : List PV) (hl : pargs.length = 2) (h : ∀ (i : Nat) t c, ([29, 110] : List TypeId)[i]? = some t → pargs[i]? = some c → argW lay.get t c) : Ret Tryz.prog .shared 14 pargs (.bool true) := by
  match pargs, hl with
  | [c0, c1], _ =>
    have h0 := h 0 29 c0 rfl rfl
    have h1 := h 1 110 c1 rfl rfl
    obtain ⟨b, rfl, hb⟩ := dec_B h0
    obtain ⟨up, i, m, x, rfl, -, -, -⟩ := dec_Ch h1
    exact changes_law b hb up i m x

set_option maxRecDepth 100000 in
theorem lifted (os : Os) (started : os.Started) (H : Type) (enc : TypeId × Value → H) :
    ReturnsInHanded {} Tryz.checked os 14 .any (Rows.floatingChangesSpec.pre6 enc Tryz.prog Tryz.f14 Rows.floatingChangesRow.domain false) (Rows.floatingChangesSpec.post enc Tryz.prog Tryz.f14 false true false false) := by
  refine returnsInHanded_of_change (C := Tryz.checked) own started (by kernel_rfl) Tryz.func14
    (ChangeSpec.witness6 (enc := enc) (C := Tryz.checked) false ⟨#[], #[.agg #[.int .i64 0, .bool false, .slice none 0 0, .bool false, .slice none 0 0, .slice none 0 0], .agg #[.bool false, .slice none 0 0, .bool false, .slice none 0 0, .int .i64 0, .int .i64 0, .int .i64 0]], []⟩ 8 (by kernel_rfl) (by kernel_rfl) (by kernel_rfl) (by kernel_rfl)) ?_
  intro W base args ds gs before hval hW hcnd _
  exact law_stepW layOk laid (f := 14) (fn := Tryz.f14) (ts := [29, 110]) (T := Tryz.f14.resultTypes[0]!) rfl rfl (by decide +kernel) (by decide +kernel) rfl (by kernel_rfl)
    (fun ds hd => match ds, hd with | [d0, d1], _ => ⟨rfl, rfl, rfl⟩) law hval trivial hW

theorem over : Rows.floatingChangesRow.holds Tryz.pinned (OpenSpec.ofChange Rows.floatingChangesSpec) :=
  OpenClaim.holds_of_wide 14 Tryz.f14 rfl rfl rfl rfl rfl rfl rfl ⟨rfl, rfl, rfl, rfl, rfl⟩ rfl rfl rfl rfl rfl named Tryz.func14 facts inst wrap
    (fun os started H enc _ => lifted os started H enc)

theorem proved : Rows.FloatingChangesSaid := over
#print axioms proved
end Go.Proofs.YtjejnoojnndnlaaGreat.floatingChanges
