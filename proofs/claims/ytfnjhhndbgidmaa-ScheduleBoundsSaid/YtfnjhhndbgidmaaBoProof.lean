/- For all work and bounds the best bound and the checks of bounds are those of the reference, and the best bound is accepted: the law returns true for every input and leaves it as it was; no condition. -/
import Derived.Test.YtfnjhhndbgidmaaBo6
import Derived.Test.YtfnjhhndbgidmaaRows
import Derived.WalkKit
import Derived.ProofKit
import Derived.OpenShut
namespace Go.Proofs.Ytfnjhhndbgidmaa.scheduleBounds
open Go.ChangeShapes Go.WideShapes Go.ChangeAt Go.RowKit Go.Pv

theorem own : ownKnob Try.prog.godebug = none := by kernel_rfl
theorem laid : laidOutB Try.prog = true := by kernel_rfl

theorem law (pargs : List PV) (hl : pargs.length = 2) (h : ∀ (i : Nat) t c, ([28, 60] : List TypeId)[i]? = some t → pargs[i]? = some c → argP lay.get t c) : Ret Try.prog .shared 6 pargs (.bool true) := by
  match pargs, hl with
  | [c0, c1], _ =>
    have h0 := h 0 28 c0 rfl rfl
    have h1 := h 1 60 c1 rfl rfl
    obtain ⟨w, rfl⟩ := dec_work h0
    obtain ⟨b, rfl⟩ := dec_bound h1
    exact bounds_law awake_ret w b

set_option maxRecDepth 100000 in
theorem lifted (os : Os) (started : os.Started) (H : Type) (enc : TypeId × Value → H) :
    ReturnsInHanded {} Try.checked os 6 .any (Rows.scheduleBoundsSpec.pre6 enc Try.prog Try.f6 Rows.scheduleBoundsRow.domain false) (Rows.scheduleBoundsSpec.post enc Try.prog Try.f6 false true false false) := by
  refine returnsInHanded_of_change (C := Try.checked) own started (by kernel_rfl) Try.func6
    (ChangeSpec.witness6 (enc := enc) (C := Try.checked) false ⟨#[], #[.agg #[.slice none 0 0, .slice none 0 0, .slice none 0 0, .slice none 0 0, .slice none 0 0, .int .i64 0, .int .i64 0, .int .i64 0, .int .i64 0], .agg #[.int .i64 0, .slice none 0 0, .string ⟨#[]⟩]], []⟩ 8 (by kernel_rfl) (by kernel_rfl) (by kernel_rfl) (by kernel_rfl)) ?_
  intro W base args ds gs before hval hW hcnd _
  exact law_step layOk laid (f := 6) (fn := Try.f6) (ts := [28, 60]) (T := Try.f6.resultTypes[0]!) rfl rfl (by decide +kernel) (by decide +kernel) rfl (by kernel_rfl)
    (fun ds hd => match ds, hd with | [d0, d1], _ => ⟨rfl, rfl, rfl⟩) law hval hW

theorem over : Rows.scheduleBoundsRow.holds Try.pinned (OpenSpec.ofChange Rows.scheduleBoundsSpec) :=
  OpenClaim.holds_of_wide 6 Try.f6 rfl rfl rfl rfl rfl rfl rfl ⟨rfl, rfl, rfl, rfl, rfl⟩ rfl rfl rfl rfl rfl (by kernel_rfl) Try.func6 (by kernel_rfl)
    (of_decide_eq_true (by kernel_rfl)) (by unfold Func.isWrapper; first | (rw [if_pos (by decide +kernel)]; kernel_rfl) | (rw [if_neg (by decide +kernel)]; exact ⟨rfl, rfl⟩))
    (fun os started H enc _ => lifted os started H enc)

theorem proved : Rows.ScheduleBoundsSaid := over
#print axioms proved
end Go.Proofs.Ytfnjhhndbgidmaa.scheduleBounds
