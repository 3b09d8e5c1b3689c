/- For all work, slots and bounds no plan is shorter than the best bound, nor than a bound that is accepted: the law returns true for every input and leaves it as it was; no condition. -/
import Derived.Test.YtfnjhhndbgidmaaBe5
import Derived.Test.YtfnjhhndbgidmaaRows
import Derived.WalkKit
import Derived.ProofKit
import Derived.OpenShut
namespace Go.Proofs.Ytfnjhhndbgidmaa.scheduleBelow
open Go.ChangeShapes Go.WideShapes Go.ChangeAt Go.RowKit Go.Pv

theorem own : ownKnob Try.prog.godebug = none := by kernel_rfl
theorem laid : laidOutB Try.prog = true := by kernel_rfl

theorem law (pargs : List PV) (hl : pargs.length = 3) (h : ∀ (i : Nat) t c, ([28, 29, 60] : List TypeId)[i]? = some t → pargs[i]? = some c → argP lay.get t c) : Ret Try.prog .shared 7 pargs (.bool true) := by
  match pargs, hl with
  | [c0, c1, c2], _ =>
    have h0 := h 0 28 c0 rfl rfl
    have h1 := h 1 29 c1 rfl rfl
    have h2 := h 2 60 c2 rfl rfl
    obtain ⟨w, rfl⟩ := dec_work h0
    obtain ⟨s, rfl⟩ := dec_slots h1
    obtain ⟨b, rfl⟩ := dec_bound h2
    exact below_law awake_ret w s b

set_option maxRecDepth 100000 in
theorem lifted (os : Os) (started : os.Started) (H : Type) (enc : TypeId × Value → H) :
    ReturnsInHanded {} Try.checked os 7 .any (Rows.scheduleBelowSpec.pre6 enc Try.prog Try.f7 Rows.scheduleBelowRow.domain false) (Rows.scheduleBelowSpec.post enc Try.prog Try.f7 false true false false) := by
  refine returnsInHanded_of_change (C := Try.checked) own started (by kernel_rfl) Try.func7
    (ChangeSpec.witness6 (enc := enc) (C := Try.checked) false ⟨#[], #[.agg #[.slice none 0 0, .slice none 0 0, .slice none 0 0, .slice none 0 0, .slice none 0 0, .int .i64 0, .int .i64 0, .int .i64 0, .int .i64 0], .slice none 0 0, .agg #[.int .i64 0, .slice none 0 0, .string ⟨#[]⟩]], []⟩ 8 (by kernel_rfl) (by kernel_rfl) (by kernel_rfl) (by kernel_rfl)) ?_
  intro W base args ds gs before hval hW hcnd _
  exact law_step layOk laid (f := 7) (fn := Try.f7) (ts := [28, 29, 60]) (T := Try.f7.resultTypes[0]!) rfl rfl (by decide +kernel) (by decide +kernel) rfl (by kernel_rfl)
    (fun ds hd => match ds, hd with | [d0, d1, d2], _ => ⟨rfl, rfl, rfl⟩) law hval hW

theorem over : Rows.scheduleBelowRow.holds Try.pinned (OpenSpec.ofChange Rows.scheduleBelowSpec) :=
  OpenClaim.holds_of_wide 7 Try.f7 rfl rfl rfl rfl rfl rfl rfl ⟨rfl, rfl, rfl, rfl, rfl⟩ rfl rfl rfl rfl rfl (by kernel_rfl) Try.func7 (by kernel_rfl)
    (of_decide_eq_true (by kernel_rfl)) (by unfold Func.isWrapper; first | (rw [if_pos (by decide +kernel)]; kernel_rfl) | (rw [if_neg (by decide +kernel)]; exact ⟨rfl, rfl⟩))
    (fun os started H enc _ => lifted os started H enc)

theorem proved : Rows.ScheduleBelowSaid := over
#print axioms proved
end Go.Proofs.Ytfnjhhndbgidmaa.scheduleBelow
