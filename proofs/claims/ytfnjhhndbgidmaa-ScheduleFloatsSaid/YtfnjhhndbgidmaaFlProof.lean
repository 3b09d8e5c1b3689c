/- For all work and slots of a plan no item begins behind its latest day or ahead of its earliest one, and critical items begin on day 0 and end with the duration: the law returns true for every input and leaves it as it was; no condition. -/
import Derived.Test.YtfnjhhndbgidmaaFl5
import Derived.Test.YtfnjhhndbgidmaaRows
import Derived.WalkKit
import Derived.ProofKit
import Derived.OpenShut
namespace Go.Proofs.Ytfnjhhndbgidmaa.scheduleFloats
open Go.ChangeShapes Go.WideShapes Go.ChangeAt Go.RowKit Go.Pv

theorem own : ownKnob Try.prog.godebug = none := by kernel_rfl
theorem laid : laidOutB Try.prog = true := by kernel_rfl

theorem law (pargs : List PV) (hl : pargs.length = 2) (h : ∀ (i : Nat) t c, ([28, 29] : List TypeId)[i]? = some t → pargs[i]? = some c → argP lay.get t c) : Ret Try.prog .shared 9 pargs (.bool true) := by
  match pargs, hl with
  | [c0, c1], _ =>
    have h0 := h 0 28 c0 rfl rfl
    have h1 := h 1 29 c1 rfl rfl
    obtain ⟨w, rfl⟩ := dec_work h0
    obtain ⟨s, rfl⟩ := dec_slots h1
    exact floats_law awake_ret w s

set_option maxRecDepth 100000 in
theorem lifted (os : Os) (started : os.Started) (H : Type) (enc : TypeId × Value → H) :
    ReturnsInHanded {} Try.checked os 9 .any (Rows.scheduleFloatsSpec.pre6 enc Try.prog Try.f9 Rows.scheduleFloatsRow.domain false) (Rows.scheduleFloatsSpec.post enc Try.prog Try.f9 false true false false) := by
  refine returnsInHanded_of_change (C := Try.checked) own started (by kernel_rfl) Try.func9
    (ChangeSpec.witness6 (enc := enc) (C := Try.checked) false ⟨#[], #[.agg #[.slice none 0 0, .slice none 0 0, .slice none 0 0, .slice none 0 0, .slice none 0 0, .int .i64 0, .int .i64 0, .int .i64 0, .int .i64 0], .slice none 0 0], []⟩ 8 (by kernel_rfl) (by kernel_rfl) (by kernel_rfl) (by kernel_rfl)) ?_
  intro W base args ds gs before hval hW hcnd _
  exact law_step layOk laid (f := 9) (fn := Try.f9) (ts := [28, 29]) (T := Try.f9.resultTypes[0]!) rfl rfl (by decide +kernel) (by decide +kernel) rfl (by kernel_rfl)
    (fun ds hd => match ds, hd with | [d0, d1], _ => ⟨rfl, rfl, rfl⟩) law hval hW

theorem over : Rows.scheduleFloatsRow.holds Try.pinned (OpenSpec.ofChange Rows.scheduleFloatsSpec) :=
  OpenClaim.holds_of_wide 9 Try.f9 rfl rfl rfl rfl rfl rfl rfl ⟨rfl, rfl, rfl, rfl, rfl⟩ rfl rfl rfl rfl rfl (by kernel_rfl) Try.func9 (by kernel_rfl)
    (of_decide_eq_true (by kernel_rfl)) (by unfold Func.isWrapper; first | (rw [if_pos (by decide +kernel)]; kernel_rfl) | (rw [if_neg (by decide +kernel)]; exact ⟨rfl, rfl⟩))
    (fun os started H enc _ => lifted os started H enc)

theorem proved : Rows.ScheduleFloatsSaid := over
#print axioms proved
end Go.Proofs.Ytfnjhhndbgidmaa.scheduleFloats
