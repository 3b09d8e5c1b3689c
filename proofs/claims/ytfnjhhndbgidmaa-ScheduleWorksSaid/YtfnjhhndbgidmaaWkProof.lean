/- For all work CheckWork and Order return what the document specifies: the law returns true for every input and leaves it as it was; no condition. -/
import Derived.Test.YtfnjhhndbgidmaaWk5
import Derived.Test.YtfnjhhndbgidmaaRows
import Derived.WalkKit
import Derived.ProofKit
import Derived.OpenShut
namespace Go.Proofs.Ytfnjhhndbgidmaa.scheduleWorks
open Go.ChangeShapes Go.WideShapes Go.ChangeAt Go.RowKit Go.Pv

theorem own : ownKnob Try.prog.godebug = none := by kernel_rfl
theorem laid : laidOutB Try.prog = true := by kernel_rfl

theorem law (pargs : List PV) (hl : pargs.length = 1) (h : ∀ (i : Nat) t c, ([28] : List TypeId)[i]? = some t → pargs[i]? = some c → argP lay.get t c) : Ret Try.prog .shared 4 pargs (.bool true) := by
  match pargs, hl with
  | [c], _ =>
    obtain ⟨w, rfl⟩ := dec_work (h 0 28 c rfl rfl)
    exact works_ret awake_ret w

set_option maxRecDepth 100000 in
theorem lifted (os : Os) (started : os.Started) (H : Type) (enc : TypeId × Value → H) :
    ReturnsInHanded {} Try.checked os 4 .any (Rows.scheduleWorksSpec.pre6 enc Try.prog Try.f4 Rows.scheduleWorksRow.domain false) (Rows.scheduleWorksSpec.post enc Try.prog Try.f4 false true false false) := by
  refine returnsInHanded_of_change (C := Try.checked) own started (by kernel_rfl) Try.func4
    (ChangeSpec.witness6 (enc := enc) (C := Try.checked) false ⟨#[], #[.agg #[.slice none 0 0, .slice none 0 0, .slice none 0 0, .slice none 0 0, .slice none 0 0, .int .i64 0, .int .i64 0, .int .i64 0, .int .i64 0]], []⟩ 8 (by kernel_rfl) (by kernel_rfl) (by kernel_rfl) (by kernel_rfl)) ?_
  intro W base args ds gs before hval hW hcnd _
  exact law_step layOk laid (f := 4) (fn := Try.f4) (ts := [28]) (T := Try.f4.resultTypes[0]!) rfl rfl (by decide +kernel) (by decide +kernel) rfl (by kernel_rfl)
    (fun ds hd => match ds, hd with | [d], _ => ⟨rfl, rfl, rfl⟩) law hval hW

theorem over : Rows.scheduleWorksRow.holds Try.pinned (OpenSpec.ofChange Rows.scheduleWorksSpec) :=
  OpenClaim.holds_of_wide 4 Try.f4 rfl rfl rfl rfl rfl rfl rfl ⟨rfl, rfl, rfl, rfl, rfl⟩ rfl rfl rfl rfl rfl (by kernel_rfl) Try.func4 (by kernel_rfl)
    (of_decide_eq_true (by kernel_rfl)) (by unfold Func.isWrapper; first | (rw [if_pos (by decide +kernel)]; kernel_rfl) | (rw [if_neg (by decide +kernel)]; exact ⟨rfl, rfl⟩))
    (fun os started H enc _ => lifted os started H enc)

theorem proved : Rows.ScheduleWorksSaid := over
#print axioms proved
end Go.Proofs.Ytfnjhhndbgidmaa.scheduleWorks
