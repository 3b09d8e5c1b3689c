/- For all work and all names Excludes returns what the document specifies, in either order of the names: the law returns true for every input and leaves it as it was; no condition. -/
import Derived.Test.YtfnjhhndbgidmaaEx5
import Derived.Test.YtfnjhhndbgidmaaRows
import Derived.WalkKit
import Derived.ProofKit
import Derived.OpenShut
namespace Go.Proofs.Ytfnjhhndbgidmaa.scheduleExcludes
open Go.ChangeShapes Go.WideShapes Go.ChangeAt Go.RowKit Go.Pv

theorem own : ownKnob Try.prog.godebug = none := by kernel_rfl
theorem laid : laidOutB Try.prog = true := by kernel_rfl

theorem law (pargs : List PV) (hl : pargs.length = 3) (h : ∀ (i : Nat) t c, ([28, 9, 9] : List TypeId)[i]? = some t → pargs[i]? = some c → argP lay.get t c) : Ret Try.prog .shared 5 pargs (.bool true) := by
  match pargs, hl with
  | [c0, c1, c2], _ =>
    have h0 := h 0 28 c0 rfl rfl
    have h1 := h 1 9 c1 rfl rfl
    have h2 := h 2 9 c2 rfl rfl
    obtain ⟨w, rfl⟩ := dec_work h0
    obtain ⟨a, ha⟩ := tyP_str (show tyP lay.get 6 9 [c1] from h1) rfl
    obtain ⟨b, hb⟩ := tyP_str (show tyP lay.get 6 9 [c2] from h2) rfl
    cases ha
    cases hb
    exact excludes_law awake_ret w a b

set_option maxRecDepth 100000 in
theorem lifted (os : Os) (started : os.Started) (H : Type) (enc : TypeId × Value → H) :
    ReturnsInHanded {} Try.checked os 5 .any (Rows.scheduleExcludesSpec.pre6 enc Try.prog Try.f5 Rows.scheduleExcludesRow.domain false) (Rows.scheduleExcludesSpec.post enc Try.prog Try.f5 false true false false) := by
  refine returnsInHanded_of_change (C := Try.checked) own started (by kernel_rfl) Try.func5
    (ChangeSpec.witness6 (enc := enc) (C := Try.checked) false ⟨#[], #[.agg #[.slice none 0 0, .slice none 0 0, .slice none 0 0, .slice none 0 0, .slice none 0 0, .int .i64 0, .int .i64 0, .int .i64 0, .int .i64 0], .string ⟨#[]⟩, .string ⟨#[]⟩], []⟩ 8 (by kernel_rfl) (by kernel_rfl) (by kernel_rfl) (by kernel_rfl)) ?_
  intro W base args ds gs before hval hW hcnd _
  exact law_step layOk laid (f := 5) (fn := Try.f5) (ts := [28, 9, 9]) (T := Try.f5.resultTypes[0]!) rfl rfl (by decide +kernel) (by decide +kernel) rfl (by kernel_rfl)
    (fun ds hd => match ds, hd with | [d0, d1, d2], _ => ⟨rfl, rfl, rfl⟩) law hval hW

theorem over : Rows.scheduleExcludesRow.holds Try.pinned (OpenSpec.ofChange Rows.scheduleExcludesSpec) :=
  OpenClaim.holds_of_wide 5 Try.f5 rfl rfl rfl rfl rfl rfl rfl ⟨rfl, rfl, rfl, rfl, rfl⟩ rfl rfl rfl rfl rfl (by kernel_rfl) Try.func5 (by kernel_rfl)
    (of_decide_eq_true (by kernel_rfl)) (by unfold Func.isWrapper; first | (rw [if_pos (by decide +kernel)]; kernel_rfl) | (rw [if_neg (by decide +kernel)]; exact ⟨rfl, rfl⟩))
    (fun os started H enc _ => lifted os started H enc)

theorem proved : Rows.ScheduleExcludesSaid := over
#print axioms proved
end Go.Proofs.Ytfnjhhndbgidmaa.scheduleExcludes
