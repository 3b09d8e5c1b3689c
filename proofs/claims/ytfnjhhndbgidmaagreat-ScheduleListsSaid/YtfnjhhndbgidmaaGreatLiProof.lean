/- For all work, orders and modes Lists returns the slots of the serial rule, which are a plan, or the error that the document specifies: the law returns true for every input and leaves it as it was; no condition. -/
import Derived.Test.YtfnjhhndbgidmaaGreatLi6
import Derived.Test.YtfnjhhndbgidmaaGreatRows
import Derived.WalkKit
import Derived.ProofKit
import Derived.OpenShut
namespace Go.Proofs.YtfnjhhndbgidmaaGreat.scheduleLists
open Go.ChangeShapes Go.WideShapes Go.ChangeAt Go.RowKit Go.Pv

theorem own : ownKnob Tryz.prog.godebug = none := by kernel_rfl
theorem laid : laidOutB Tryz.prog = true := by kernel_rfl

theorem law (pargs : List PV) (hl : pargs.length = 3) (h : ∀ (i : Nat) t c, ([28, 47, 36] : List TypeId)[i]? = some t → pargs[i]? = some c → argP lay.get t c) : Ret Tryz.prog .shared 4 pargs (.bool true) := by
  match pargs, hl with
  | [c0, c1, c2], _ =>
    have h0 := h 0 28 c0 rfl rfl
    have h1 := h 1 47 c1 rfl rfl
    have h2 := h 2 36 c2 rfl rfl
    obtain ⟨w, rfl⟩ := dec_work h0
    obtain ⟨o, ho⟩ := dec_texts (n := 4) (show tyP lay.get 6 47 [c1] from h1)
    cases ho
    obtain ⟨m, hm⟩ := dec_ints (n := 4) (show tyP lay.get 6 36 [c2] from h2)
    cases hm
    exact lists_law awake_ret w o m

set_option maxRecDepth 100000 in
theorem lifted (os : Os) (started : os.Started) (H : Type) (enc : TypeId × Value → H) :
    ReturnsInHanded {} Tryz.checked os 4 .any (Rows.scheduleListsSpec.pre6 enc Tryz.prog Tryz.f4 Rows.scheduleListsRow.domain false) (Rows.scheduleListsSpec.post enc Tryz.prog Tryz.f4 false true false false) := by
  refine returnsInHanded_of_change (C := Tryz.checked) own started (by kernel_rfl) Tryz.func4
    (ChangeSpec.witness6 (enc := enc) (C := Tryz.checked) false ⟨#[], #[.agg #[.slice none 0 0, .slice none 0 0, .slice none 0 0, .slice none 0 0, .slice none 0 0, .int .i64 0, .int .i64 0, .int .i64 0, .int .i64 0], .slice none 0 0, .slice none 0 0], []⟩ 8 (by kernel_rfl) (by kernel_rfl) (by kernel_rfl) (by kernel_rfl)) ?_
  intro W base args ds gs before hval hW hcnd _
  exact law_step layOk laid (f := 4) (fn := Tryz.f4) (ts := [28, 47, 36]) (T := Tryz.f4.resultTypes[0]!) rfl rfl (by decide +kernel) (by decide +kernel) rfl (by kernel_rfl)
    (fun ds hd => match ds, hd with | [d0, d1, d2], _ => ⟨rfl, rfl, rfl⟩) law hval hW

theorem over : Rows.scheduleListsRow.holds Tryz.pinned (OpenSpec.ofChange Rows.scheduleListsSpec) :=
  OpenClaim.holds_of_wide 4 Tryz.f4 rfl rfl rfl rfl rfl rfl rfl ⟨rfl, rfl, rfl, rfl, rfl⟩ rfl rfl rfl rfl rfl (by kernel_rfl) Tryz.func4 (by kernel_rfl)
    (of_decide_eq_true (by kernel_rfl)) (by unfold Func.isWrapper; first | (rw [if_pos (by decide +kernel)]; kernel_rfl) | (rw [if_neg (by decide +kernel)]; exact ⟨rfl, rfl⟩))
    (fun os started H enc _ => lifted os started H enc)

theorem proved : Rows.ScheduleListsSaid := over
#print axioms proved
end Go.Proofs.YtfnjhhndbgidmaaGreat.scheduleLists
