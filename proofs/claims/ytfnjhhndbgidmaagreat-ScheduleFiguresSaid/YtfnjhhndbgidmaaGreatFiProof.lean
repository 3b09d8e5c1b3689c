/- For all work, slots and trades Days, Cost and Load return what the document specifies, and in a plan no day has more people of a trade than there are: the law returns true for every input and leaves it as it was; no condition. -/
import Derived.Test.YtfnjhhndbgidmaaGreatFi5
import Derived.Test.YtfnjhhndbgidmaaGreatRows
import Derived.WalkKit
import Derived.ProofKit
import Derived.OpenShut
namespace Go.Proofs.YtfnjhhndbgidmaaGreat.scheduleFigures
open Go.ChangeShapes Go.WideShapes Go.ChangeAt Go.RowKit Go.Pv

theorem own : ownKnob Tryz.prog.godebug = none := by kernel_rfl
theorem laid : laidOutB Tryz.prog = true := by kernel_rfl

theorem law (pargs : List PV) (hl : pargs.length = 3) (h : ∀ (i : Nat) t c, ([28, 29, 9] : List TypeId)[i]? = some t → pargs[i]? = some c → argP lay.get t c) : Ret Tryz.prog .shared 3 pargs (.bool true) := by
  match pargs, hl with
  | [c0, c1, c2], _ =>
    have h0 := h 0 28 c0 rfl rfl
    have h1 := h 1 29 c1 rfl rfl
    have h2 := h 2 9 c2 rfl rfl
    obtain ⟨w, rfl⟩ := dec_work h0
    obtain ⟨s, rfl⟩ := dec_slots h1
    obtain ⟨t, ht⟩ := tyP_str (show tyP lay.get 6 9 [c2] from h2) rfl
    cases ht
    exact figures_law awake_ret w s t

set_option maxRecDepth 100000 in
theorem lifted (os : Os) (started : os.Started) (H : Type) (enc : TypeId × Value → H) :
    ReturnsInHanded {} Tryz.checked os 3 .any (Rows.scheduleFiguresSpec.pre6 enc Tryz.prog Tryz.f3 Rows.scheduleFiguresRow.domain false) (Rows.scheduleFiguresSpec.post enc Tryz.prog Tryz.f3 false true false false) := by
  refine returnsInHanded_of_change (C := Tryz.checked) own started (by kernel_rfl) Tryz.func3
    (ChangeSpec.witness6 (enc := enc) (C := Tryz.checked) false ⟨#[], #[.agg #[.slice none 0 0, .slice none 0 0, .slice none 0 0, .slice none 0 0, .slice none 0 0, .int .i64 0, .int .i64 0, .int .i64 0, .int .i64 0], .slice none 0 0, .string ⟨#[]⟩], []⟩ 8 (by kernel_rfl) (by kernel_rfl) (by kernel_rfl) (by kernel_rfl)) ?_
  intro W base args ds gs before hval hW hcnd _
  exact law_step layOk laid (f := 3) (fn := Tryz.f3) (ts := [28, 29, 9]) (T := Tryz.f3.resultTypes[0]!) rfl rfl (by decide +kernel) (by decide +kernel) rfl (by kernel_rfl)
    (fun ds hd => match ds, hd with | [d0, d1, d2], _ => ⟨rfl, rfl, rfl⟩) law hval hW

theorem over : Rows.scheduleFiguresRow.holds Tryz.pinned (OpenSpec.ofChange Rows.scheduleFiguresSpec) :=
  OpenClaim.holds_of_wide 3 Tryz.f3 rfl rfl rfl rfl rfl rfl rfl ⟨rfl, rfl, rfl, rfl, rfl⟩ rfl rfl rfl rfl rfl (by kernel_rfl) Tryz.func3 (by kernel_rfl)
    (of_decide_eq_true (by kernel_rfl)) (by unfold Func.isWrapper; first | (rw [if_pos (by decide +kernel)]; kernel_rfl) | (rw [if_neg (by decide +kernel)]; exact ⟨rfl, rfl⟩))
    (fun os started H enc _ => lifted os started H enc)

theorem proved : Rows.ScheduleFiguresSaid := over
#print axioms proved
end Go.Proofs.YtfnjhhndbgidmaaGreat.scheduleFigures
