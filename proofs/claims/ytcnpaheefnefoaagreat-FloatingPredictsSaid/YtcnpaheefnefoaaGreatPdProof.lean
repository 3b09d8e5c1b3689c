/- The formulas of sinkage and trim are exact within straight pieces of the curves: the law returns true for every input and leaves it as it was; no condition. -/
import Derived.Test.YtcnpaheefnefoaaGreatPd1
import Derived.Test.YtcnpaheefnefoaaGreatRows
import Derived.WalkKit
import Derived.ProofKit
import Derived.OpenShut
import Derived.Test.YtcnpaheefnefoaaGreatFxFloatingPredicts
namespace Go.Proofs.YtcnpaheefnefoaaGreat.floatingPredicts
open Go.ChangeShapes Go.WideShapes Go.ChangeAt Go.RowKit Go.Pv

theorem own : ownKnob Tryz.prog.godebug = none := by kernel_rfl
theorem laid : laidOutB Tryz.prog = true := by kernel_rfl

theorem law (pargs : List PV) (hl : pargs.length = 3) (h : ∀ (i : Nat) t c, ([29, 3, 3] : List TypeId)[i]? = some t → pargs[i]? = some c → argW lay.get t c) : Ret Tryz.prog .shared 5 pargs (.bool true) := by
  match pargs, hl with
  | [c0, c1, c2], _ =>
    have h0 := h 0 29 c0 rfl rfl
    have h1 := h 1 3 c1 rfl rfl
    have h2 := h 2 3 c2 rfl rfl
    obtain ⟨b, rfl, hb⟩ := dec_B h0
    obtain ⟨x, hx, -⟩ := dec_int (n := 11) (show tyP lay.get 12 3 [c1] from h1)
    have hx : [c1] = [I x] := hx
    cases hx
    obtain ⟨m, hm, -⟩ := dec_int (n := 11) (show tyP lay.get 12 3 [c2] from h2)
    have hm : [c2] = [I m] := hm
    cases hm
    exact predicts_law b hb x m

set_option maxRecDepth 100000 in
theorem lifted (os : Os) (started : os.Started) (H : Type) (enc : TypeId × Value → H) :
    ReturnsInHanded {} Tryz.checked os 5 .any (Rows.floatingPredictsSpec.pre6 enc Tryz.prog Tryz.f5 Rows.floatingPredictsRow.domain false) (Rows.floatingPredictsSpec.post enc Tryz.prog Tryz.f5 false true false false) := by
  refine returnsInHanded_of_change (C := Tryz.checked) own started (by kernel_rfl) Tryz.func5
    (ChangeSpec.witness6 (enc := enc) (C := Tryz.checked) false ⟨#[], #[.agg #[.int .i64 0, .bool false, .slice none 0 0, .bool false, .slice none 0 0, .slice none 0 0], .int .i64 0, .int .i64 0], []⟩ 8 (by kernel_rfl) (by kernel_rfl) (by kernel_rfl) (by kernel_rfl)) ?_
  intro W base args ds gs before hval hW hcnd _
  exact law_stepW layOk laid (f := 5) (fn := Tryz.f5) (ts := [29, 3, 3]) (T := Tryz.f5.resultTypes[0]!) rfl rfl (by decide +kernel) (by decide +kernel) rfl (by kernel_rfl)
    (fun ds hd => match ds, hd with | [d0, d1, d2], _ => ⟨rfl, rfl, rfl⟩) law hval trivial hW

theorem over : Rows.floatingPredictsRow.holds Tryz.pinned (OpenSpec.ofChange Rows.floatingPredictsSpec) :=
  OpenClaim.holds_of_wide 5 Tryz.f5 rfl rfl rfl rfl rfl rfl rfl ⟨rfl, rfl, rfl, rfl, rfl⟩ rfl rfl rfl rfl rfl named Tryz.func5 facts inst wrap
    (fun os started H enc _ => lifted os started H enc)

theorem proved : Rows.FloatingPredictsSaid := over
#print axioms proved
end Go.Proofs.YtcnpaheefnefoaaGreat.floatingPredicts
