/- Help returns the preferred one of all choices of loads with which the verdict is OK, or the first error: the law returns true for every input and leaves it as it was; no condition. -/
import Derived.Test.YtaeeehokaleakaaGreatXh1
import Derived.Test.YtaeeehokaleakaaGreatRows
import Derived.WalkKit
import Derived.ProofKit
import Derived.OpenShut
import Derived.Test.YtaeeehokaleakaaGreatFxDockingHelps
namespace Go.Proofs.YtaeeehokaleakaaGreat.dockingHelps
open Go.ChangeShapes Go.WideShapes Go.ChangeAt Go.RowKit Go.Pv

theorem own : ownKnob Tryz.prog.godebug = none := by kernel_rfl
theorem laid : laidOutB Tryz.prog = true := by kernel_rfl

theorem law (pargs : List PV) (hl : pargs.length = 3) (h : ∀ (i : Nat) t c, ([56, 57, 25] : List TypeId)[i]? = some t → pargs[i]? = some c → argW lay.get t c) : Ret Tryz.prog .shared 7 pargs (.bool true) := by
  match pargs, hl with
  | [c0, c1, c2], _ =>
    have h0 := h 0 56 c0 rfl rfl
    have h1 := h 1 57 c1 rfl rfl
    have h2 := h 2 25 c2 rfl rfl
    obtain ⟨d, rfl, hd⟩ := dkD0 h0
    obtain ⟨l, rfl, hc⟩ := dec_Cr h1
    obtain ⟨o, rfl, ho⟩ := dec_Ls h2
    exact helps_law d hd l hc o ho

set_option maxRecDepth 100000 in
theorem lifted (os : Os) (started : os.Started) (H : Type) (enc : TypeId × Value → H) :
    ReturnsInHanded {} Tryz.checked os 7 .any (Rows.dockingHelpsSpec.pre6 enc Tryz.prog Tryz.f7 Rows.dockingHelpsRow.domain false) (Rows.dockingHelpsSpec.post enc Tryz.prog Tryz.f7 false true false false) := by
  refine returnsInHanded_of_change (C := Tryz.checked) own started (by kernel_rfl) Tryz.func7
    (ChangeSpec.witness6 (enc := enc) (C := Tryz.checked) false ⟨#[], #[.agg #[.string ⟨#[]⟩, .int .i64 0, .slice none 0 0, .string ⟨#[]⟩, .int .i64 0, .int .i64 0, .int .i64 0, .int .i64 0, .slice none 0 0, .int .i64 0, .slice none 0 0, .slice none 0 0, .int .i64 0, .int .i64 0], .slice none 0 0, .slice none 0 0], []⟩ 8 (by kernel_rfl) (by kernel_rfl) (by kernel_rfl) (by kernel_rfl)) ?_
  intro W base args ds gs before hval hW hcnd _
  exact law_stepW layOk laid (f := 7) (fn := Tryz.f7) (ts := [56, 57, 25]) (T := Tryz.f7.resultTypes[0]!) rfl rfl (by decide +kernel) (by decide +kernel) rfl (by kernel_rfl)
    (fun ds hd => match ds, hd with | [d0, d1, d2], _ => ⟨rfl, rfl, rfl⟩) law hval trivial hW

theorem over : Rows.dockingHelpsRow.holds Tryz.pinned (OpenSpec.ofChange Rows.dockingHelpsSpec) :=
  OpenClaim.holds_of_wide 7 Tryz.f7 rfl rfl rfl rfl rfl rfl rfl ⟨rfl, rfl, rfl, rfl, rfl⟩ rfl rfl rfl rfl rfl named Tryz.func7 facts inst wrap
    (fun os started H enc _ => lifted os started H enc)

theorem proved : Rows.DockingHelpsSaid := over
#print axioms proved
end Go.Proofs.YtaeeehokaleakaaGreat.dockingHelps
