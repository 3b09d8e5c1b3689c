/- A row of blocks is laid, and a block is taken away, as by the reference, or the errors are the same: the law returns true for every input and leaves it as it was; no condition. -/
import Derived.Test.YtmfjgnchaacgnaaGreatXl1
import Derived.Test.YtmfjgnchaacgnaaGreatRows
import Derived.WalkKit
import Derived.ProofKit
import Derived.OpenShut
import Derived.Test.YtmfjgnchaacgnaaGreatFxDockingLays
namespace Go.Proofs.YtmfjgnchaacgnaaGreat.dockingLays
open Go.ChangeShapes Go.WideShapes Go.ChangeAt Go.RowKit Go.Pv

theorem own : ownKnob Tryz.prog.godebug = none := by kernel_rfl
theorem laid : laidOutB Tryz.prog = true := by kernel_rfl

theorem law (pargs : List PV) (hl : pargs.length = 3) (h : ∀ (i : Nat) t c, ([31, 110, 3] : List TypeId)[i]? = some t → pargs[i]? = some c → argW lay.get t c) : Ret Tryz.prog .shared 11 pargs (.bool true) := by
  match pargs, hl with
  | [c0, c1, c2], _ =>
    have h0 := h 0 31 c0 rfl rfl
    have h1 := h 1 110 c1 rfl rfl
    have h2 := h 2 3 c2 rfl rfl
    obtain ⟨d, rfl, hd⟩ := dkD0 h0
    obtain ⟨b, st, n, rfl, hx⟩ := dkPt0 h1
    obtain ⟨i, rfl, -⟩ := dec_N h2
    exact lays_law d hd b st n i hx

set_option maxRecDepth 100000 in
theorem lifted (os : Os) (started : os.Started) (H : Type) (enc : TypeId × Value → H) :
    ReturnsInHanded {} Tryz.checked os 11 .any (Rows.dockingLaysSpec.pre6 enc Tryz.prog Tryz.f11 Rows.dockingLaysRow.domain false) (Rows.dockingLaysSpec.post enc Tryz.prog Tryz.f11 false true false false) := by
  refine returnsInHanded_of_change (C := Tryz.checked) own started (by kernel_rfl) Tryz.func11
    (ChangeSpec.witness6 (enc := enc) (C := Tryz.checked) false ⟨#[], #[.agg #[.string ⟨#[]⟩, .int .i64 0, .slice none 0 0, .string ⟨#[]⟩, .int .i64 0, .int .i64 0, .int .i64 0, .int .i64 0, .slice none 0 0, .int .i64 0, .slice none 0 0, .slice none 0 0, .int .i64 0, .int .i64 0], .agg #[.int .i64 0, .int .i64 0, .int .i64 0, .int .i64 0, .int .i64 0, .bool false, .slice none 0 0, .bool false, .slice none 0 0, .int .i64 0, .bool false, .int .i64 0, .int .i64 0], .int .i64 0], []⟩ 8 (by kernel_rfl) (by kernel_rfl) (by kernel_rfl) (by kernel_rfl)) ?_
  intro W base args ds gs before hval hW hcnd _
  exact law_stepW layOk laid (f := 11) (fn := Tryz.f11) (ts := [31, 110, 3]) (T := Tryz.f11.resultTypes[0]!) rfl rfl (by decide +kernel) (by decide +kernel) rfl (by kernel_rfl)
    (fun ds hd => match ds, hd with | [d0, d1, d2], _ => ⟨rfl, rfl, rfl⟩) law hval trivial hW

theorem over : Rows.dockingLaysRow.holds Tryz.pinned (OpenSpec.ofChange Rows.dockingLaysSpec) :=
  OpenClaim.holds_of_wide 11 Tryz.f11 rfl rfl rfl rfl rfl rfl rfl ⟨rfl, rfl, rfl, rfl, rfl⟩ rfl rfl rfl rfl rfl named Tryz.func11 facts inst wrap
    (fun os started H enc _ => lifted os started H enc)

theorem proved : Rows.DockingLaysSaid := over
#print axioms proved
end Go.Proofs.YtmfjgnchaacgnaaGreat.dockingLays
