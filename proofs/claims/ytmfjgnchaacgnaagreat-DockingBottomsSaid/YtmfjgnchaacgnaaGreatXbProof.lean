/- The bottom of a ship at a place is as specified: the law returns true for every input and leaves it as it was; no condition. -/
import Derived.Test.YtmfjgnchaacgnaaGreatXb1
import Derived.Test.YtmfjgnchaacgnaaGreatRows
import Derived.WalkKit
import Derived.ProofKit
import Derived.OpenShut
import Derived.Test.YtmfjgnchaacgnaaGreatFxDockingBottoms
namespace Go.Proofs.YtmfjgnchaacgnaaGreat.dockingBottoms
open Go.ChangeShapes Go.WideShapes Go.ChangeAt Go.RowKit Go.Pv

theorem own : ownKnob Tryz.prog.godebug = none := by kernel_rfl
theorem laid : laidOutB Tryz.prog = true := by kernel_rfl

theorem law (pargs : List PV) (hl : pargs.length = 3) (h : ∀ (i : Nat) t c, ([27, 3, 3] : List TypeId)[i]? = some t → pargs[i]? = some c → argW lay.get t c) : Ret Tryz.prog .shared 8 pargs (.bool true) := by
  match pargs, hl with
  | [c0, c1, c2], _ =>
    have h0 := h 0 27 c0 rfl rfl
    have h1 := h 1 3 c1 rfl rfl
    have h2 := h 2 3 c2 rfl rfl
    obtain ⟨s, rfl, hs⟩ := dkSh0 h0
    obtain ⟨x, rfl, -⟩ := dec_N h1
    obtain ⟨z, rfl, -⟩ := dec_N h2
    exact bottoms_law s hs x z

set_option maxRecDepth 100000 in
theorem lifted (os : Os) (started : os.Started) (H : Type) (enc : TypeId × Value → H) :
    ReturnsInHanded {} Tryz.checked os 8 .any (Rows.dockingBottomsSpec.pre6 enc Tryz.prog Tryz.f8 Rows.dockingBottomsRow.domain false) (Rows.dockingBottomsSpec.post enc Tryz.prog Tryz.f8 false true false false) := by
  refine returnsInHanded_of_change (C := Tryz.checked) own started (by kernel_rfl) Tryz.func8
    (ChangeSpec.witness6 (enc := enc) (C := Tryz.checked) false ⟨#[], #[.agg #[.string ⟨#[]⟩, .int .i64 0, .slice none 0 0, .string ⟨#[]⟩, .int .i64 0, .int .i64 0, .int .i64 0, .int .i64 0, .slice none 0 0], .int .i64 0, .int .i64 0], []⟩ 8 (by kernel_rfl) (by kernel_rfl) (by kernel_rfl) (by kernel_rfl)) ?_
  intro W base args ds gs before hval hW hcnd _
  exact law_stepW layOk laid (f := 8) (fn := Tryz.f8) (ts := [27, 3, 3]) (T := Tryz.f8.resultTypes[0]!) rfl rfl (by decide +kernel) (by decide +kernel) rfl (by kernel_rfl)
    (fun ds hd => match ds, hd with | [d0, d1, d2], _ => ⟨rfl, rfl, rfl⟩) law hval trivial hW

theorem over : Rows.dockingBottomsRow.holds Tryz.pinned (OpenSpec.ofChange Rows.dockingBottomsSpec) :=
  OpenClaim.holds_of_wide 8 Tryz.f8 rfl rfl rfl rfl rfl rfl rfl ⟨rfl, rfl, rfl, rfl, rfl⟩ rfl rfl rfl rfl rfl named Tryz.func8 facts inst wrap
    (fun os started H enc _ => lifted os started H enc)

theorem proved : Rows.DockingBottomsSaid := over
#print axioms proved
end Go.Proofs.YtmfjgnchaacgnaaGreat.dockingBottoms
