/- The body of a ship on supports, and its floating position: the law returns true for every input and leaves it as it was; no condition. -/
import Derived.Test.YtcnpaheefnefoaaGreatSh1
import Derived.Test.YtcnpaheefnefoaaGreatRows
import Derived.WalkKit
import Derived.ProofKit
import Derived.OpenShut
import Derived.Test.YtcnpaheefnefoaaGreatFxFloatingShips
namespace Go.Proofs.YtcnpaheefnefoaaGreat.floatingShips
open Go.ChangeShapes Go.WideShapes Go.ChangeAt Go.RowKit Go.Pv

theorem own : ownKnob Tryz.prog.godebug = none := by kernel_rfl
theorem laid : laidOutB Tryz.prog = true := by kernel_rfl

theorem law (pargs : List PV) (hl : pargs.length = 3) (h : ∀ (i : Nat) t c, ([80, 3, 27] : List TypeId)[i]? = some t → pargs[i]? = some c → argW lay.get t c) : Ret Tryz.prog .shared 6 pargs (.bool true) := by
  match pargs, hl with
  | [c0, c1, c2], _ =>
    have h0 := h 0 80 c0 rfl rfl
    have h1 := h 1 3 c1 rfl rfl
    have h2 := h 2 27 c2 rfl rfl
    obtain ⟨s, rfl, hs⟩ := dec_Sh h0
    obtain ⟨d, hd, -⟩ := dec_int (n := 11) (show tyP lay.get 12 3 [c1] from h1)
    have hd : [c1] = [I d] := hd
    cases hd
    obtain ⟨l, rfl, h3, h4⟩ := dec_LL h2
    exact ships_law s hs d l h3 h4

set_option maxRecDepth 100000 in
theorem lifted (os : Os) (started : os.Started) (H : Type) (enc : TypeId × Value → H) :
    ReturnsInHanded {} Tryz.checked os 6 .any (Rows.floatingShipsSpec.pre6 enc Tryz.prog Tryz.f6 Rows.floatingShipsRow.domain false) (Rows.floatingShipsSpec.post enc Tryz.prog Tryz.f6 false true false false) := by
  refine returnsInHanded_of_change (C := Tryz.checked) own started (by kernel_rfl) Tryz.func6
    (ChangeSpec.witness6 (enc := enc) (C := Tryz.checked) false ⟨#[], #[.agg #[.string ⟨#[]⟩, .int .i64 0, .slice none 0 0, .string ⟨#[]⟩, .int .i64 0, .int .i64 0, .int .i64 0, .int .i64 0, .slice none 0 0], .int .i64 0, .slice none 0 0], []⟩ 8 (by kernel_rfl) (by kernel_rfl) (by kernel_rfl) (by kernel_rfl)) ?_
  intro W base args ds gs before hval hW hcnd _
  exact law_stepW layOk laid (f := 6) (fn := Tryz.f6) (ts := [80, 3, 27]) (T := Tryz.f6.resultTypes[0]!) rfl rfl (by decide +kernel) (by decide +kernel) rfl (by kernel_rfl)
    (fun ds hd => match ds, hd with | [d0, d1, d2], _ => ⟨rfl, rfl, rfl⟩) law hval trivial hW

theorem over : Rows.floatingShipsRow.holds Tryz.pinned (OpenSpec.ofChange Rows.floatingShipsSpec) :=
  OpenClaim.holds_of_wide 6 Tryz.f6 rfl rfl rfl rfl rfl rfl rfl ⟨rfl, rfl, rfl, rfl, rfl⟩ rfl rfl rfl rfl rfl named Tryz.func6 facts inst wrap
    (fun os started H enc _ => lifted os started H enc)

theorem proved : Rows.FloatingShipsSaid := over
#print axioms proved
end Go.Proofs.YtcnpaheefnefoaaGreat.floatingShips
