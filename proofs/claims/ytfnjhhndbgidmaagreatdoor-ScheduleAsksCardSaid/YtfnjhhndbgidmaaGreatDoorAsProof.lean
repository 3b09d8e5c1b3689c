/- For all work and slots Asks returns the permits of a plan, PrintPlan the lines of slots, or the errors that the document specifies, and permits of items that exclude each other have no day in common: the law returns true for every input and leaves it as it was; condition: the tables of math/bits and internal/strconv are laid as the program's text lays them. -/
import Derived.Test.YtfnjhhndbgidmaaGreatDoorAs6
import Derived.Test.YtfnjhhndbgidmaaGreatDoorCards
import Derived.Test.YtfnjhhndbgidmaaGreatDoorTie
import Derived.SevenTiedAt
namespace Go.Proofs.YtfnjhhndbgidmaaGreatDoor.scheduleAsks
open Go.ChangeShapes Go.WideShapes Go.ChangeAt Go.RowKit Go.Pv Go.Proofs.YtfnjhhndbgidmaaGreatDoor

theorem law (pargs : List PV) (hl : pargs.length = 2) (h : ∀ (i : Nat) t c, ([28, 29] : List TypeId)[i]? = some t → pargs[i]? = some c → argP lay.get t c) : Ret Tryz.prog .shared 4 pargs (.bool true) := by
  match pargs, hl with
  | [c0, c1], _ =>
    have h0 := h 0 28 c0 rfl rfl
    have h1 := h 1 29 c1 rfl rfl
    obtain ⟨w, rfl⟩ := dec_work h0
    obtain ⟨s, rfl⟩ := dec_slots h1
    exact asks_law awake_ret w s

set_option maxRecDepth 100000 in
theorem lifted (os : Os) (started : os.Started) (H : Type) (enc : TypeId × Value → H) :
    ReturnsInHanded {} Tryz.checked os 4 .any (fun w args => (Rows.scheduleAsksSpec.pre enc Tryz.prog Tryz.f4 [] false w args ∧ laidMetH Tryz.prog laidL w) ∧ sizedMet enc Tryz.prog Tryz.f4 (OpenSpec.ofChange Rows.scheduleAsksSpec) false w args)
      (Rows.scheduleAsksSpec.post enc Tryz.prog Tryz.f4 false true false false) := by
  refine returnsInHanded_of_change_and (C := Tryz.checked) (X := fun w _ => laidMetH Tryz.prog laidL w) (fun _ _ _ hh h => h.of_heap hh) ownL started (by kernel_rfl) Tryz.func4
    (ChangeSpec.witness_shaped (enc := enc) (C := Tryz.checked) (os := os) (X := fun w _ => laidMetH Tryz.prog laidL w) false (World.laidAll Tryz.prog os laidL) #[.agg #[.slice none 0 0, .slice none 0 0, .slice none 0 0, .slice none 0 0, .slice none 0 0, .int .i64 0, .int .i64 0, .int .i64 0, .int .i64 0], .slice none 0 0] 8 (World.laidAll_os _ _ _)
      (World.shaped_of_ZipB (by kernel_rfl) (by kernel_rfl)) (by kernel_rfl) (by kernel_rfl) (by kernel_rfl) (laidL_met os _)) ?_
  intro W base args ds gs before hval hW hcnd _ hL _
  exact law_step layOk laidB (f := 4) (fn := Tryz.f4) (ts := [28, 29]) (T := Tryz.f4.resultTypes[0]!) rfl rfl (by decide +kernel) (by decide +kernel) rfl (by kernel_rfl)
    (fun ds hd => match ds, hd with | [d0, d1], _ => ⟨rfl, rfl, rfl⟩) law hval (laidL_glob hL) hW

theorem over : Rows.scheduleAsksRow.holds Tryz.pinned (OpenSpec.ofChange Rows.scheduleAsksSpec) :=
  OpenClaim.holds_of_wide 4 Tryz.f4 rfl rfl rfl rfl rfl rfl rfl ⟨rfl, rfl, rfl, rfl, rfl⟩ rfl rfl rfl rfl rfl (by kernel_rfl) Tryz.func4 (by kernel_rfl)
    (of_decide_eq_true (by kernel_rfl)) (by unfold Func.isWrapper; first | (rw [if_pos (by decide +kernel)]; kernel_rfl) | (rw [if_neg (by decide +kernel)]; exact ⟨rfl, rfl⟩))
    (fun os started H enc _ => lifted os started H enc)

theorem proved : Rows.ScheduleAsksCardSaid :=
  Claim7.holds_tied_plain_at .later [] [.data, .data, .data] true (true, "3fce6534dcb080a3964980b628da3ed683efb28cfe849d8c1903070e375f5f8a") false
    over (fun _ h => by cases h) (by kernel_rfl) (fun _ h => by cases h) scheduleAsks_row_tie rfl ⟨rfl, rfl⟩ (by kernel_rfl) rfl
    (fun f fn hf hfn => by
      obtain rfl : f = 4 := Option.some.inj ((show Tryz.prog.funcNamed "keelblock/keelblocklaw08.ScheduleAsks" = some 4 by kernel_rfl).symm.trans hf) |>.symm
      obtain rfl : fn = Tryz.f4 := (Option.some.inj (Tryz.func4.symm.trans hfn)).symm
      exact ⟨by kernel_rfl, fun j t ht => by
        rw [show Tryz.f4.params = #[28, 29] by kernel_rfl] at ht
        have hm : t ∈ [28, 29] := by simpa using Array.mem_of_getElem? ht
        have hall : ([28, 29].all fun u => !Tryz.prog.wantsStandIn u) = true := by kernel_rfl
        exact (show Tryz.prog.wantsStandIn t = false by simpa using List.all_eq_true.1 hall t hm)⟩)
    (by kernel_rfl)
#print axioms proved
end Go.Proofs.YtfnjhhndbgidmaaGreatDoor.scheduleAsks
