/- For all lists of posts and all numbers withdrawing an entry leaves the entries that are left if it, and what depends on it, was never posted: the law returns true for every input and leaves it as it was; condition: the tables of math/bits and internal/strconv are laid as the program's text lays them. -/
import Derived.Test.YtakfiahnhjnndaaDoorWi6
import Derived.Test.YtakfiahnhjnndaaDoorCards
import Derived.Test.YtakfiahnhjnndaaDoorTie
import Derived.SevenTiedAt
namespace Go.Proofs.YtakfiahnhjnndaaDoor.ledgerWithdraws
open Go.ChangeShapes Go.WideShapes Go.ChangeAt Go.RowKit Go.Pv Go.Proofs.YtakfiahnhjnndaaDoor

theorem law (pargs : List PV) (hl : pargs.length = 2) (h : ∀ (i : Nat) t c, ([22, 3] : List TypeId)[i]? = some t → pargs[i]? = some c → argP lay.get t c) : Ret Tryd.prog .shared 4 pargs (.bool true) := by
  match pargs, hl with
  | [c0, c1], _ =>
    obtain ⟨l, rfl⟩ := dec_posts (h 0 22 c0 rfl rfl)
    obtain ⟨n, hn⟩ := tyP_int (n := 5) (show tyP lay.get 6 3 [c1] from h 1 3 c1 rfl rfl) rfl
    cases hn
    exact withdraws_law awake_ret l n

set_option maxRecDepth 100000 in
theorem lifted (os : Os) (started : os.Started) (H : Type) (enc : TypeId × Value → H) :
    ReturnsInHanded {} Tryd.checked os 4 .any (fun w args => (Rows.ledgerWithdrawsSpec.pre enc Tryd.prog Tryd.f4 [] false w args ∧ laidMetH Tryd.prog laidL w) ∧ sizedMet enc Tryd.prog Tryd.f4 (OpenSpec.ofChange Rows.ledgerWithdrawsSpec) false w args)
      (Rows.ledgerWithdrawsSpec.post enc Tryd.prog Tryd.f4 false true false false) := by
  refine returnsInHanded_of_change_and (C := Tryd.checked) (X := fun w _ => laidMetH Tryd.prog laidL w) (fun _ _ _ hh h => h.of_heap hh) ownL started (by kernel_rfl) Tryd.func4
    (ChangeSpec.witness_shaped (enc := enc) (C := Tryd.checked) (os := os) (X := fun w _ => laidMetH Tryd.prog laidL w) false (World.laidAll Tryd.prog os laidL) #[.slice none 0 0, .int .i64 0] 8 (World.laidAll_os _ _ _)
      (World.shaped_of_ZipB (by kernel_rfl) (by kernel_rfl)) (by kernel_rfl) (by kernel_rfl) (by kernel_rfl) (laidL_met os _)) ?_
  intro W base args ds gs before hval hW hcnd _ hL _
  exact law_step layOk laidB (f := 4) (fn := Tryd.f4) (ts := [22, 3]) (T := Tryd.f4.resultTypes[0]!) rfl rfl (by decide +kernel) (by decide +kernel) rfl (by kernel_rfl)
    (fun ds hd => match ds, hd with | [d0, d1], _ => ⟨rfl, rfl, rfl⟩) law hval (laidL_glob hL) hW

theorem over : Rows.ledgerWithdrawsRow.holds Tryd.pinned (OpenSpec.ofChange Rows.ledgerWithdrawsSpec) :=
  OpenClaim.holds_of_wide 4 Tryd.f4 rfl rfl rfl rfl rfl rfl rfl ⟨rfl, rfl, rfl, rfl, rfl⟩ rfl rfl rfl rfl rfl (by kernel_rfl) Tryd.func4 (by kernel_rfl)
    (of_decide_eq_true (by kernel_rfl)) (by unfold Func.isWrapper; first | (rw [if_pos (by decide +kernel)]; kernel_rfl) | (rw [if_neg (by decide +kernel)]; exact ⟨rfl, rfl⟩))
    (fun os started H enc _ => lifted os started H enc)

theorem proved : Rows.LedgerWithdrawsCardSaid :=
  Claim7.holds_tied_plain_at .later [] [.data, .data, .data] true (true, "32cf2ab92f3208ad603ca289e87ea6167c677dd319cc96df5ee209f7e0380a66") false
    over (fun _ h => by cases h) (by kernel_rfl) (fun _ h => by cases h) ledgerWithdraws_row_tie rfl ⟨rfl, rfl⟩ (by kernel_rfl) rfl
    (fun f fn hf hfn => by
      obtain rfl : f = 4 := Option.some.inj ((show Tryd.prog.funcNamed "keelblock/keelblocklaw10.LedgerWithdraws" = some 4 by kernel_rfl).symm.trans hf) |>.symm
      obtain rfl : fn = Tryd.f4 := (Option.some.inj (Tryd.func4.symm.trans hfn)).symm
      exact ⟨by kernel_rfl, fun j t ht => by
        rw [show Tryd.f4.params = #[22, 3] by kernel_rfl] at ht
        have hm : t ∈ [22, 3] := by simpa using Array.mem_of_getElem? ht
        have hall : ([22, 3].all fun u => !Tryd.prog.wantsStandIn u) = true := by kernel_rfl
        exact (show Tryd.prog.wantsStandIn t = false by simpa using List.all_eq_true.1 hall t hm)⟩)
    (by kernel_rfl)
#print axioms proved
end Go.Proofs.YtakfiahnhjnndaaDoor.ledgerWithdraws
