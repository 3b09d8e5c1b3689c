/- From a journal that is cut at any byte just the whole lines are recovered, and of a journal of which any byte is changed nothing else in place of the lines ahead of that byte: the law returns true for every input and leaves it as it was; condition: the tables and errors of the library are laid as the program's text lays them. -/
import Derived.Test.YtakfiahnhjnndaaGreatDoorCu6
import Derived.Test.YtakfiahnhjnndaaGreatDoorCards
import Derived.Test.YtakfiahnhjnndaaGreatDoorTie
import Derived.SevenTiedAt
namespace Go.Proofs.YtakfiahnhjnndaaGreatDoor.ledgerCuts
open Go.ChangeShapes Go.WideShapes Go.ChangeAt Go.RowKit Go.Pv Go.Proofs.YtakfiahnhjnndaaGreatDoor

theorem law (pargs : List PV) (hl : pargs.length = 3) (h : ∀ (i : Nat) t c, ([39, 3, 5] : List TypeId)[i]? = some t → pargs[i]? = some c → argP lay.get t c) : Ret Tryz.prog .shared 5 pargs (.bool true) := by
  match pargs, hl with
  | [c0, c1, c2], _ =>
    have h0 := h 0 39 c0 rfl rfl
    have h1 := h 1 3 c1 rfl rfl
    have h2 := h 2 5 c2 rfl rfl
    obtain ⟨l, rfl⟩ := dec_posts (h 0 39 c0 rfl rfl)
    obtain ⟨n, hn⟩ := tyP_int (n := 5) (show tyP lay.get 6 3 [c1] from h 1 3 c1 rfl rfl) rfl
    cases hn
    obtain ⟨b, hb, hb0, hb1⟩ := tyP_intB (n := 5) (show tyP lay.get 6 5 [c2] from h 2 5 c2 rfl rfl) rfl
    cases hb
    have g0 : 0 ≤ b := hb0
    have g1 : b ≤ 255 := hb1
    have hc : ((UInt8.ofNat b.toNat).toNat : Int) = b := by
      rw [UInt8.toNat_ofNat']
      omega
    have := cuts_law awake_ret l n (UInt8.ofNat b.toNat)
    rwa [hc] at this

set_option maxRecDepth 100000 in
theorem lifted (os : Os) (started : os.Started) (H : Type) (enc : TypeId × Value → H) :
    ReturnsInHanded {} Tryz.checked os 5 .any (fun w args => (Rows.ledgerCutsSpec.pre enc Tryz.prog Tryz.f5 [] false w args ∧ laidMetH Tryz.prog laidL w) ∧ sizedMet enc Tryz.prog Tryz.f5 (OpenSpec.ofChange Rows.ledgerCutsSpec) false w args)
      (Rows.ledgerCutsSpec.post enc Tryz.prog Tryz.f5 false true false false) := by
  refine handed_and_shaped (C := Tryz.checked) (X := fun w _ => laidMetH Tryz.prog laidL w) (fun _ _ _ hh h => h.of_heap hh) ownL started (by kernel_rfl) Tryz.func5
    (ChangeSpec.witness_shaped (enc := enc) (C := Tryz.checked) (os := os) (X := fun w _ => laidMetH Tryz.prog laidL w) false (World.laidAll Tryz.prog os laidL) #[.slice none 0 0, .int .i64 0, .int .u8 0] 8 (World.laidAll_os _ _ _)
      (World.shaped_of_ZipB (by kernel_rfl) (by kernel_rfl)) (by kernel_rfl) (by kernel_rfl) (by kernel_rfl) (laidL_met os _)) ?_
  intro W base args ds gs before hval hW hcnd _ hL hSh _
  exact law_step layOk laidB (f := 5) (fn := Tryz.f5) (ts := [39, 3, 5]) (T := Tryz.f5.resultTypes[0]!) rfl rfl (by decide +kernel) (by decide +kernel) rfl (by kernel_rfl)
    (fun ds hd => match ds, hd with | [d0, d1, d2], _ => ⟨rfl, rfl, rfl⟩) law hval (laidL_max hL hSh) hW

theorem over : Rows.ledgerCutsRow.holds Tryz.pinned (OpenSpec.ofChange Rows.ledgerCutsSpec) :=
  OpenClaim.holds_of_wide 5 Tryz.f5 rfl rfl rfl rfl rfl rfl rfl ⟨rfl, rfl, rfl, rfl, rfl⟩ rfl rfl rfl rfl rfl (by kernel_rfl) Tryz.func5 (by kernel_rfl)
    (of_decide_eq_true (by kernel_rfl)) (by unfold Func.isWrapper; first | (rw [if_pos (by decide +kernel)]; kernel_rfl) | (rw [if_neg (by decide +kernel)]; exact ⟨rfl, rfl⟩))
    (fun os started H enc _ => lifted os started H enc)

theorem proved : Rows.LedgerCutsCardSaid :=
  Claim7.holds_tied_plain_at .later [] [.data, .data, .data, .data, .sentinel, .sentinel, .pinned] true (true, "afa898c441ae2e5084dab6eb81856fe62b1587f445f3033f350b02f272fb6e3d") true
    over (fun _ h => by cases h) (by kernel_rfl) (fun _ h => by cases h) ledgerCuts_row_tie rfl ⟨rfl, rfl⟩ (by kernel_rfl) rfl
    (fun f fn hf hfn => by
      obtain rfl : f = 5 := Option.some.inj ((show Tryz.prog.funcNamed "keelblock/keelblocklaw10.LedgerCuts" = some 5 by kernel_rfl).symm.trans hf) |>.symm
      obtain rfl : fn = Tryz.f5 := (Option.some.inj (Tryz.func5.symm.trans hfn)).symm
      exact ⟨by kernel_rfl, fun j t ht => by
        rw [show Tryz.f5.params = #[39, 3, 5] by kernel_rfl] at ht
        have hm : t ∈ [39, 3, 5] := by simpa using Array.mem_of_getElem? ht
        have hall : ([39, 3, 5].all fun u => !Tryz.prog.wantsStandIn u) = true := by kernel_rfl
        exact (show Tryz.prog.wantsStandIn t = false by simpa using List.all_eq_true.1 hall t hm)⟩)
    (by kernel_rfl)
#print axioms proved
end Go.Proofs.YtakfiahnhjnndaaGreatDoor.ledgerCuts
