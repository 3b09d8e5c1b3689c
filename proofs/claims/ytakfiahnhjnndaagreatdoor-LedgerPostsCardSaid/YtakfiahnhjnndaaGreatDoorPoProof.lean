/- For all posts and texts CheckPost, FormatPost and ParsePost return what the document specifies, and what is written is read with its named fields: the law returns true for every input and leaves it as it was; condition: the tables and errors of the library are laid as the program's text lays them. -/
import Derived.Test.YtakfiahnhjnndaaGreatDoorPo6
import Derived.Test.YtakfiahnhjnndaaGreatDoorCards
import Derived.Test.YtakfiahnhjnndaaGreatDoorTie
import Derived.SevenTiedAt
namespace Go.Proofs.YtakfiahnhjnndaaGreatDoor.ledgerPosts
open Go.ChangeShapes Go.WideShapes Go.ChangeAt Go.RowKit Go.Pv Go.Proofs.YtakfiahnhjnndaaGreatDoor

theorem law (pargs : List PV) (hl : pargs.length = 2) (h : ∀ (i : Nat) t c, ([23, 9] : List TypeId)[i]? = some t → pargs[i]? = some c → argP lay.get t c) : Ret Tryz.prog .shared 3 pargs (.bool true) := by
  match pargs, hl with
  | [c0, c1], _ =>
    obtain ⟨cs, rfl, h0⟩ : ∃ cs, c0 = .agg cs ∧ tyP lay.get 6 23 cs := h 0 23 c0 rfl rfl
    obtain ⟨p, rfl⟩ := dec_post (n := 4) h0
    obtain ⟨s, hs⟩ := tyP_str (n := 5) (show tyP lay.get 6 9 [c1] from h 1 9 c1 rfl rfl) rfl
    cases hs
    exact posts_law awake_ret p s

set_option maxRecDepth 100000 in
theorem lifted (os : Os) (started : os.Started) (H : Type) (enc : TypeId × Value → H) :
    ReturnsInHanded {} Tryz.checked os 3 .any (fun w args => (Rows.ledgerPostsSpec.pre enc Tryz.prog Tryz.f3 [] false w args ∧ laidMetH Tryz.prog laidL w) ∧ sizedMet enc Tryz.prog Tryz.f3 (OpenSpec.ofChange Rows.ledgerPostsSpec) false w args)
      (Rows.ledgerPostsSpec.post enc Tryz.prog Tryz.f3 false true false false) := by
  refine returnsInHanded_of_change_and (C := Tryz.checked) (X := fun w _ => laidMetH Tryz.prog laidL w) (fun _ _ _ hh h => h.of_heap hh) ownL started (by kernel_rfl) Tryz.func3
    (ChangeSpec.witness_shaped (enc := enc) (C := Tryz.checked) (os := os) (X := fun w _ => laidMetH Tryz.prog laidL w) false (World.laidAll Tryz.prog os laidL) #[.agg #[.int .i64 0, .int .i64 0, .string ByteArray.empty, .string ByteArray.empty, .string ByteArray.empty, .string ByteArray.empty, .int .i64 0, .int .i64 0, .int .i64 0], .string ByteArray.empty] 8 (World.laidAll_os _ _ _)
      (World.shaped_of_ZipB (by kernel_rfl) (by kernel_rfl)) (by kernel_rfl) (by kernel_rfl) (by kernel_rfl) (laidL_met os _)) ?_
  intro W base args ds gs before hval hW hcnd _ hL _
  exact law_step layOk laidB (f := 3) (fn := Tryz.f3) (ts := [23, 9]) (T := Tryz.f3.resultTypes[0]!) rfl rfl (by decide +kernel) (by decide +kernel) rfl (by kernel_rfl)
    (fun ds hd => match ds, hd with | [d0, d1], _ => ⟨rfl, rfl, rfl⟩) law hval (laidL_glob hL) hW

theorem over : Rows.ledgerPostsRow.holds Tryz.pinned (OpenSpec.ofChange Rows.ledgerPostsSpec) :=
  OpenClaim.holds_of_wide 3 Tryz.f3 rfl rfl rfl rfl rfl rfl rfl ⟨rfl, rfl, rfl, rfl, rfl⟩ rfl rfl rfl rfl rfl (by kernel_rfl) Tryz.func3 (by kernel_rfl)
    (of_decide_eq_true (by kernel_rfl)) (by unfold Func.isWrapper; first | (rw [if_pos (by decide +kernel)]; kernel_rfl) | (rw [if_neg (by decide +kernel)]; exact ⟨rfl, rfl⟩))
    (fun os started H enc _ => lifted os started H enc)

theorem proved : Rows.LedgerPostsCardSaid :=
  Claim7.holds_tied_plain_at .later [] [.data, .data, .data, .data, .sentinel, .sentinel, .pinned] true (true, "afa898c441ae2e5084dab6eb81856fe62b1587f445f3033f350b02f272fb6e3d") true
    over (fun _ h => by cases h) (by kernel_rfl) (fun _ h => by cases h) ledgerPosts_row_tie rfl ⟨rfl, rfl⟩ (by kernel_rfl) rfl
    (fun f fn hf hfn => by
      obtain rfl : f = 3 := Option.some.inj ((show Tryz.prog.funcNamed "keelblock/keelblocklaw10.LedgerPosts" = some 3 by kernel_rfl).symm.trans hf) |>.symm
      obtain rfl : fn = Tryz.f3 := (Option.some.inj (Tryz.func3.symm.trans hfn)).symm
      exact ⟨by kernel_rfl, fun j t ht => by
        rw [show Tryz.f3.params = #[23, 9] by kernel_rfl] at ht
        have hm : t ∈ [23, 9] := by simpa using Array.mem_of_getElem? ht
        have hall : ([23, 9].all fun u => !Tryz.prog.wantsStandIn u) = true := by kernel_rfl
        exact (show Tryz.prog.wantsStandIn t = false by simpa using List.all_eq_true.1 hall t hm)⟩)
    (by kernel_rfl)
#print axioms proved
end Go.Proofs.YtakfiahnhjnndaaGreatDoor.ledgerPosts
