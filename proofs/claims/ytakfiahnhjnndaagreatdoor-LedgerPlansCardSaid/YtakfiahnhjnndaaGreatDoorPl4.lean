/- Texts of one hand, gathered: LaF, LaG, LaH, LaI, LaJ, LaK, LaL, LaM, LaN, LaO, LaP, LaQ, LaR, LaS, LaT, LaU, LaV, LeA, LaW, Shelf, LaY, LaZ, LbA, LbB, LbC, LeB, LeC, LeD, LeE, SortP, LeF, LeG, LeH. -/
import Derived.Test.YtakfiahnhjnndaaGreatDoorPl3
import Derived.Shelf.Strings.Builder1
import Derived.Shelf.Strings.Builder2
import Derived.Shelf.Strings.OnBuilder
import Derived.Shelf.Small.Bits
import Derived.Shelf.Small.Strs
import Derived.Shelf.Strings.BuilderF
import Derived.Shelf.Strings.BuilderK
import Derived.Shelf.Utf8.RuneCount
import Derived.Shelf.Strings.Builder2Cap
import Derived.Shelf.Strconv.Atoi
import Derived.Shelf.Strconv.Itoa0
import Derived.Shelf.Strconv.Itoa1
import Derived.Shelf.LaysM
import Derived.Shelf.Strconv.Itoa2
import Derived.Shelf.Strconv.Itoa3
import Derived.Shelf.Strconv.AtoiErrFast
import Derived.Shelf.Strconv.ParseIntEmpty
import Derived.Shelf.Strconv.AtoiFail
import Derived.Shelf.Strconv.Clone
import Derived.Shelf.Strconv.SyntaxError
import Derived.Shelf.LaysC
import Derived.Shelf.Strconv.ToError
import Derived.Shelf.Strconv.Lower
import Derived.Shelf.Strconv.ParseUint10
import Derived.Shelf.Strconv.ParseUint10Empty
import Derived.Shelf.Strconv.ParseUint10Any
import Derived.Shelf.Strconv.ParseInt10
import Derived.Shelf.Strconv.AtoiLong
import Derived.Shelf.Strconv.AtoiInnerAll
import Derived.Shelf.Strconv.RangeError
import Derived.Shelf.Strconv.ToErrorRange
import Derived.Shelf.Strconv.AtoiAll
import Derived.Shelf.Strings.Search1
import Derived.Shelf.Strings.Search2
import Derived.Shelf.Strings.Search3
import Derived.Shelf.Strings.Cut
import Derived.Shelf.Strings.Count
import Derived.Shelf.Strings.Shaped
import Derived.Shelf.Sort.Plain
import Derived.Shelf.Strings.Prefix
import Derived.Shelf.Strings.Split
import Derived.Shelf.Strings.SplitShaped
import Derived.Shelf.Unicode.Decode
import Derived.Shelf.Strings.RuneCount
import Derived.Shelf.Strings.Explode
import Derived.Shelf.Unicode.DecodeSlow
import Derived.Shelf.Unicode.DecodeAny
import Derived.Shelf.Strings.BuilderCap
import Derived.Shelf.Slices.Turned
import Derived.Shelf.Slices.CompactS
import Derived.Shelf.Slices.Cells
import Derived.Shelf.Slices.In.SortNone
import Derived.Test.YtakfiahnhjnndaaGreatDoorProg
import Derived.Lib.AppendIntMem
import Derived.Lib.SlicesCompact
import Derived.Sort.Grow
import Derived.Shelf.GgSortFunc.RowK
import Derived.Shelf.SlGeneric
import Derived.Shelf.SlSortCmp.WholeK
import Derived.Shelf.SlSortCmp.NoneTotal
import Derived.Sort.Walk0
set_option linter.unusedSectionVars false
set_option linter.unusedSimpArgs false
set_option linter.unusedVariables false
set_option linter.unnecessarySimpa false
set_option maxHeartbeats 2000000
namespace Go.Pv
attribute [local irreducible] PWP POps PQuiet PSem XThen XBlock RetPost InlPost
open Go.Proofs
def refE (l : List SPost) (p : SPost) : Int :=
  if p.op = 0 then (if 0 < ordNo l p.order then 5 else 0)
  else if p.op = 1 then (if standE l (ordNo l p.order) = 0 then (if 0 < itmNo l p.order p.item then 5 else 0) else standE l (ordNo l p.order))
  else if p.op = 4 then (if aimE l p.ref [2, 3] = 0 then (if (entL l p.ref).op = 3 ∧ (entL l p.ref).who = p.who then 26 else 0) else aimE l p.ref [2, 3])
  else if p.op = 5 then (if aimE l p.ref [1, 2, 3] = 0 then (if ¬ (entL l p.ref).op = 2 ∧ p.amount < 0 then 2 else 0) else aimE l p.ref [1, 2, 3])
  else if p.op = 8 then aimE l p.ref [0, 1, 2, 3, 4, 5, 6, 7]
  else standE l (supNo l p)
theorem ordNo_le (l : List SPost) (nm : Str) : 0 ≤ ordNo l nm ∧ ordNo l nm ≤ l.length := by
  have := idx_bounds l fun p => decide (p.op = 0) && decide (p.order = nm)
  rw [ordNo]; omega
theorem itmNo_le (l : List SPost) (o nm : Str) : 0 ≤ itmNo l o nm ∧ itmNo l o nm ≤ l.length := by
  have := idx_bounds l fun p => decide (p.op = 1) && decide (p.order = o) && decide (p.item = nm)
  rw [itmNo]; omega
theorem aimE_zero {l : List SPost} {n : Int} {ks : List Int} (h : aimE l n ks = 0) : 1 ≤ n ∧ n ≤ l.length := by
  rw [aimE] at h
  split at h
  · omega
  · rename_i h'; simpa [inside] using h'
theorem refused_ret (l : List SPost) (hW : Wf l) (p : SPost) : Ret Tryz.prog .shared 102 [.dref (eBook l) 0, .agg (ePost p)] (I (refE l p)) := by
  have ho := (ordR_at l p.order).1
  have hi := (itmR_at l p.order p.item).1
  have hob := ordNo_le l p.order
  rw [refE]
  by_cases h0 : p.op = 0
  · rw [if_pos h0]
    refine Ret.of_pwp layOk mixed Go.Proofs.Tryz.func102 rfl (by decide) rfl rfl ?_
    repeat (first|(refine stp rfl ?_ ?_;·repeat' constructor)|(refine pw_cond rfl (fun hA => absurd hA (by intro hA; simp only [decide_eq_true_eq, decide_eq_false_iff_not, Bool.not_eq_true', Bool.not_eq_false'] at hA; omega)) (fun _ => ?_))|(refine pw_cond rfl (fun _ => ?_) (fun hA => absurd hA (by intro hA; simp only [decide_eq_true_eq, decide_eq_false_iff_not, Bool.not_eq_true', Bool.not_eq_false'] at hA; omega))))
    refine pw_draw 8 [13, 14, 15, 16, 17, 18, 19, 20] (by decide +kernel) ?_
    repeat (refine stp rfl ?_ ?_;·repeat' constructor)
    apply qst;exact rfl;exact rfl;exact q_lookV none ho (ordR_keyed l) zone3 rfl rfl rfl rfl rfl rfl rfl rfl rfl
    repeat (refine stp rfl ?_ ?_;·repeat' constructor)
    refine pw_cond rfl (fun h => ?_) (fun h => ?_)
    · have := of_decide_eq_true h
      repeat (refine stp rfl ?_ ?_;·repeat' constructor)
      exact end1i rfl rfl (by rw [if_pos this])
    · have := of_decide_eq_false h
      repeat (refine stp rfl ?_ ?_;·repeat' constructor)
      exact end1i rfl rfl (by rw [if_neg this])
  rw [if_neg h0]
  by_cases h1 : p.op = 1
  · rw [if_pos h1]
    have hs := standing_ret l hW _ hob.2
    clear h0
    refine Ret.of_pwp layOk mixed Go.Proofs.Tryz.func102 rfl (by decide) rfl rfl ?_
    repeat (first|(refine stp rfl ?_ ?_;·repeat' constructor)|(refine pw_cond rfl (fun hA => absurd hA (by intro hA; simp only [decide_eq_true_eq, decide_eq_false_iff_not, Bool.not_eq_true', Bool.not_eq_false'] at hA; omega)) (fun _ => ?_))|(refine pw_cond rfl (fun _ => ?_) (fun hA => absurd hA (by intro hA; simp only [decide_eq_true_eq, decide_eq_false_iff_not, Bool.not_eq_true', Bool.not_eq_false'] at hA; omega))))
    refine pw_draw 10 [23, 24, 25, 26, 27, 28, 29, 30, 31, 5] (by decide +kernel) ?_
    repeat (refine stp rfl ?_ ?_;·repeat' constructor)
    apply qst;exact rfl;exact rfl;exact q_lookV none ho (ordR_keyed l) zone3 rfl rfl rfl rfl rfl rfl rfl rfl rfl
    repeat (refine stp rfl ?_ ?_;·repeat' constructor)
    apply qst;exact rfl;exact rfl;exact q_callP rfl (hs) rfl (by repeat' constructor) rfl rfl
    repeat (refine stp rfl ?_ ?_;·repeat' constructor)
    refine pw_cond rfl (fun h => ?_) (fun h => ?_)
    · have he : ¬ standE l (ordNo l p.order) = 0 := by simpa using h
      repeat (refine stp rfl ?_ ?_;·repeat' constructor)
      exact end1i rfl rfl (by rw [if_neg he])
    have he : standE l (ordNo l p.order) = 0 := by simpa using h
    rw [if_pos he]
    clear h
    repeat (refine stp rfl ?_ ?_;·repeat' constructor)
    refine pw_draw 11 [35, 36, 37, 38, 39, 40, 41, 42, 43, 44, 45] (by decide +kernel) ?_
    repeat (refine stp rfl ?_ ?_;·repeat' constructor)
    apply qst;exact rfl;exact rfl;exact q_lookV (some [.str, .str]) hi (itmR_keyed l _) zone3 good72 rfl rfl rfl rfl rfl rfl rfl rfl
    repeat (refine stp rfl ?_ ?_;·repeat' constructor)
    refine pw_cond rfl (fun h => ?_) (fun h => ?_)
    · have := of_decide_eq_true h
      repeat (refine stp rfl ?_ ?_;·repeat' constructor)
      exact end1i rfl rfl (by rw [if_pos this])
    · have := of_decide_eq_false h
      repeat (refine stp rfl ?_ ?_;·repeat' constructor)
      exact end1i rfl rfl (by rw [if_neg this])
  rw [if_neg h1]
  by_cases h4 : p.op = 4
  · rw [if_pos h4]
    have ha := aimed_ret l hW p.ref [2, 3] (by decide)
    have hz := fun h => aimE_zero (l := l) (n := p.ref) (ks := [2, 3]) h
    clear h0 h1
    refine Ret.of_pwp layOk mixed Go.Proofs.Tryz.func102 rfl (by decide) rfl rfl ?_
    repeat (first|(refine stp rfl ?_ ?_;·repeat' constructor)|(refine pw_cond rfl (fun hA => absurd hA (by intro hA; simp only [decide_eq_true_eq, decide_eq_false_iff_not, Bool.not_eq_true', Bool.not_eq_false'] at hA; omega)) (fun _ => ?_))|(refine pw_cond rfl (fun _ => ?_) (fun hA => absurd hA (by intro hA; simp only [decide_eq_true_eq, decide_eq_false_iff_not, Bool.not_eq_true', Bool.not_eq_false'] at hA; omega))))
    apply qst;exact rfl;exact rfl;exact q_slit rfl rfl rfl rfl rfl rfl rfl rfl rfl rfl (by repeat' constructor) rfl
    repeat (refine stp rfl ?_ ?_;·repeat' constructor)
    apply qst;exact rfl;exact rfl;exact q_callP rfl (ha) rfl (by repeat' constructor) rfl rfl
    repeat (refine stp rfl ?_ ?_;·repeat' constructor)
    refine pw_cond rfl (fun h => ?_) (fun h => ?_)
    · have he : ¬ aimE l p.ref [2, 3] = 0 := by simpa using h
      repeat (refine stp rfl ?_ ?_;·repeat' constructor)
      exact end1i rfl rfl (by rw [if_neg he])
    have he : aimE l p.ref [2, 3] = 0 := by simpa using h
    rw [if_pos he]
    clear h
    have hb := hz he
    have hen := entry_ret l p.ref hb.1 hb.2 hW.len
    repeat (refine stp rfl ?_ ?_;·repeat' constructor)
    apply qst;exact rfl;exact rfl;exact q_call rfl (hen) rfl (by repeat' constructor) rfl
    repeat (refine stp rfl ?_ ?_;·repeat' constructor)
    (first | refine ps_split rfl rfl (fun h => ?_) (fun h => ?_) | refine pq_split rfl rfl (fun h => ?_) (fun h => ?_) | refine p3_split rfl rfl (fun h => ?_) (fun h => ?_))
    · have g1 := of_decide_eq_true h
      repeat (refine stp rfl ?_ ?_;·repeat' constructor)
      refine pw_cond rfl (fun h => ?_) (fun h => ?_)
      · have g2 := of_decide_eq_true h
        repeat (refine stp rfl ?_ ?_;·repeat' constructor)
        exact end1i rfl rfl (by rw [if_pos ⟨g1, g2⟩])
      · have g2 := of_decide_eq_false h
        repeat (refine stp rfl ?_ ?_;·repeat' constructor)
        exact end1i rfl rfl (by rw [if_neg (fun h => g2 h.2)])
    · have g1 : ¬ (entL l p.ref).op = 3 := by simpa using h
      repeat (refine stp rfl ?_ ?_;·repeat' constructor)
      exact end1i rfl rfl (by rw [if_neg (fun h => g1 h.1)])
  rw [if_neg h4]
  by_cases h5 : p.op = 5
  · rw [if_pos h5]
    have ha := aimed_ret l hW p.ref [1, 2, 3] (by decide)
    have hz := fun h => aimE_zero (l := l) (n := p.ref) (ks := [1, 2, 3]) h
    clear h0 h1 h4
    refine Ret.of_pwp layOk mixed Go.Proofs.Tryz.func102 rfl (by decide) rfl rfl ?_
    repeat (first|(refine stp rfl ?_ ?_;·repeat' constructor)|(refine pw_cond rfl (fun hA => absurd hA (by intro hA; simp only [decide_eq_true_eq, decide_eq_false_iff_not, Bool.not_eq_true', Bool.not_eq_false'] at hA; omega)) (fun _ => ?_))|(refine pw_cond rfl (fun _ => ?_) (fun hA => absurd hA (by intro hA; simp only [decide_eq_true_eq, decide_eq_false_iff_not, Bool.not_eq_true', Bool.not_eq_false'] at hA; omega))))
    apply qst;exact rfl;exact rfl;exact q_slit rfl rfl rfl rfl rfl rfl rfl rfl rfl rfl (by repeat' constructor) rfl
    repeat (refine stp rfl ?_ ?_;·repeat' constructor)
    apply qst;exact rfl;exact rfl;exact q_callP rfl (ha) rfl (by repeat' constructor) rfl rfl
    repeat (refine stp rfl ?_ ?_;·repeat' constructor)
    refine pw_cond rfl (fun h => ?_) (fun h => ?_)
    · have he : ¬ aimE l p.ref [1, 2, 3] = 0 := by simpa using h
      repeat (refine stp rfl ?_ ?_;·repeat' constructor)
      exact end1i rfl rfl (by rw [if_neg he])
    have he : aimE l p.ref [1, 2, 3] = 0 := by simpa using h
    rw [if_pos he]
    clear h
    have hb := hz he
    have hen := entry_ret l p.ref hb.1 hb.2 hW.len
    repeat (refine stp rfl ?_ ?_;·repeat' constructor)
    apply qst;exact rfl;exact rfl;exact q_call rfl (hen) rfl (by repeat' constructor) rfl
    repeat (refine stp rfl ?_ ?_;·repeat' constructor)
    (first | refine ps_split rfl rfl (fun h => ?_) (fun h => ?_) | refine pq_split rfl rfl (fun h => ?_) (fun h => ?_) | refine p3_split rfl rfl (fun h => ?_) (fun h => ?_))
    · have g1 : ¬ (entL l p.ref).op = 2 := by simpa using h
      repeat (refine stp rfl ?_ ?_;·repeat' constructor)
      refine pw_cond rfl (fun h => ?_) (fun h => ?_)
      · have g2 := of_decide_eq_true h
        repeat (refine stp rfl ?_ ?_;·repeat' constructor)
        exact end1i rfl rfl (by rw [if_pos ⟨g1, g2⟩])
      · have g2 := of_decide_eq_false h
        repeat (refine stp rfl ?_ ?_;·repeat' constructor)
        exact end1i rfl rfl (by rw [if_neg (fun h => g2 h.2)])
    · have g1 : (entL l p.ref).op = 2 := by simpa using h
      repeat (refine stp rfl ?_ ?_;·repeat' constructor)
      exact end1i rfl rfl (by rw [if_neg (fun h => h.1 g1)])
  rw [if_neg h5]
  by_cases h8 : p.op = 8
  · rw [if_pos h8]
    have ha := aimed_ret l hW p.ref [0, 1, 2, 3, 4, 5, 6, 7] (by decide)
    clear h0 h1 h4 h5
    refine Ret.of_pwp layOk mixed Go.Proofs.Tryz.func102 rfl (by decide) rfl rfl ?_
    repeat (first|(refine stp rfl ?_ ?_;·repeat' constructor)|(refine pw_cond rfl (fun hA => absurd hA (by intro hA; simp only [decide_eq_true_eq, decide_eq_false_iff_not, Bool.not_eq_true', Bool.not_eq_false'] at hA; omega)) (fun _ => ?_))|(refine pw_cond rfl (fun _ => ?_) (fun hA => absurd hA (by intro hA; simp only [decide_eq_true_eq, decide_eq_false_iff_not, Bool.not_eq_true', Bool.not_eq_false'] at hA; omega))))
    apply qst;exact rfl;exact rfl;exact q_slit rfl rfl rfl rfl rfl rfl rfl rfl rfl rfl (by repeat' constructor) rfl
    repeat (refine stp rfl ?_ ?_;·repeat' constructor)
    apply qst;exact rfl;exact rfl;exact q_callP rfl (ha) rfl (by repeat' constructor) rfl rfl
    repeat (refine stp rfl ?_ ?_;·repeat' constructor)
    exact end1i rfl rfl rfl
  rw [if_neg h8]
  have hsl : supNo l p ≤ l.length := by
    rw [supNo]
    have := itmNo_le l p.order p.item
    split
    · omega
    · split
      · omega
      · rw [if_neg (by omega)]; omega
  have hs := standing_ret l hW _ hsl
  have hsu := support_ret l p
  refine Ret.of_pwp layOk mixed Go.Proofs.Tryz.func102 rfl (by decide) rfl rfl ?_
  repeat (first|(refine stp rfl ?_ ?_;·repeat' constructor)|(refine pw_cond rfl (fun hA => absurd hA (by intro hA; simp only [decide_eq_true_eq, decide_eq_false_iff_not, Bool.not_eq_true', Bool.not_eq_false'] at hA; omega)) (fun _ => ?_))|(refine pw_cond rfl (fun _ => ?_) (fun hA => absurd hA (by intro hA; simp only [decide_eq_true_eq, decide_eq_false_iff_not, Bool.not_eq_true', Bool.not_eq_false'] at hA; omega))))
  apply qst;exact rfl;exact rfl;exact q_callP rfl (hsu) rfl (by repeat' constructor) rfl rfl
  repeat (refine stp rfl ?_ ?_;·repeat' constructor)
  apply qst;exact rfl;exact rfl;exact q_callP rfl (hs) rfl (by repeat' constructor) rfl rfl
  repeat (refine stp rfl ?_ ?_;·repeat' constructor)
  exact end1i rfl rfl rfl
end Go.Pv


set_option maxHeartbeats 2000000
namespace Go.Pv
attribute [local irreducible] PWP POps PQuiet PSem XThen XBlock RetPost InlPost
open Go.Proofs
end Go.Pv


set_option maxHeartbeats 2000000
namespace Go.Pv
attribute [local irreducible] PWP POps PQuiet PSem XThen XBlock RetPost InlPost RetPostO
open Go.Proofs
inductive Fd where
  | o | i | s | w
  | a (lo hi : Int) | r (lo hi : Int) | l (lo hi : Int)
abbrev nilp : PV := .raw (.pointer none)
def Fd.tm : Fd → List TC
  | .o => [.p 2, .c nilp, .c (I 0), .c (I 0)]
  | .i => [.p 3, .c nilp, .c (I 0), .c (I 0)]
  | .s => [.p 4, .c nilp, .c (I 0), .c (I 0)]
  | .w => [.p 5, .c nilp, .c (I 0), .c (I 0)]
  | .a lo hi => [.c nilp, .p 6, .c (I lo), .c (I hi)]
  | .r lo hi => [.c nilp, .p 7, .c (I lo), .c (I hi)]
  | .l lo hi => [.c nilp, .p 8, .c (I lo), .c (I hi)]
def fdsOf (op : Int) : List Fd :=
  if op = 0 then [.o, .s] else if op = 1 then [.o, .i, .a 0 1000000000] else if op = 2 then [.o, .i, .a (-1000000000) 1000000000] else if op = 3 then [.o, .i, .w, .a 0 1000000000]
  else if op = 4 then [.r 1 400, .w, .l 0 1] else if op = 5 then [.r 1 400, .a (-1000000000) 1000000000] else if op = 6 then [.o] else if op = 7 then [.o, .a 1 1000000000] else [.r 1 400]
theorem text_raw [Globs] (b o : Nat) : Ret Tryz.prog .shared 119 [.raw (.pointer (some ⟨b, o, none⟩))] (.agg [.raw (.pointer (some ⟨b, o, none⟩)), nilp, I 0, I 0]) := by
  refine Ret.of_pwp layOk mixed Go.Proofs.Tryz.func119 rfl (by decide) rfl rfl ?_
  repeat (refine stp rfl ?_ ?_;·repeat' constructor)
  exact endc rfl rfl rfl rfl (by repeat' constructor) rfl
theorem amount_raw [Globs] (b off : Nat) (lo hi : Int) : Ret Tryz.prog .shared 120 [I lo, I hi, .dref [.raw (.pointer (some ⟨b, off, none⟩))] 0] (.agg [nilp, .raw (.pointer (some ⟨b, off + 6, none⟩)), I lo, I hi]) := by
  refine Ret.of_pwp layOk mixed Go.Proofs.Tryz.func120 rfl (by decide) rfl rfl ?_
  repeat (refine stp rfl ?_ ?_;·repeat' constructor)
  apply qst;exact rfl;exact rfl;exact q_nckR rfl
  repeat (refine stp rfl ?_ ?_;·repeat' constructor)
  apply qst;exact rfl;exact rfl;exact q_faR layOk rfl rfl rfl rfl rfl rfl
  repeat (refine stp rfl ?_ ?_;·repeat' constructor)
  exact endc rfl rfl rfl rfl (by repeat' constructor) rfl
theorem fields_raw [G : Globs] (b off : Nat) (op : Int) : @RetO (globAt G b off (.int .i64 op)) Tryz.prog 65 [rawP b off 0] 125 4 ((fdsOf op).map fun f => f.tm.map (TC.inst (rawP b off))) := by
  letI : Globs := globAt G b off (.int .i64 op)
  have hG : ∀ w : World, Globs.glob w → w.cell? ⟨b, off, none⟩ = some (.int .i64 op) := fun w h => h.2.2
  have ht := fun o => text_raw b (off + o)
  have ha := amount_raw b off
  show RetO Tryz.prog 65 [.raw (.pointer (some ⟨b, off, none⟩))] 125 4 ((fdsOf op).map fun f => f.tm.map (TC.inst (rawP b off)))
  have start : ∀ r, r = ((fdsOf op).map fun f => f.tm.map (TC.inst (rawP b off))) → RetO Tryz.prog 65 [.raw (.pointer (some ⟨b, off, none⟩))] 125 4 r → RetO Tryz.prog 65 [.raw (.pointer (some ⟨b, off, none⟩))] 125 4 ((fdsOf op).map fun f => f.tm.map (TC.inst (rawP b off))) := fun r h1 h2 => h1 ▸ h2
  by_cases h0 : op = 0
  · subst h0
    clear start
    refine RetO.of_pwp layOk mixed Go.Proofs.Tryz.func65 rfl (by decide) rfl rfl ?_
    ((repeat (first | refine ps_nil ?_ | refine pq_nil ?_ | refine x_norm ?_ | refine pw_seq ?_)); refine pw_region ?_)
    refine ps_run (o_box rfl rfl rfl (by repeat' constructor) rfl ?_)
    repeat (refine stp rfl ?_ ?_;·repeat' constructor)
    apply qst;exact rfl;exact rfl;exact q_nckR rfl
    repeat (refine stp rfl ?_ ?_;·repeat' constructor)
    apply qst;exact rfl;exact rfl;exact q_faR layOk rfl rfl rfl rfl rfl rfl
    repeat (refine stp rfl ?_ ?_;·repeat' constructor)
    apply qst;exact rfl;exact rfl;exact q_nckR rfl
    repeat (refine stp rfl ?_ ?_;·repeat' constructor)
    apply qst;exact rfl;exact rfl;exact q_faR layOk rfl rfl rfl rfl rfl rfl
    repeat (refine stp rfl ?_ ?_;·repeat' constructor)
    apply qst;exact rfl;exact rfl;exact q_ldR layOk hG rfl rfl rfl
    repeat (first|(refine stp rfl ?_ ?_;·repeat' constructor)|(refine pw_cond rfl (fun hA => absurd hA (by intro hA; simp only [decide_eq_true_eq, decide_eq_false_iff_not, Bool.not_eq_true', Bool.not_eq_false'] at hA; omega)) (fun _ => ?_))|(refine pw_cond rfl (fun _ => ?_) (fun hA => absurd hA (by intro hA; simp only [decide_eq_true_eq, decide_eq_false_iff_not, Bool.not_eq_true', Bool.not_eq_false'] at hA; omega))))
    refine pw_draw 10 [17, 18, 19, 20, 21, 22, 23, 24, 25, 26] (by decide +kernel) ?_
    repeat (refine stp rfl ?_ ?_;·repeat' constructor)
    apply qst;exact rfl;exact rfl;exact q_nckR rfl
    repeat (refine stp rfl ?_ ?_;·repeat' constructor)
    apply qst;exact rfl;exact rfl;exact q_faR layOk rfl rfl rfl rfl rfl rfl
    repeat (refine stp rfl ?_ ?_;·repeat' constructor)
    apply qst;exact rfl;exact rfl;exact q_callP rfl (ht 2) rfl (by repeat' constructor) rfl rfl
    repeat (refine stp rfl ?_ ?_;·repeat' constructor)
    apply qst;exact rfl;exact rfl;exact q_nckR rfl
    repeat (refine stp rfl ?_ ?_;·repeat' constructor)
    apply qst;exact rfl;exact rfl;exact q_faR layOk rfl rfl rfl rfl rfl rfl
    repeat (refine stp rfl ?_ ?_;·repeat' constructor)
    apply qst;exact rfl;exact rfl;exact q_callP rfl (ht 4) rfl (by repeat' constructor) rfl rfl
    repeat (refine stp rfl ?_ ?_;·repeat' constructor)
    refine ps_run (o_slit 0 rfl rfl rfl rfl rfl rfl rfl rfl rfl rfl rfl (by repeat' constructor) rfl ?_)
    repeat (refine stp rfl ?_ ?_;·repeat' constructor)
    exact endO rfl rfl rfl rfl rfl rfl
  by_cases h1 : op = 1
  · subst h1
    clear start
    refine RetO.of_pwp layOk mixed Go.Proofs.Tryz.func65 rfl (by decide) rfl rfl ?_
    ((repeat (first | refine ps_nil ?_ | refine pq_nil ?_ | refine x_norm ?_ | refine pw_seq ?_)); refine pw_region ?_)
    refine ps_run (o_box rfl rfl rfl (by repeat' constructor) rfl ?_)
    repeat (refine stp rfl ?_ ?_;·repeat' constructor)
    apply qst;exact rfl;exact rfl;exact q_nckR rfl
    repeat (refine stp rfl ?_ ?_;·repeat' constructor)
    apply qst;exact rfl;exact rfl;exact q_faR layOk rfl rfl rfl rfl rfl rfl
    repeat (refine stp rfl ?_ ?_;·repeat' constructor)
    apply qst;exact rfl;exact rfl;exact q_nckR rfl
    repeat (refine stp rfl ?_ ?_;·repeat' constructor)
    apply qst;exact rfl;exact rfl;exact q_faR layOk rfl rfl rfl rfl rfl rfl
    repeat (refine stp rfl ?_ ?_;·repeat' constructor)
    apply qst;exact rfl;exact rfl;exact q_ldR layOk hG rfl rfl rfl
    repeat (first|(refine stp rfl ?_ ?_;·repeat' constructor)|(refine pw_cond rfl (fun hA => absurd hA (by intro hA; simp only [decide_eq_true_eq, decide_eq_false_iff_not, Bool.not_eq_true', Bool.not_eq_false'] at hA; omega)) (fun _ => ?_))|(refine pw_cond rfl (fun _ => ?_) (fun hA => absurd hA (by intro hA; simp only [decide_eq_true_eq, decide_eq_false_iff_not, Bool.not_eq_true', Bool.not_eq_false'] at hA; omega))))
    refine pw_draw 12 [30, 31, 32, 33, 34, 35, 36, 37, 38, 39, 40, 41] (by decide +kernel) ?_
    repeat (refine stp rfl ?_ ?_;·repeat' constructor)
    apply qst;exact rfl;exact rfl;exact q_nckR rfl
    repeat (refine stp rfl ?_ ?_;·repeat' constructor)
    apply qst;exact rfl;exact rfl;exact q_faR layOk rfl rfl rfl rfl rfl rfl
    repeat (refine stp rfl ?_ ?_;·repeat' constructor)
    apply qst;exact rfl;exact rfl;exact q_callP rfl (ht 2) rfl (by repeat' constructor) rfl rfl
    repeat (refine stp rfl ?_ ?_;·repeat' constructor)
    apply qst;exact rfl;exact rfl;exact q_nckR rfl
    repeat (refine stp rfl ?_ ?_;·repeat' constructor)
    apply qst;exact rfl;exact rfl;exact q_faR layOk rfl rfl rfl rfl rfl rfl
    repeat (refine stp rfl ?_ ?_;·repeat' constructor)
    apply qst;exact rfl;exact rfl;exact q_callP rfl (ht 3) rfl (by repeat' constructor) rfl rfl
    repeat (refine stp rfl ?_ ?_;·repeat' constructor)
    apply qst;exact rfl;exact rfl;exact q_callP rfl (ha 0 1000000000) rfl (by repeat' constructor) rfl rfl
    repeat (refine stp rfl ?_ ?_;·repeat' constructor)
    refine ps_run (o_slit 0 rfl rfl rfl rfl rfl rfl rfl rfl rfl rfl rfl (by repeat' constructor) rfl ?_)
    repeat (refine stp rfl ?_ ?_;·repeat' constructor)
    exact endO rfl rfl rfl rfl rfl rfl
  by_cases h2 : op = 2
  · subst h2
    clear start
    refine RetO.of_pwp layOk mixed Go.Proofs.Tryz.func65 rfl (by decide) rfl rfl ?_
    ((repeat (first | refine ps_nil ?_ | refine pq_nil ?_ | refine x_norm ?_ | refine pw_seq ?_)); refine pw_region ?_)
    refine ps_run (o_box rfl rfl rfl (by repeat' constructor) rfl ?_)
    repeat (refine stp rfl ?_ ?_;·repeat' constructor)
    apply qst;exact rfl;exact rfl;exact q_nckR rfl
    repeat (refine stp rfl ?_ ?_;·repeat' constructor)
    apply qst;exact rfl;exact rfl;exact q_faR layOk rfl rfl rfl rfl rfl rfl
    repeat (refine stp rfl ?_ ?_;·repeat' constructor)
    apply qst;exact rfl;exact rfl;exact q_nckR rfl
    repeat (refine stp rfl ?_ ?_;·repeat' constructor)
    apply qst;exact rfl;exact rfl;exact q_faR layOk rfl rfl rfl rfl rfl rfl
    repeat (refine stp rfl ?_ ?_;·repeat' constructor)
    apply qst;exact rfl;exact rfl;exact q_ldR layOk hG rfl rfl rfl
    repeat (first|(refine stp rfl ?_ ?_;·repeat' constructor)|(refine pw_cond rfl (fun hA => absurd hA (by intro hA; simp only [decide_eq_true_eq, decide_eq_false_iff_not, Bool.not_eq_true', Bool.not_eq_false'] at hA; omega)) (fun _ => ?_))|(refine pw_cond rfl (fun _ => ?_) (fun hA => absurd hA (by intro hA; simp only [decide_eq_true_eq, decide_eq_false_iff_not, Bool.not_eq_true', Bool.not_eq_false'] at hA; omega))))
    refine pw_draw 12 [45, 46, 47, 48, 49, 50, 51, 52, 53, 54, 55, 56] (by decide +kernel) ?_
    repeat (refine stp rfl ?_ ?_;·repeat' constructor)
    apply qst;exact rfl;exact rfl;exact q_nckR rfl
    repeat (refine stp rfl ?_ ?_;·repeat' constructor)
    apply qst;exact rfl;exact rfl;exact q_faR layOk rfl rfl rfl rfl rfl rfl
    repeat (refine stp rfl ?_ ?_;·repeat' constructor)
    apply qst;exact rfl;exact rfl;exact q_callP rfl (ht 2) rfl (by repeat' constructor) rfl rfl
    repeat (refine stp rfl ?_ ?_;·repeat' constructor)
    apply qst;exact rfl;exact rfl;exact q_nckR rfl
    repeat (refine stp rfl ?_ ?_;·repeat' constructor)
    apply qst;exact rfl;exact rfl;exact q_faR layOk rfl rfl rfl rfl rfl rfl
    repeat (refine stp rfl ?_ ?_;·repeat' constructor)
    apply qst;exact rfl;exact rfl;exact q_callP rfl (ht 3) rfl (by repeat' constructor) rfl rfl
    repeat (refine stp rfl ?_ ?_;·repeat' constructor)
    apply qst;exact rfl;exact rfl;exact q_callP rfl (ha (-1000000000) 1000000000) rfl (by repeat' constructor) rfl rfl
    repeat (refine stp rfl ?_ ?_;·repeat' constructor)
    refine ps_run (o_slit 0 rfl rfl rfl rfl rfl rfl rfl rfl rfl rfl rfl (by repeat' constructor) rfl ?_)
    repeat (refine stp rfl ?_ ?_;·repeat' constructor)
    exact endO rfl rfl rfl rfl rfl rfl
  by_cases h3 : op = 3
  · subst h3
    clear start
    refine RetO.of_pwp layOk mixed Go.Proofs.Tryz.func65 rfl (by decide) rfl rfl ?_
    ((repeat (first | refine ps_nil ?_ | refine pq_nil ?_ | refine x_norm ?_ | refine pw_seq ?_)); refine pw_region ?_)
    refine ps_run (o_box rfl rfl rfl (by repeat' constructor) rfl ?_)
    repeat (refine stp rfl ?_ ?_;·repeat' constructor)
    apply qst;exact rfl;exact rfl;exact q_nckR rfl
    repeat (refine stp rfl ?_ ?_;·repeat' constructor)
    apply qst;exact rfl;exact rfl;exact q_faR layOk rfl rfl rfl rfl rfl rfl
    repeat (refine stp rfl ?_ ?_;·repeat' constructor)
    apply qst;exact rfl;exact rfl;exact q_nckR rfl
    repeat (refine stp rfl ?_ ?_;·repeat' constructor)
    apply qst;exact rfl;exact rfl;exact q_faR layOk rfl rfl rfl rfl rfl rfl
    repeat (refine stp rfl ?_ ?_;·repeat' constructor)
    apply qst;exact rfl;exact rfl;exact q_ldR layOk hG rfl rfl rfl
    repeat (first|(refine stp rfl ?_ ?_;·repeat' constructor)|(refine pw_cond rfl (fun hA => absurd hA (by intro hA; simp only [decide_eq_true_eq, decide_eq_false_iff_not, Bool.not_eq_true', Bool.not_eq_false'] at hA; omega)) (fun _ => ?_))|(refine pw_cond rfl (fun _ => ?_) (fun hA => absurd hA (by intro hA; simp only [decide_eq_true_eq, decide_eq_false_iff_not, Bool.not_eq_true', Bool.not_eq_false'] at hA; omega))))
    refine pw_draw 17 [60, 61, 62, 63, 64, 65, 66, 67, 68, 69, 70, 71, 72, 73, 74, 75, 76] (by decide +kernel) ?_
    repeat (refine stp rfl ?_ ?_;·repeat' constructor)
    apply qst;exact rfl;exact rfl;exact q_nckR rfl
    repeat (refine stp rfl ?_ ?_;·repeat' constructor)
    apply qst;exact rfl;exact rfl;exact q_faR layOk rfl rfl rfl rfl rfl rfl
    repeat (refine stp rfl ?_ ?_;·repeat' constructor)
    apply qst;exact rfl;exact rfl;exact q_callP rfl (ht 2) rfl (by repeat' constructor) rfl rfl
    repeat (refine stp rfl ?_ ?_;·repeat' constructor)
    apply qst;exact rfl;exact rfl;exact q_nckR rfl
    repeat (refine stp rfl ?_ ?_;·repeat' constructor)
    apply qst;exact rfl;exact rfl;exact q_faR layOk rfl rfl rfl rfl rfl rfl
    repeat (refine stp rfl ?_ ?_;·repeat' constructor)
    apply qst;exact rfl;exact rfl;exact q_callP rfl (ht 3) rfl (by repeat' constructor) rfl rfl
    repeat (refine stp rfl ?_ ?_;·repeat' constructor)
    apply qst;exact rfl;exact rfl;exact q_nckR rfl
    repeat (refine stp rfl ?_ ?_;·repeat' constructor)
    apply qst;exact rfl;exact rfl;exact q_faR layOk rfl rfl rfl rfl rfl rfl
    repeat (refine stp rfl ?_ ?_;·repeat' constructor)
    apply qst;exact rfl;exact rfl;exact q_callP rfl (ht 5) rfl (by repeat' constructor) rfl rfl
    repeat (refine stp rfl ?_ ?_;·repeat' constructor)
    apply qst;exact rfl;exact rfl;exact q_callP rfl (ha 0 1000000000) rfl (by repeat' constructor) rfl rfl
    repeat (refine stp rfl ?_ ?_;·repeat' constructor)
    refine ps_run (o_slit 0 rfl rfl rfl rfl rfl rfl rfl rfl rfl rfl rfl (by repeat' constructor) rfl ?_)
    repeat (refine stp rfl ?_ ?_;·repeat' constructor)
    exact endO rfl rfl rfl rfl rfl rfl
  by_cases h4 : op = 4
  · subst h4
    clear start
    refine RetO.of_pwp layOk mixed Go.Proofs.Tryz.func65 rfl (by decide) rfl rfl ?_
    ((repeat (first | refine ps_nil ?_ | refine pq_nil ?_ | refine x_norm ?_ | refine pw_seq ?_)); refine pw_region ?_)
    refine ps_run (o_box rfl rfl rfl (by repeat' constructor) rfl ?_)
    repeat (refine stp rfl ?_ ?_;·repeat' constructor)
    apply qst;exact rfl;exact rfl;exact q_nckR rfl
    repeat (refine stp rfl ?_ ?_;·repeat' constructor)
    apply qst;exact rfl;exact rfl;exact q_faR layOk rfl rfl rfl rfl rfl rfl
    repeat (refine stp rfl ?_ ?_;·repeat' constructor)
    apply qst;exact rfl;exact rfl;exact q_nckR rfl
    repeat (refine stp rfl ?_ ?_;·repeat' constructor)
    apply qst;exact rfl;exact rfl;exact q_faR layOk rfl rfl rfl rfl rfl rfl
    repeat (refine stp rfl ?_ ?_;·repeat' constructor)
    apply qst;exact rfl;exact rfl;exact q_ldR layOk hG rfl rfl rfl
    repeat (first|(refine stp rfl ?_ ?_;·repeat' constructor)|(refine pw_cond rfl (fun hA => absurd hA (by intro hA; simp only [decide_eq_true_eq, decide_eq_false_iff_not, Bool.not_eq_true', Bool.not_eq_false'] at hA; omega)) (fun _ => ?_))|(refine pw_cond rfl (fun _ => ?_) (fun hA => absurd hA (by intro hA; simp only [decide_eq_true_eq, decide_eq_false_iff_not, Bool.not_eq_true', Bool.not_eq_false'] at hA; omega))))
    refine pw_draw 10 [80, 81, 82, 83, 84, 85, 86, 87, 88, 89] (by decide +kernel) ?_
    repeat (refine stp rfl ?_ ?_;·repeat' constructor)
    apply qst;exact rfl;exact rfl;exact q_nckR rfl
    repeat (refine stp rfl ?_ ?_;·repeat' constructor)
    apply qst;exact rfl;exact rfl;exact q_faR layOk rfl rfl rfl rfl rfl rfl
    repeat (refine stp rfl ?_ ?_;·repeat' constructor)
    apply qst;exact rfl;exact rfl;exact q_callP rfl (ht 5) rfl (by repeat' constructor) rfl rfl
    repeat (refine stp rfl ?_ ?_;·repeat' constructor)
    apply qst;exact rfl;exact rfl;exact q_nckR rfl
    repeat (refine stp rfl ?_ ?_;·repeat' constructor)
    apply qst;exact rfl;exact rfl;exact q_faR layOk rfl rfl rfl rfl rfl rfl
    repeat (refine stp rfl ?_ ?_;·repeat' constructor)
    refine ps_run (o_slit 0 rfl rfl rfl rfl rfl rfl rfl rfl rfl rfl rfl (by repeat' constructor) rfl ?_)
    repeat (refine stp rfl ?_ ?_;·repeat' constructor)
    exact endO rfl rfl rfl rfl rfl rfl
  by_cases h5 : op = 5
  · subst h5
    clear start
    refine RetO.of_pwp layOk mixed Go.Proofs.Tryz.func65 rfl (by decide) rfl rfl ?_
    ((repeat (first | refine ps_nil ?_ | refine pq_nil ?_ | refine x_norm ?_ | refine pw_seq ?_)); refine pw_region ?_)
    refine ps_run (o_box rfl rfl rfl (by repeat' constructor) rfl ?_)
    repeat (refine stp rfl ?_ ?_;·repeat' constructor)
    apply qst;exact rfl;exact rfl;exact q_nckR rfl
    repeat (refine stp rfl ?_ ?_;·repeat' constructor)
    apply qst;exact rfl;exact rfl;exact q_faR layOk rfl rfl rfl rfl rfl rfl
    repeat (refine stp rfl ?_ ?_;·repeat' constructor)
    apply qst;exact rfl;exact rfl;exact q_nckR rfl
    repeat (refine stp rfl ?_ ?_;·repeat' constructor)
    apply qst;exact rfl;exact rfl;exact q_faR layOk rfl rfl rfl rfl rfl rfl
    repeat (refine stp rfl ?_ ?_;·repeat' constructor)
    apply qst;exact rfl;exact rfl;exact q_ldR layOk hG rfl rfl rfl
    repeat (first|(refine stp rfl ?_ ?_;·repeat' constructor)|(refine pw_cond rfl (fun hA => absurd hA (by intro hA; simp only [decide_eq_true_eq, decide_eq_false_iff_not, Bool.not_eq_true', Bool.not_eq_false'] at hA; omega)) (fun _ => ?_))|(refine pw_cond rfl (fun _ => ?_) (fun hA => absurd hA (by intro hA; simp only [decide_eq_true_eq, decide_eq_false_iff_not, Bool.not_eq_true', Bool.not_eq_false'] at hA; omega))))
    refine pw_draw 3 [93, 94, 95] (by decide +kernel) ?_
    repeat (refine stp rfl ?_ ?_;·repeat' constructor)
    apply qst;exact rfl;exact rfl;exact q_callP rfl (ha (-1000000000) 1000000000) rfl (by repeat' constructor) rfl rfl
    repeat (refine stp rfl ?_ ?_;·repeat' constructor)
    refine ps_run (o_slit 0 rfl rfl rfl rfl rfl rfl rfl rfl rfl rfl rfl (by repeat' constructor) rfl ?_)
    repeat (refine stp rfl ?_ ?_;·repeat' constructor)
    exact endO rfl rfl rfl rfl rfl rfl
  by_cases h6 : op = 6
  · subst h6
    clear start
    refine RetO.of_pwp layOk mixed Go.Proofs.Tryz.func65 rfl (by decide) rfl rfl ?_
    ((repeat (first | refine ps_nil ?_ | refine pq_nil ?_ | refine x_norm ?_ | refine pw_seq ?_)); refine pw_region ?_)
    refine ps_run (o_box rfl rfl rfl (by repeat' constructor) rfl ?_)
    repeat (refine stp rfl ?_ ?_;·repeat' constructor)
    apply qst;exact rfl;exact rfl;exact q_nckR rfl
    repeat (refine stp rfl ?_ ?_;·repeat' constructor)
    apply qst;exact rfl;exact rfl;exact q_faR layOk rfl rfl rfl rfl rfl rfl
    repeat (refine stp rfl ?_ ?_;·repeat' constructor)
    apply qst;exact rfl;exact rfl;exact q_nckR rfl
    repeat (refine stp rfl ?_ ?_;·repeat' constructor)
    apply qst;exact rfl;exact rfl;exact q_faR layOk rfl rfl rfl rfl rfl rfl
    repeat (refine stp rfl ?_ ?_;·repeat' constructor)
    apply qst;exact rfl;exact rfl;exact q_ldR layOk hG rfl rfl rfl
    repeat (first|(refine stp rfl ?_ ?_;·repeat' constructor)|(refine pw_cond rfl (fun hA => absurd hA (by intro hA; simp only [decide_eq_true_eq, decide_eq_false_iff_not, Bool.not_eq_true', Bool.not_eq_false'] at hA; omega)) (fun _ => ?_))|(refine pw_cond rfl (fun _ => ?_) (fun hA => absurd hA (by intro hA; simp only [decide_eq_true_eq, decide_eq_false_iff_not, Bool.not_eq_true', Bool.not_eq_false'] at hA; omega))))
    repeat (refine stp rfl ?_ ?_;·repeat' constructor)
    apply qst;exact rfl;exact rfl;exact q_nckR rfl
    repeat (refine stp rfl ?_ ?_;·repeat' constructor)
    apply qst;exact rfl;exact rfl;exact q_faR layOk rfl rfl rfl rfl rfl rfl
    repeat (refine stp rfl ?_ ?_;·repeat' constructor)
    apply qst;exact rfl;exact rfl;exact q_callP rfl (ht 2) rfl (by repeat' constructor) rfl rfl
    repeat (refine stp rfl ?_ ?_;·repeat' constructor)
    refine ps_run (o_slit 0 rfl rfl rfl rfl rfl rfl rfl rfl rfl rfl rfl (by repeat' constructor) rfl ?_)
    repeat (refine stp rfl ?_ ?_;·repeat' constructor)
    exact endO rfl rfl rfl rfl rfl rfl
  by_cases h7 : op = 7
  · subst h7
    clear start
    refine RetO.of_pwp layOk mixed Go.Proofs.Tryz.func65 rfl (by decide) rfl rfl ?_
    ((repeat (first | refine ps_nil ?_ | refine pq_nil ?_ | refine x_norm ?_ | refine pw_seq ?_)); refine pw_region ?_)
    refine ps_run (o_box rfl rfl rfl (by repeat' constructor) rfl ?_)
    repeat (refine stp rfl ?_ ?_;·repeat' constructor)
    apply qst;exact rfl;exact rfl;exact q_nckR rfl
    repeat (refine stp rfl ?_ ?_;·repeat' constructor)
    apply qst;exact rfl;exact rfl;exact q_faR layOk rfl rfl rfl rfl rfl rfl
    repeat (refine stp rfl ?_ ?_;·repeat' constructor)
    apply qst;exact rfl;exact rfl;exact q_nckR rfl
    repeat (refine stp rfl ?_ ?_;·repeat' constructor)
    apply qst;exact rfl;exact rfl;exact q_faR layOk rfl rfl rfl rfl rfl rfl
    repeat (refine stp rfl ?_ ?_;·repeat' constructor)
    apply qst;exact rfl;exact rfl;exact q_ldR layOk hG rfl rfl rfl
    repeat (first|(refine stp rfl ?_ ?_;·repeat' constructor)|(refine pw_cond rfl (fun hA => absurd hA (by intro hA; simp only [decide_eq_true_eq, decide_eq_false_iff_not, Bool.not_eq_true', Bool.not_eq_false'] at hA; omega)) (fun _ => ?_))|(refine pw_cond rfl (fun _ => ?_) (fun hA => absurd hA (by intro hA; simp only [decide_eq_true_eq, decide_eq_false_iff_not, Bool.not_eq_true', Bool.not_eq_false'] at hA; omega))))
    repeat (refine stp rfl ?_ ?_;·repeat' constructor)
    apply qst;exact rfl;exact rfl;exact q_nckR rfl
    repeat (refine stp rfl ?_ ?_;·repeat' constructor)
    apply qst;exact rfl;exact rfl;exact q_faR layOk rfl rfl rfl rfl rfl rfl
    repeat (refine stp rfl ?_ ?_;·repeat' constructor)
    apply qst;exact rfl;exact rfl;exact q_callP rfl (ht 2) rfl (by repeat' constructor) rfl rfl
    repeat (refine stp rfl ?_ ?_;·repeat' constructor)
    apply qst;exact rfl;exact rfl;exact q_callP rfl (ha 1 1000000000) rfl (by repeat' constructor) rfl rfl
    repeat (refine stp rfl ?_ ?_;·repeat' constructor)
    refine ps_run (o_slit 0 rfl rfl rfl rfl rfl rfl rfl rfl rfl rfl rfl (by repeat' constructor) rfl ?_)
    repeat (refine stp rfl ?_ ?_;·repeat' constructor)
    exact endO rfl rfl rfl rfl rfl rfl
  · have hf : fdsOf op = [.r 1 400] := by simp [fdsOf, h0, h1, h2, h3, h4, h5, h6, h7]
    rw [hf]
    clear start hf
    refine RetO.of_pwp layOk mixed Go.Proofs.Tryz.func65 rfl (by decide) rfl rfl ?_
    ((repeat (first | refine ps_nil ?_ | refine pq_nil ?_ | refine x_norm ?_ | refine pw_seq ?_)); refine pw_region ?_)
    refine ps_run (o_box rfl rfl rfl (by repeat' constructor) rfl ?_)
    repeat (refine stp rfl ?_ ?_;·repeat' constructor)
    apply qst;exact rfl;exact rfl;exact q_nckR rfl
    repeat (refine stp rfl ?_ ?_;·repeat' constructor)
    apply qst;exact rfl;exact rfl;exact q_faR layOk rfl rfl rfl rfl rfl rfl
    repeat (refine stp rfl ?_ ?_;·repeat' constructor)
    apply qst;exact rfl;exact rfl;exact q_nckR rfl
    repeat (refine stp rfl ?_ ?_;·repeat' constructor)
    apply qst;exact rfl;exact rfl;exact q_faR layOk rfl rfl rfl rfl rfl rfl
    repeat (refine stp rfl ?_ ?_;·repeat' constructor)
    apply qst;exact rfl;exact rfl;exact q_ldR layOk hG rfl rfl rfl
    repeat (first|(refine stp rfl ?_ ?_;·repeat' constructor)|(refine pw_cond rfl (fun hA => absurd hA (by intro hA; simp only [decide_eq_true_eq, decide_eq_false_iff_not, Bool.not_eq_true', Bool.not_eq_false'] at hA; omega)) (fun _ => ?_))|(refine pw_cond rfl (fun _ => ?_) (fun hA => absurd hA (by intro hA; simp only [decide_eq_true_eq, decide_eq_false_iff_not, Bool.not_eq_true', Bool.not_eq_false'] at hA; omega))))
    repeat (refine stp rfl ?_ ?_;·repeat' constructor)
    refine ps_run (o_slit 0 rfl rfl rfl rfl rfl rfl rfl rfl rfl rfl rfl (by repeat' constructor) rfl ?_)
    repeat (refine stp rfl ?_ ?_;·repeat' constructor)
    exact endO rfl rfl rfl rfl rfl rfl
end Go.Pv


set_option maxHeartbeats 2000000
namespace Go.Pv
attribute [local irreducible] PWP POps PQuiet PSem XThen XBlock RetPost InlPost
open Go.Proofs
theorem fields_tm [G : Globs] (b off : Nat) (op : Int) : @RetO (globAt G b off (.int .i64 op)) Tryz.prog 65 [rawP b off 0] 125 4 (((fdsOf op).map Fd.tm).map fun r => r.map (TC.inst (rawP b off))) := by
  rw [List.map_map]
  exact fields_raw b off op
def Fd.txt (p : SPost) : Fd → Str
  | .o => p.order | .i => p.item | .s => p.ship | .w => p.who | _ => []
def Fd.num (p : SPost) : Fd → Int
  | .a _ _ => p.amount | .r _ _ => p.ref | .l _ _ => p.role | _ => 0
def Fd.err (p : SPost) (f : Fd) : Int := match f with
  | .o | .i | .s | .w => if isName (f.txt p) = true then 0 else 4
  | .a lo hi | .r lo hi | .l lo hi => if inside (f.num p) lo hi = true then 0 else 2
def checkE (p : SPost) : Int := if inside p.op 0 8 = true ∧ inside p.day 0 10000 = true then fstE (fdsOf p.op) (fun _ f => f.err p) else 2
theorem fdsOf_tm_ok (op : Int) : ((fdsOf op).map Fd.tm).all (fun r => r.all (TC.ok 9)) = true := by
  rw [List.all_map, List.all_eq_true]
  intro f _
  cases f <;> rfl
theorem fdsOf_len (op : Int) : (fdsOf op).length ≤ 4 := by
  simp only [fdsOf]
  repeat' (first | split | (simp only [List.length_cons, List.length_nil]; omega))
set_option maxRecDepth 20000 in
theorem checkPost_ret (p : SPost) : Ret Tryz.prog .shared 16 [.agg (ePost p)] (I (checkE p)) := by
  have h1 := between_ret p.op 0 8
  have h2 := between_ret p.day 0 10000
  rw [checkE]
  cases hi : inside p.op 0 8 with
  | false =>
    rw [hi] at h1
    refine Ret.of_pwp layOk mixed Go.Proofs.Tryz.func16 rfl (by decide) rfl rfl ?_
    repeat (refine stp rfl ?_ ?_;·repeat' constructor)
    apply qst;exact rfl;exact rfl;exact q_callP rfl (h1) rfl (by repeat' constructor) rfl rfl
    repeat (refine stp rfl ?_ ?_;·repeat' constructor)
    exact end1i rfl rfl rfl
  | true =>
  rw [hi] at h1
  cases hd : inside p.day 0 10000 with
  | false =>
    rw [hd] at h2
    refine Ret.of_pwp layOk mixed Go.Proofs.Tryz.func16 rfl (by decide) rfl rfl ?_
    repeat (refine stp rfl ?_ ?_;·repeat' constructor)
    apply qst;exact rfl;exact rfl;exact q_callP rfl (h1) rfl (by repeat' constructor) rfl rfl
    repeat (refine stp rfl ?_ ?_;·repeat' constructor)
    apply qst;exact rfl;exact rfl;exact q_callP rfl (h2) rfl (by repeat' constructor) rfl rfl
    repeat (refine stp rfl ?_ ?_;·repeat' constructor)
    exact end1i rfl rfl rfl
  | true =>
  rw [hd] at h2
  rw [if_pos ⟨rfl, rfl⟩]
  have hfl := fdsOf_len p.op
  have htl : ((fdsOf p.op).map Fd.tm).length = (fdsOf p.op).length := List.length_map _
  refine Ret.of_pwp layOk mixed Go.Proofs.Tryz.func16 rfl (by decide) rfl rfl ?_
  repeat (refine stp rfl ?_ ?_;·repeat' constructor)
  apply qst;exact rfl;exact rfl;exact q_callP rfl (h1) rfl (by repeat' constructor) rfl rfl
  repeat (refine stp rfl ?_ ?_;·repeat' constructor)
  apply qst;exact rfl;exact rfl;exact q_callP rfl (h2) rfl (by repeat' constructor) rfl rfl
  iterate 6 (refine stp rfl ?_ ?_;·repeat' constructor)
  ((repeat (first | refine x_norm ?_ | refine pw_seq ?_)); refine pw_regionS 0 ?_)
  refine ps_nil ?_
  refine psem_sm rfl (sm_callP ((fdsOf p.op).map Fd.tm) (fun b off => fields_tm b off p.op) rfl rfl rfl rfl rfl rfl (fdsOf_tm_ok p.op) rfl ?_)
  refine psem_ops ?_
  rw [htl]
  repeat (refine stp rfl ?_ ?_;·repeat' constructor)
  have hrow : ∀ (k : Nat) (f : Fd), (fdsOf p.op)[k]? = some f → (((fdsOf p.op).map Fd.tm).map fun r => r.map (TC.inst fun o => PV.ptr 1 1 0 o))[0 + (k : Int).toNat]? = some (f.tm.map (TC.inst fun o => PV.ptr 1 1 0 o)) := fun k f h => by
    rw [List.getElem?_map, List.getElem?_map, Int.toNat_natCast, Nat.zero_add, h]; rfl
  generalize (((fdsOf p.op).map Fd.tm).map fun r => r.map (TC.inst fun o => PV.ptr 1 1 0 o)) = rows at hrow
  clear h1 h2
  have hN := fun s => isName_ret s
  have hB := between_ret
  generalize fdsOf p.op = fs at *
  refine pw_loop (ClearE fs fun _ f => f.err p) (fun k => [(1, .ptr 1 1 0 0), (15, .als 15 1 0 fs.length), (16, I fs.length), (17, I k)]) (fun _ => [(1, 1, ⟨23, 9, [ePost p], 2⟩), (15, 1, ⟨125, 4, rows, 2⟩)]) (fun k => fs.length - k) 0 .zero' ⟨rfl, rfl, rfl, rfl, rfl, rfl, trivial⟩ ?_
  intro k s hk
  have hkl := hk.1
  repeat (refine stp rfl ?_ ?_;·repeat' constructor)
  refine pw_cond rfl (fun h => ?_) (fun h => ?_)
  · have hlt : k < fs.length := by simpa using h
    clear h
    obtain ⟨f, hf⟩ := get_lt hlt
    have hr := hrow k f hf
    cases f
    case o =>
      have hn := hN p.order
      have he : (Fd.o).err p = if isName p.order = true then 0 else 4 := rfl
      generalize isName p.order = b at hn he
      repeat (refine stp rfl ?_ ?_;·repeat' constructor)
      apply qst;exact rfl;exact rfl;exact q_idxA rfl rfl rfl rfl rfl rfl rfl (by omega) (by omega)
      apply qst;exact rfl;exact rfl;exact q_ldp rfl rfl rfl hr rfl
      repeat (refine stp rfl ?_ ?_;·repeat' constructor)
      apply qst;exact rfl;exact rfl;exact q_callP rfl (hn) rfl (by repeat' constructor) rfl rfl
      cases b with
      | true =>
        repeat (refine stp rfl ?_ ?_;·repeat' constructor)
        refine pw_draw 16 [34, 35, 36, 37, 38, 39, 40, 41, 42, 43, 44, 45, 46, 47, 48, 33] (by decide +kernel) ?_
        repeat (refine stp rfl ?_ ?_;·repeat' constructor)
        exact ⟨k + 1, hk.succ hf he, by omega, rfl, rfl, rfl, i64_next (by omega) (by omega), rfl, rfl, trivial⟩
      | false =>
        repeat (refine stp rfl ?_ ?_;·repeat' constructor)
        exact end1i rfl rfl (by rw [hk.found hf he (by decide)]; rfl)
    case i =>
      have hn := hN p.item
      have he : (Fd.i).err p = if isName p.item = true then 0 else 4 := rfl
      generalize isName p.item = b at hn he
      repeat (refine stp rfl ?_ ?_;·repeat' constructor)
      apply qst;exact rfl;exact rfl;exact q_idxA rfl rfl rfl rfl rfl rfl rfl (by omega) (by omega)
      apply qst;exact rfl;exact rfl;exact q_ldp rfl rfl rfl hr rfl
      repeat (refine stp rfl ?_ ?_;·repeat' constructor)
      apply qst;exact rfl;exact rfl;exact q_callP rfl (hn) rfl (by repeat' constructor) rfl rfl
      cases b with
      | true =>
        repeat (refine stp rfl ?_ ?_;·repeat' constructor)
        refine pw_draw 16 [34, 35, 36, 37, 38, 39, 40, 41, 42, 43, 44, 45, 46, 47, 48, 33] (by decide +kernel) ?_
        repeat (refine stp rfl ?_ ?_;·repeat' constructor)
        exact ⟨k + 1, hk.succ hf he, by omega, rfl, rfl, rfl, i64_next (by omega) (by omega), rfl, rfl, trivial⟩
      | false =>
        repeat (refine stp rfl ?_ ?_;·repeat' constructor)
        exact end1i rfl rfl (by rw [hk.found hf he (by decide)]; rfl)
    case s =>
      have hn := hN p.ship
      have he : (Fd.s).err p = if isName p.ship = true then 0 else 4 := rfl
      generalize isName p.ship = b at hn he
      repeat (refine stp rfl ?_ ?_;·repeat' constructor)
      apply qst;exact rfl;exact rfl;exact q_idxA rfl rfl rfl rfl rfl rfl rfl (by omega) (by omega)
      apply qst;exact rfl;exact rfl;exact q_ldp rfl rfl rfl hr rfl
      repeat (refine stp rfl ?_ ?_;·repeat' constructor)
      apply qst;exact rfl;exact rfl;exact q_callP rfl (hn) rfl (by repeat' constructor) rfl rfl
      cases b with
      | true =>
        repeat (refine stp rfl ?_ ?_;·repeat' constructor)
        refine pw_draw 16 [34, 35, 36, 37, 38, 39, 40, 41, 42, 43, 44, 45, 46, 47, 48, 33] (by decide +kernel) ?_
        repeat (refine stp rfl ?_ ?_;·repeat' constructor)
        exact ⟨k + 1, hk.succ hf he, by omega, rfl, rfl, rfl, i64_next (by omega) (by omega), rfl, rfl, trivial⟩
      | false =>
        repeat (refine stp rfl ?_ ?_;·repeat' constructor)
        exact end1i rfl rfl (by rw [hk.found hf he (by decide)]; rfl)
    case w =>
      have hn := hN p.who
      have he : (Fd.w).err p = if isName p.who = true then 0 else 4 := rfl
      generalize isName p.who = b at hn he
      repeat (refine stp rfl ?_ ?_;·repeat' constructor)
      apply qst;exact rfl;exact rfl;exact q_idxA rfl rfl rfl rfl rfl rfl rfl (by omega) (by omega)
      apply qst;exact rfl;exact rfl;exact q_ldp rfl rfl rfl hr rfl
      repeat (refine stp rfl ?_ ?_;·repeat' constructor)
      apply qst;exact rfl;exact rfl;exact q_callP rfl (hn) rfl (by repeat' constructor) rfl rfl
      cases b with
      | true =>
        repeat (refine stp rfl ?_ ?_;·repeat' constructor)
        refine pw_draw 16 [34, 35, 36, 37, 38, 39, 40, 41, 42, 43, 44, 45, 46, 47, 48, 33] (by decide +kernel) ?_
        repeat (refine stp rfl ?_ ?_;·repeat' constructor)
        exact ⟨k + 1, hk.succ hf he, by omega, rfl, rfl, rfl, i64_next (by omega) (by omega), rfl, rfl, trivial⟩
      | false =>
        repeat (refine stp rfl ?_ ?_;·repeat' constructor)
        exact end1i rfl rfl (by rw [hk.found hf he (by decide)]; rfl)
    case a lo hi =>
      have hn := hB p.amount lo hi
      have he : (Fd.a lo hi).err p = if inside p.amount lo hi = true then 0 else 2 := rfl
      generalize inside p.amount lo hi = b at hn he
      repeat (refine stp rfl ?_ ?_;·repeat' constructor)
      apply qst;exact rfl;exact rfl;exact q_idxA rfl rfl rfl rfl rfl rfl rfl (by omega) (by omega)
      apply qst;exact rfl;exact rfl;exact q_ldp rfl rfl rfl hr rfl
      repeat (refine stp rfl ?_ ?_;·repeat' constructor)
      refine pw_draw 16 [34, 35, 36, 37, 38, 39, 40, 41, 42, 43, 44, 45, 46, 47, 48, 33] (by decide +kernel) ?_
      repeat (refine stp rfl ?_ ?_;·repeat' constructor)
      apply qst;exact rfl;exact rfl;exact q_callP rfl (hn) rfl (by repeat' constructor) rfl rfl
      cases b with
      | true =>
        repeat (refine stp rfl ?_ ?_;·repeat' constructor)
        exact ⟨k + 1, hk.succ hf he, by omega, rfl, rfl, rfl, i64_next (by omega) (by omega), rfl, rfl, trivial⟩
      | false =>
        repeat (refine stp rfl ?_ ?_;·repeat' constructor)
        exact end1i rfl rfl (by rw [hk.found hf he (by decide)]; rfl)
    case r lo hi =>
      have hn := hB p.ref lo hi
      have he : (Fd.r lo hi).err p = if inside p.ref lo hi = true then 0 else 2 := rfl
      generalize inside p.ref lo hi = b at hn he
      repeat (refine stp rfl ?_ ?_;·repeat' constructor)
      apply qst;exact rfl;exact rfl;exact q_idxA rfl rfl rfl rfl rfl rfl rfl (by omega) (by omega)
      apply qst;exact rfl;exact rfl;exact q_ldp rfl rfl rfl hr rfl
      repeat (refine stp rfl ?_ ?_;·repeat' constructor)
      refine pw_draw 16 [34, 35, 36, 37, 38, 39, 40, 41, 42, 43, 44, 45, 46, 47, 48, 33] (by decide +kernel) ?_
      repeat (refine stp rfl ?_ ?_;·repeat' constructor)
      apply qst;exact rfl;exact rfl;exact q_callP rfl (hn) rfl (by repeat' constructor) rfl rfl
      cases b with
      | true =>
        repeat (refine stp rfl ?_ ?_;·repeat' constructor)
        exact ⟨k + 1, hk.succ hf he, by omega, rfl, rfl, rfl, i64_next (by omega) (by omega), rfl, rfl, trivial⟩
      | false =>
        repeat (refine stp rfl ?_ ?_;·repeat' constructor)
        exact end1i rfl rfl (by rw [hk.found hf he (by decide)]; rfl)
    case l lo hi =>
      have hn := hB p.role lo hi
      have he : (Fd.l lo hi).err p = if inside p.role lo hi = true then 0 else 2 := rfl
      generalize inside p.role lo hi = b at hn he
      repeat (refine stp rfl ?_ ?_;·repeat' constructor)
      apply qst;exact rfl;exact rfl;exact q_idxA rfl rfl rfl rfl rfl rfl rfl (by omega) (by omega)
      apply qst;exact rfl;exact rfl;exact q_ldp rfl rfl rfl hr rfl
      repeat (refine stp rfl ?_ ?_;·repeat' constructor)
      refine pw_draw 16 [34, 35, 36, 37, 38, 39, 40, 41, 42, 43, 44, 45, 46, 47, 48, 33] (by decide +kernel) ?_
      repeat (refine stp rfl ?_ ?_;·repeat' constructor)
      apply qst;exact rfl;exact rfl;exact q_callP rfl (hn) rfl (by repeat' constructor) rfl rfl
      cases b with
      | true =>
        repeat (refine stp rfl ?_ ?_;·repeat' constructor)
        exact ⟨k + 1, hk.succ hf he, by omega, rfl, rfl, rfl, i64_next (by omega) (by omega), rfl, rfl, trivial⟩
      | false =>
        repeat (refine stp rfl ?_ ?_;·repeat' constructor)
        exact end1i rfl rfl (by rw [hk.found hf he (by decide)]; rfl)
  · repeat (refine stp rfl ?_ ?_;·repeat' constructor)
    exact end1i rfl rfl (by rw [hk.none (by simpa using h)])
end Go.Pv


set_option maxHeartbeats 2000000
namespace Go.Pv
attribute [local irreducible] PWP POps PQuiet PSem XThen XBlock RetPost InlPost
open Go.Proofs
def Fd.set (p o : SPost) : Fd → SPost
  | .o => { o with order := p.order }
  | .i => { o with item := p.item }
  | .s => { o with ship := p.ship }
  | .w => { o with who := p.who }
  | .a _ _ => { o with amount := p.amount }
  | .r _ _ => { o with ref := p.ref }
  | .l _ _ => { o with role := p.role }
def bareP (p : SPost) : SPost := ⟨p.op, p.day, [], [], [], [], 0, 0, 0⟩
def cpyK (p : SPost) (fs : List Fd) : SPost := fs.foldl (fun o f => f.set p o) (bareP p)
def cleanP (p : SPost) : SPost := cpyK p (fdsOf p.op)
theorem cpyK_snoc (p : SPost) {fs : List Fd} {k : Nat} {f : Fd} (h : fs[k]? = some f) : cpyK p (fs.take (k + 1)) = f.set p (cpyK p (fs.take k)) := by
  rw [take_snoc h, cpyK, List.foldl_append]; rfl
set_option maxRecDepth 20000 in
theorem cleared_ret (p : SPost) : Ret Tryz.prog .shared 103 [.agg (ePost p)] (.agg (ePost (cleanP p))) := by
  have hfl := fdsOf_len p.op
  have htl : ((fdsOf p.op).map Fd.tm).length = (fdsOf p.op).length := List.length_map _
  rw [cleanP]
  refine Ret.of_pwp layOk mixed Go.Proofs.Tryz.func103 rfl (by decide) rfl rfl ?_
  ((repeat (first | refine ps_nil ?_ | refine pq_nil ?_ | refine x_norm ?_ | refine pw_seq ?_)); refine pw_region ?_)
  refine ps_run (o_box rfl rfl rfl (by repeat' constructor) rfl ?_)
  iterate 13 (refine stp rfl ?_ ?_;·repeat' constructor)
  ((repeat (first | refine x_norm ?_ | refine pw_seq ?_)); refine pw_regionS 0 ?_)
  refine ps_nil ?_
  refine psem_sm rfl (sm_callP ((fdsOf p.op).map Fd.tm) (fun b off => fields_tm b off p.op) rfl rfl rfl rfl rfl rfl (fdsOf_tm_ok p.op) rfl ?_)
  refine psem_ops ?_
  rw [htl]
  refine ps_v rfl trivial ?_
  refine ps_nil ?_
  ((repeat (first | refine x_norm ?_ | refine pw_seq ?_)); refine pw_regionS 0 ?_)
  refine ps_nil ?_
  refine psem_sm rfl (sm_callP ((fdsOf p.op).map Fd.tm) (fun b off => fields_tm b off p.op) rfl rfl rfl rfl rfl rfl (fdsOf_tm_ok p.op) rfl ?_)
  refine psem_ops ?_
  rw [htl]
  repeat (refine stp rfl ?_ ?_;·repeat' constructor)
  have hrow : ∀ (q : Nat) (k : Nat) (f : Fd), (fdsOf p.op)[k]? = some f → (((fdsOf p.op).map Fd.tm).map fun r => r.map (TC.inst fun o => PV.ptr q 1 0 o))[0 + (k : Int).toNat]? = some (f.tm.map (TC.inst fun o => PV.ptr q 1 0 o)) := fun q k f h => by
    rw [List.getElem?_map, List.getElem?_map, Int.toNat_natCast, Nat.zero_add, h]; rfl
  have hr1 := hrow 1
  have hr3 := hrow 3
  clear hrow
  refine pw_loop (fun k => k ≤ (fdsOf p.op).length) (fun k => [(2, .ptr 2 1 0 0), (3, .ptr 3 1 0 0), (4, .als 12 1 0 (fdsOf p.op).length), (13, .als 13 1 0 (fdsOf p.op).length), (14, I (fdsOf p.op).length), (15, I k)])
    (fun k => [(1, 1, ⟨23, 9, [ePost p], 2⟩), (2, 1, ⟨23, 9, [[I 0, I 0, .str [], .str [], .str [], .str [], I 0, I 0, I 0]], 2⟩), (3, 1, ⟨23, 9, [ePost (cpyK p ((fdsOf p.op).take k))], 2⟩),
      (12, 1, ⟨125, 4, ((fdsOf p.op).map Fd.tm).map fun r => r.map (TC.inst fun o => PV.ptr 3 1 0 o), 2⟩), (13, 1, ⟨125, 4, ((fdsOf p.op).map Fd.tm).map fun r => r.map (TC.inst fun o => PV.ptr 1 1 0 o), 2⟩)]) (fun k => (fdsOf p.op).length - k) 0 (Nat.zero_le _) ⟨rfl, rfl, rfl, rfl, rfl, rfl, rfl, rfl, rfl, rfl, rfl, trivial⟩ ?_
  generalize (((fdsOf p.op).map Fd.tm).map fun r => r.map (TC.inst fun o => PV.ptr 1 1 0 o)) = rows1 at *
  generalize (((fdsOf p.op).map Fd.tm).map fun r => r.map (TC.inst fun o => PV.ptr 3 1 0 o)) = rows3 at *
  generalize fdsOf p.op = fs at *
  intro k s hk
  have hk : k ≤ fs.length := hk
  repeat (refine stp rfl ?_ ?_;·repeat' constructor)
  refine pw_cond rfl (fun h => ?_) (fun h => ?_)
  · have hlt : k < fs.length := by simpa using h
    clear h
    obtain ⟨f, hf⟩ := get_lt hlt
    have g1 := hr1 k f hf
    have g3 := hr3 k f hf
    have hnx := cpyK_snoc p hf
    generalize cpyK p (fs.take k) = q at *
    cases f
    case o =>
      repeat (refine stp rfl ?_ ?_;·repeat' constructor)
      apply qst;exact rfl;exact rfl;exact q_idxA rfl rfl rfl rfl rfl rfl rfl (by omega) (by omega)
      apply qst;exact rfl;exact rfl;exact q_ldp rfl rfl rfl g1 rfl
      repeat (refine stp rfl ?_ ?_;·repeat' constructor)
      refine pw_draw 10 [23, 24, 25, 26, 27, 28, 29, 30, 31, 32] (by decide +kernel) ?_
      repeat (refine stp rfl ?_ ?_;·repeat' constructor)
      apply qst;exact rfl;exact rfl;exact q_idxA rfl rfl rfl rfl rfl rfl rfl (by omega) (by omega)
      repeat (refine stp rfl ?_ ?_;·repeat' constructor)
      apply qst;exact rfl;exact rfl;exact q_ldp rfl rfl rfl g3 rfl
      repeat (refine stp rfl ?_ ?_;·repeat' constructor)
      exact ⟨k + 1, hlt, by omega, rfl, rfl, rfl, rfl, rfl, i64_next (by omega) (by omega), rfl, rfl, by rw [hnx]; rfl, rfl, rfl, trivial⟩
    case i =>
      repeat (refine stp rfl ?_ ?_;·repeat' constructor)
      apply qst;exact rfl;exact rfl;exact q_idxA rfl rfl rfl rfl rfl rfl rfl (by omega) (by omega)
      apply qst;exact rfl;exact rfl;exact q_ldp rfl rfl rfl g1 rfl
      repeat (refine stp rfl ?_ ?_;·repeat' constructor)
      refine pw_draw 10 [23, 24, 25, 26, 27, 28, 29, 30, 31, 32] (by decide +kernel) ?_
      repeat (refine stp rfl ?_ ?_;·repeat' constructor)
      apply qst;exact rfl;exact rfl;exact q_idxA rfl rfl rfl rfl rfl rfl rfl (by omega) (by omega)
      repeat (refine stp rfl ?_ ?_;·repeat' constructor)
      apply qst;exact rfl;exact rfl;exact q_ldp rfl rfl rfl g3 rfl
      repeat (refine stp rfl ?_ ?_;·repeat' constructor)
      exact ⟨k + 1, hlt, by omega, rfl, rfl, rfl, rfl, rfl, i64_next (by omega) (by omega), rfl, rfl, by rw [hnx]; rfl, rfl, rfl, trivial⟩
    case s =>
      repeat (refine stp rfl ?_ ?_;·repeat' constructor)
      apply qst;exact rfl;exact rfl;exact q_idxA rfl rfl rfl rfl rfl rfl rfl (by omega) (by omega)
      apply qst;exact rfl;exact rfl;exact q_ldp rfl rfl rfl g1 rfl
      repeat (refine stp rfl ?_ ?_;·repeat' constructor)
      refine pw_draw 10 [23, 24, 25, 26, 27, 28, 29, 30, 31, 32] (by decide +kernel) ?_
      repeat (refine stp rfl ?_ ?_;·repeat' constructor)
      apply qst;exact rfl;exact rfl;exact q_idxA rfl rfl rfl rfl rfl rfl rfl (by omega) (by omega)
      repeat (refine stp rfl ?_ ?_;·repeat' constructor)
      apply qst;exact rfl;exact rfl;exact q_ldp rfl rfl rfl g3 rfl
      repeat (refine stp rfl ?_ ?_;·repeat' constructor)
      exact ⟨k + 1, hlt, by omega, rfl, rfl, rfl, rfl, rfl, i64_next (by omega) (by omega), rfl, rfl, by rw [hnx]; rfl, rfl, rfl, trivial⟩
    case w =>
      repeat (refine stp rfl ?_ ?_;·repeat' constructor)
      apply qst;exact rfl;exact rfl;exact q_idxA rfl rfl rfl rfl rfl rfl rfl (by omega) (by omega)
      apply qst;exact rfl;exact rfl;exact q_ldp rfl rfl rfl g1 rfl
      repeat (refine stp rfl ?_ ?_;·repeat' constructor)
      refine pw_draw 10 [23, 24, 25, 26, 27, 28, 29, 30, 31, 32] (by decide +kernel) ?_
      repeat (refine stp rfl ?_ ?_;·repeat' constructor)
      apply qst;exact rfl;exact rfl;exact q_idxA rfl rfl rfl rfl rfl rfl rfl (by omega) (by omega)
      repeat (refine stp rfl ?_ ?_;·repeat' constructor)
      apply qst;exact rfl;exact rfl;exact q_ldp rfl rfl rfl g3 rfl
      repeat (refine stp rfl ?_ ?_;·repeat' constructor)
      exact ⟨k + 1, hlt, by omega, rfl, rfl, rfl, rfl, rfl, i64_next (by omega) (by omega), rfl, rfl, by rw [hnx]; rfl, rfl, rfl, trivial⟩
    case a lo hi =>
      repeat (refine stp rfl ?_ ?_;·repeat' constructor)
      apply qst;exact rfl;exact rfl;exact q_idxA rfl rfl rfl rfl rfl rfl rfl (by omega) (by omega)
      apply qst;exact rfl;exact rfl;exact q_ldp rfl rfl rfl g1 rfl
      repeat (refine stp rfl ?_ ?_;·repeat' constructor)
      refine pw_draw 10 [33, 34, 35, 36, 37, 38, 39, 40, 41, 42] (by decide +kernel) ?_
      repeat (refine stp rfl ?_ ?_;·repeat' constructor)
      apply qst;exact rfl;exact rfl;exact q_idxA rfl rfl rfl rfl rfl rfl rfl (by omega) (by omega)
      repeat (refine stp rfl ?_ ?_;·repeat' constructor)
      apply qst;exact rfl;exact rfl;exact q_ldp rfl rfl rfl g3 rfl
      repeat (refine stp rfl ?_ ?_;·repeat' constructor)
      exact ⟨k + 1, hlt, by omega, rfl, rfl, rfl, rfl, rfl, i64_next (by omega) (by omega), rfl, rfl, by rw [hnx]; rfl, rfl, rfl, trivial⟩
    case r lo hi =>
      repeat (refine stp rfl ?_ ?_;·repeat' constructor)
      apply qst;exact rfl;exact rfl;exact q_idxA rfl rfl rfl rfl rfl rfl rfl (by omega) (by omega)
      apply qst;exact rfl;exact rfl;exact q_ldp rfl rfl rfl g1 rfl
      repeat (refine stp rfl ?_ ?_;·repeat' constructor)
      refine pw_draw 10 [33, 34, 35, 36, 37, 38, 39, 40, 41, 42] (by decide +kernel) ?_
      repeat (refine stp rfl ?_ ?_;·repeat' constructor)
      apply qst;exact rfl;exact rfl;exact q_idxA rfl rfl rfl rfl rfl rfl rfl (by omega) (by omega)
      repeat (refine stp rfl ?_ ?_;·repeat' constructor)
      apply qst;exact rfl;exact rfl;exact q_ldp rfl rfl rfl g3 rfl
      repeat (refine stp rfl ?_ ?_;·repeat' constructor)
      exact ⟨k + 1, hlt, by omega, rfl, rfl, rfl, rfl, rfl, i64_next (by omega) (by omega), rfl, rfl, by rw [hnx]; rfl, rfl, rfl, trivial⟩
    case l lo hi =>
      repeat (refine stp rfl ?_ ?_;·repeat' constructor)
      apply qst;exact rfl;exact rfl;exact q_idxA rfl rfl rfl rfl rfl rfl rfl (by omega) (by omega)
      apply qst;exact rfl;exact rfl;exact q_ldp rfl rfl rfl g1 rfl
      repeat (refine stp rfl ?_ ?_;·repeat' constructor)
      refine pw_draw 10 [33, 34, 35, 36, 37, 38, 39, 40, 41, 42] (by decide +kernel) ?_
      repeat (refine stp rfl ?_ ?_;·repeat' constructor)
      apply qst;exact rfl;exact rfl;exact q_idxA rfl rfl rfl rfl rfl rfl rfl (by omega) (by omega)
      repeat (refine stp rfl ?_ ?_;·repeat' constructor)
      apply qst;exact rfl;exact rfl;exact q_ldp rfl rfl rfl g3 rfl
      repeat (refine stp rfl ?_ ?_;·repeat' constructor)
      exact ⟨k + 1, hlt, by omega, rfl, rfl, rfl, rfl, rfl, i64_next (by omega) (by omega), rfl, rfl, by rw [hnx]; rfl, rfl, rfl, trivial⟩
  · have hz : k = fs.length := by have : ¬ k < fs.length := by simpa using h
                                  omega
    subst hz
    rw [List.take_length]
    repeat (refine stp rfl ?_ ?_;·repeat' constructor)
    exact endc rfl rfl rfl rfl (by repeat' constructor) rfl
end Go.Pv


set_option maxHeartbeats 2000000
namespace Go.Pv
attribute [local irreducible] PWP POps PQuiet PSem XThen XBlock RetPost InlPost
open Go.Proofs
theorem op_cases {op : Int} (h : inside op 0 8 = true) : op = 0 ∨ op = 1 ∨ op = 2 ∨ op = 3 ∨ op = 4 ∨ op = 5 ∨ op = 6 ∨ op = 7 ∨ op = 8 := by
  simp [inside] at h; omega
end Go.Pv


set_option maxHeartbeats 2000000
namespace Go.Pv
attribute [local irreducible] PWP POps PQuiet PSem XThen XBlock RetPost InlPost
open Go.Proofs
theorem checkE_op {p : SPost} (h : checkE p = 0) : inside p.op 0 8 = true ∧ inside p.day 0 10000 = true ∧ fstE (fdsOf p.op) (fun _ f => f.err p) = 0 := by
  rw [checkE] at h
  split at h
  · rename_i h'; exact ⟨h'.1, h'.2, h⟩
  · omega
def refusalR (l : List SPost) (p : SPost) : Int :=
  if checkE p = 0 then (if 400 ≤ l.length then 8 else if 0 < l.length ∧ p.day < (entL l l.length).day then 10 else refE l p) else checkE p
end Go.Pv


set_option maxHeartbeats 2000000
namespace Go.Pv
attribute [local irreducible] PWP POps PQuiet PSem XThen XBlock RetPost InlPost
open Go.Proofs
theorem inl_end1O {L : Lay} {fn : Func} {K : (Nat → Nat × Option Cont) → PV → Prop} {s : St} {t : Nat} {v : PV} {e : Exit} (owns : List (Nat × Nat × Cont)) (he : e = .ret ∨ e = .normal) (h : fn.results.toList = [.tmp t]) (h1 : s.reg t = v) (ho : FitO s owns)
    (hk : ∀ s1 : St, K (s1.over [] owns).own v) : InlPost L fn (fun s' r => K s'.own r) e s := by
  have hk := hk s
  rw [Fit.over (l := []) ho] at hk
  rcases he with rfl | rfl <;>
  · unfold InlPost
    refine ⟨[s.reg t], True ∧ True, by rw [h]; rfl, ⟨trivial, trivial⟩, ?_⟩
    rw [h1]; exact hk
theorem inl_end2O {L : Lay} {fn : Func} {K : (Nat → Nat × Option Cont) → PV → Prop} {s : St} {t1 t2 : Nat} {v1 v2 : PV} {e : Exit} (owns : List (Nat × Nat × Cont)) (he : e = .ret ∨ e = .normal) (h : fn.results.toList = [.tmp t1, .tmp t2]) (h1 : s.reg t1 = v1) (h2 : s.reg t2 = v2) (ho : FitO s owns)
    (hk : ∀ s1 : St, K (s1.over [] owns).own (.tup [v1, v2])) : InlPost L fn (fun s' r => K s'.own r) e s := by
  have hk := hk s
  rw [Fit.over (l := []) ho] at hk
  rcases he with rfl | rfl <;>
  · unfold InlPost
    refine ⟨[s.reg t1, s.reg t2], True ∧ True ∧ True, by rw [h]; rfl, ⟨trivial, trivial, trivial⟩, ?_⟩
    rw [h1, h2]; exact hk
def bkRow (g1 g2 g3 g62 : Nat) (l : List SPost) : List PV := [.als 62 (g62 + l.length) 0 (l.map ePost).length, .mp 1 g1, .mp 2 g2, .mp 1003 g3]
def bkO (g1 g2 g3 g5 g62 : Nat) (l : List SPost) : List (Nat × Nat × Cont) :=
  [(1, g1, ⟨142, 0, ordR l, 0⟩), (2, g2, ⟨143, 0, itmR l, 0⟩), (5, g5, ⟨146, 4, [bkRow g1 g2 g3 g62 l], 2⟩), (62, g62 + l.length, ⟨23, 9, l.map ePost, 0⟩), (1003, g3, ⟨144, 0, gonR l, 0⟩)]
set_option maxRecDepth 20000 in
theorem new_inl {K : St → Prop} {s : St} {d : Nat} {ty : TypeId} {pos : String} {af : Array Edge}
    (hK : ∀ (s1 : St) (g1 g2 g3 g5 : Nat), K (({ reg := s.reg, own := (s1.over [] [(1, g1, ⟨142, 0, [], 0⟩), (2, g2, ⟨143, 0, [], 0⟩), (3, g3, ⟨144, 0, [], 0⟩), (5, g5, ⟨146, 4, [[.nil, .mp 1 g1, .mp 2 g2, .mp 3 g3]], 2⟩)]).own } : St).putR d (.ptr 5 g5 0 0))) :
    Sm Tryz.prog lay.get s ⟨some d, .call ⟨.value (.func 73), #[], #[]⟩, ty, pos, af, none⟩ K := by
  refine sm_inline layOk rfl rfl Tryz.func73 rfl (by decide) rfl rfl ?_
  show PWP _ _ _ _ (callSt s [])
  repeat (refine stp rfl ?_ ?_;·repeat' constructor)
  refine ps_run (o_mkmap rfl ?_)
  refine ps_run (o_mkmap rfl ?_)
  refine ps_run (o_mkmap rfl ?_)
  repeat (refine stp rfl ?_ ?_;·repeat' constructor)
  refine inl_end1O (t := 0) (v := .ptr 5 ((s.own 5).1 + 1) 0 0) (K := fun o r => K (({ reg := s.reg, own := o } : St).putR d r)) [(1, (s.own 1).1 + 1, ⟨142, 0, [], 0⟩), (2, (s.own 2).1 + 1, ⟨143, 0, [], 0⟩), (3, (s.own 3).1 + 1, ⟨144, 0, [], 0⟩), (5, (s.own 5).1 + 1, ⟨146, 4, [[.nil, .mp 1 ((s.own 1).1 + 1), .mp 2 ((s.own 2).1 + 1), .mp 3 ((s.own 3).1 + 1)]], 2⟩)] (.inl rfl) ?_ ?_ ?_ fun s1 => hK s1 _ _ _ _
  · rfl
  · rfl
  · exact ⟨rfl, rfl, rfl, rfl, trivial⟩
theorem clean_op (p : SPost) : (cleanP p).op = p.op ∧ (cleanP p).day = p.day := by
  have : ∀ (fs : List Fd) (o : SPost), (fs.foldl (fun o f => f.set p o) o).op = o.op ∧ (fs.foldl (fun o f => f.set p o) o).day = o.day := by
    intro fs
    induction fs with
    | nil => intro o; exact ⟨rfl, rfl⟩
    | cons f fs ih =>
      intro o
      rw [List.foldl_cons, (ih _).1, (ih _).2]
      cases f <;> exact ⟨rfl, rfl⟩
  exact this _ _
theorem mput_new {k v : PV} {rows : List (List PV)} (h : (mix k rows).isSome = false) : mput k v rows = rows ++ [[k, v]] := by
  rw [mput]
  cases hm : mix k rows with
  | none => rfl
  | some i => rw [hm] at h; cases h
theorem ord_none {l : List SPost} {nm : Str} (h : ¬ 0 < ordNo l nm) : (mix (.str nm) (ordR l)).isSome = false := by
  rw [(ordR_at l nm).2, ← idx_nonneg]
  rw [ordNo] at h
  exact decide_eq_false (by omega)
theorem itm_none {l : List SPost} {o nm : Str} (h : ¬ 0 < itmNo l o nm) : (mix (.agg [.str o, .str nm]) (itmR l)).isSome = false := by
  rw [(itmR_at l o nm).2, ← idx_nonneg]
  rw [itmNo] at h
  exact decide_eq_false (by omega)
theorem gon_none {l : List SPost} (hW : Wf l) {n : Int} {ks : List Int} (h : aimE l n ks = 0) : (mix (I n) (gonR l)).isSome = false := by
  rw [(gonR_at l n).2]
  have hb := aimE_zero h
  rw [aimE, if_neg (by simp [inside]; omega)] at h
  split at h
  · omega
  rw [standE, if_neg (by omega)] at h
  split at h
  · rename_i hv
    rw [liveB_pos hW hb.1] at hv
    simpa using (Bool.and_eq_true_iff.1 hv).1
  · omega
theorem bk_snoc (l : List SPost) (q : SPost) : ordR (l ++ [q]) = ordR l ++ (match ordK q with | some k => [[k, numV (0 + l.length)]] | none => []) ∧ itmR (l ++ [q]) = itmR l ++ (match itmK q with | some k => [[k, numV (0 + l.length)]] | none => []) ∧
    gonR (l ++ [q]) = gonR l ++ (match gonK q with | some k => [[k, .bool true]] | none => []) := ⟨mrows_snoc _ _ q l 0, mrows_snoc _ _ q l 0, mrows_snoc _ _ q l 0⟩
set_option maxRecDepth 20000 in
theorem post_inl {K : St → Prop} {s : St} {d g1 g2 g3 g5 g62 : Nat} {x y : Operand} {tys : Array TypeId} {ty : TypeId} {pos : String} {af : Array Edge} (l : List SPost) (hW : Wf l) (p : SPost) (hx : s.ev x = .ptr 5 g5 0 0) (hy : s.ev y = .agg (ePost p)) (ho : FitO s (bkO g1 g2 g3 g5 g62 l))
    (hno : ∀ s1 : St, refusalR l p ≠ 0 → K (({ reg := s.reg, own := (s1.over [] (bkO g1 g2 g3 g5 g62 l)).own } : St).putR d (.tup [I 0, I (refusalR l p)])))
    (hyes : ∀ s1 : St, refusalR l p = 0 → K (({ reg := s.reg, own := (s1.over [] (bkO g1 g2 g3 g5 g62 (l ++ [cleanP p]))).own } : St).putR d (.tup [I (l.length + 1), I 0]))) :
    Sm Tryz.prog lay.get s ⟨some d, .call ⟨.value (.func 46), #[x, y], tys⟩, ty, pos, af, none⟩ K := by
  have hl := hW.len
  have hll : ((l.map ePost).length : Int) = l.length := by simp
  have h36 := checkPost_ret p
  have h37 := refused_ret l hW p
  have h38 := cleared_ret p
  refine sm_inline layOk rfl rfl Tryz.func46 rfl (by decide) rfl rfl ?_
  show PWP _ _ _ _ (callSt s (([x, y] : List Operand).map s.ev ++ []))
  rw [show (([x, y] : List Operand).map s.ev ++ ([] : List PV)) = [.ptr 5 g5 0 0, .agg (ePost p)] by simp [hx, hy]]
  rw [show callSt s [.ptr 5 g5 0 0, .agg (ePost p)] = callSt (s.over [] (bkO g1 g2 g3 g5 g62 l)) [.ptr 5 g5 0 0, .agg (ePost p)] by rw [Fit.over (l := []) ho]]
  have nope : refusalR l p ≠ 0 → ∀ (st : St) (e : Exit), (e = .ret ∨ e = .normal) → st.reg 4 = I 0 → st.reg 5 = I (refusalR l p) → FitO st (bkO g1 g2 g3 g5 g62 l) → InlPost lay.get Tryz.f46 (fun s' r => K (({ reg := s.reg, own := s'.own } : St).putR d r)) e st := fun hr st e he h1 h2 h3 =>
    inl_end2O (K := fun o r => K (({ reg := s.reg, own := o } : St).putR d r)) _ he rfl h1 h2 h3 fun s1 => hno s1 hr
  clear ho hx hy
  ((repeat (first | refine ps_nil ?_ | refine pq_nil ?_ | refine x_norm ?_ | refine pw_seq ?_)); refine pw_region ?_)
  refine ps_run (o_box rfl rfl rfl (by repeat' constructor) rfl ?_)
  generalize (s.own 3).1 + 1 = gg
  repeat (refine stp rfl ?_ ?_;·repeat' constructor)
  apply qst;exact rfl;exact rfl;exact q_callP rfl (h36) rfl (by repeat' constructor) rfl rfl
  repeat (refine stp rfl ?_ ?_;·repeat' constructor)
  refine pw_cond rfl (fun h => ?_) (fun h => ?_)
  · have hne : ¬ checkE p = 0 := by simpa using h
    have hr : refusalR l p = checkE p := by rw [refusalR, if_neg hne]
    repeat (refine stp rfl ?_ ?_;·repeat' constructor)
    exact nope (by rw [hr]; exact hne) _ _ (.inl rfl) rfl (by rw [hr]; rfl) ⟨rfl, rfl, rfl, rfl, rfl, trivial⟩
  have hc0 : checkE p = 0 := by simpa using h
  rw [refusalR, if_pos hc0] at nope hno hyes
  clear h h36
  refine pw_skip ?_
  refine x_norm ?_
  refine pw_cutP (¬ 400 ≤ l.length ∧ ¬ (0 < l.length ∧ p.day < (entL l l.length).day)) [(0, .ptr 5 g5 0 0), (3, .ptr 3 gg 0 0)] ((3, gg, ⟨23, 9, [ePost p], 2⟩) :: bkO g1 g2 g3 g5 g62 l) ?_ ?_
  · repeat (refine stp rfl ?_ ?_;·repeat' constructor)
    rw [hll]
    by_cases h4 : 400 ≤ l.length
    · rw [if_pos h4] at nope
      refine pw_cond rfl (fun h => ?_) (fun h => ?_)
      · repeat (refine stp rfl ?_ ?_;·repeat' constructor)
        exact nope (by decide) _ _ (.inl rfl) rfl rfl ⟨rfl, rfl, rfl, rfl, rfl, trivial⟩
      · exact absurd (of_decide_eq_false h) (by omega)
    rw [if_neg h4] at nope
    refine pw_cond rfl (fun h => ?_) (fun h => ?_)
    · exact absurd (of_decide_eq_true h) (by omega)
    clear h
    have hwl : 0 < l.length → IntKind.wrap .i64 ((l.length : Int) - 1) = (l.length : Int) - 1 := fun h => wrap_i64 (by omega) (by omega)
    repeat (refine stp rfl ?_ ?_;·repeat' constructor)
    refine pw_draw 25 [24, 25, 26, 27, 28, 29, 30, 31, 32, 33, 34, 35, 36, 37, 38, 39, 40, 41, 42, 43, 44, 45, 46, 47, 23] (by decide +kernel) ?_
    repeat (refine stp rfl ?_ ?_;·repeat' constructor)
    rw [hll]
    (first | refine ps_split rfl rfl (fun h => ?_) (fun h => ?_) | refine pq_split rfl rfl (fun h => ?_) (fun h => ?_) | refine p3_split rfl rfl (fun h => ?_) (fun h => ?_))
    · have hlp := of_decide_eq_true h
      have he := entL_at (l := l) (n := l.length) (by omega) (by omega)
      have hwl := hwl (by omega)
      have hrow : (l.map ePost)[0 + ((l.length : Int) - 1).toNat]? = some (ePost (entL l l.length)) := by rw [List.getElem?_map, Nat.zero_add, he]; rfl
      repeat (refine stp rfl ?_ ?_;·repeat' constructor)
      rw [hll, hwl]
      apply qst;exact rfl;exact rfl;exact q_idxA rfl rfl rfl rfl rfl rfl rfl (by omega) (by omega)
      repeat (refine stp rfl ?_ ?_;·repeat' constructor)
      apply qst;exact rfl;exact rfl;exact q_ldp rfl rfl rfl hrow rfl
      repeat (refine stp rfl ?_ ?_;·repeat' constructor)
      refine pw_cond rfl (fun h => ?_) (fun h => ?_)
      · have hd := of_decide_eq_true h
        rw [if_pos ⟨by omega, hd⟩] at nope
        repeat (refine stp rfl ?_ ?_;·repeat' constructor)
        exact nope (by decide) _ _ (.inl rfl) rfl rfl ⟨rfl, rfl, rfl, rfl, rfl, trivial⟩
      · have hd := of_decide_eq_false h
        repeat (refine stp rfl ?_ ?_;·repeat' constructor)
        exact ⟨⟨h4, fun hc => hd hc.2⟩, rfl, rfl, rfl, rfl, rfl, rfl, rfl, rfl, trivial⟩
    · have hlp := of_decide_eq_false h
      repeat (refine stp rfl ?_ ?_;·repeat' constructor)
      exact ⟨⟨h4, fun hc => hlp (by omega)⟩, rfl, rfl, rfl, rfl, rfl, rfl, rfl, rfl, trivial⟩
  rintro ⟨h4, hday⟩ s1
  rw [if_neg h4, if_neg hday] at nope hno hyes
  repeat (refine stp rfl ?_ ?_;·repeat' constructor)
  apply qst;exact rfl;exact rfl;exact q_callP rfl (h37) rfl (by repeat' constructor) rfl rfl
  repeat (refine stp rfl ?_ ?_;·repeat' constructor)
  refine pw_cond rfl (fun h => ?_) (fun h => ?_)
  · have hne : ¬ refE l p = 0 := by simpa using h
    repeat (refine stp rfl ?_ ?_;·repeat' constructor)
    exact nope hne _ _ (.inl rfl) rfl rfl ⟨rfl, rfl, rfl, rfl, rfl, trivial⟩
  have hr0 : refE l p = 0 := by simpa using h
  clear h nope hno
  replace hyes := fun s1 => hyes s1 hr0
  have hsn := bk_snoc l (cleanP p)
  have hqo := clean_op p
  generalize hq : cleanP p = q at *
  refine pw_skip ?_
  refine x_norm ?_
  refine pw_cut [(0, .ptr 5 g5 0 0), (3, .ptr 3 gg 0 0)] [(1, g1, ⟨142, 0, ordR l, 0⟩), (2, g2, ⟨143, 0, itmR l, 0⟩), (3, gg, ⟨23, 9, [ePost p], 2⟩), (5, g5, ⟨146, 4, [bkRow g1 g2 g3 g62 (l ++ [q])], 2⟩), (62, g62 + (l ++ [q]).length, ⟨23, 9, (l ++ [q]).map ePost, 0⟩), (1003, g3, ⟨144, 0, gonR l, 0⟩)] ?_ ?_
  · refine pw_draw3 [5, 62] [2, 3, 4, 8, 9, 10, 11] (by decide +kernel) ?_
    repeat (refine stp rfl ?_ ?_;·repeat' constructor)
    apply qst;exact rfl;exact rfl;exact q_call rfl (h38) rfl (by repeat' constructor) rfl
    repeat (refine stp rfl ?_ ?_;·repeat' constructor)
    apply qst;exact rfl;exact rfl;exact q_slit rfl rfl rfl rfl rfl rfl rfl rfl rfl rfl (by repeat' constructor) rfl
    repeat (refine stp rfl ?_ ?_;·repeat' constructor)
    refine z3e rfl rfl rfl (o_app 0 rfl rfl rfl rfl rfl rfl rfl rfl rfl rfl rfl (by repeat' constructor) (by intro row hr; first | (simp at hr; subst hr; rfl) | (simp at hr; obtain ⟨_, _, rfl⟩ := hr; rfl) | simp at hr) rfl rfl (by simp; omega) (by simp; omega) ⟨offz rfl, ?_⟩)
    repeat (refine stp rfl ?_ ?_;·repeat' constructor)
    refine ⟨rfl, rfl, rfl, rfl, rfl, ?_, ?_, rfl, trivial⟩
    · refine Eq.trans (b := (g5, some (Cont.mk 146 4 [[.als 62 (g62 + l.length + 1) 0 (l.map ePost ++ [ePost q]).length, .mp 1 g1, .mp 2 g2, .mp 1003 g3]] 2))) rfl ?_
      rw [als_snoc ePost 62 g62 l q]; rfl
    · exact cont_snoc ePost g62 23 9 0 l q
  intro s2
  have hl2 : (((l ++ [q]).map ePost).length : Int) = l.length + 1 := by simp
  have fin : ∀ (st : St), st.reg 4 = I (l.length + 1) → st.reg 5 = I 0 → FitO st (bkO g1 g2 g3 g5 g62 (l ++ [q])) → InlPost lay.get Tryz.f46 (fun s' r => K (({ reg := s.reg, own := s'.own } : St).putR d r)) .ret st := fun st h1 h2 h3 =>
    inl_end2O (K := fun o r => K (({ reg := s.reg, own := o } : St).putR d r)) _ (.inl rfl) rfl h1 h2 h3 fun s1 => hyes s1
  rw [refE] at hr0
  by_cases h0 : p.op = 0
  · rw [if_pos h0] at hr0
    have hz : ¬ 0 < ordNo l p.order := by intro hc; rw [if_pos hc] at hr0; omega
    have hqq : q.order = p.order := by rw [← hq, cleanP, h0]; rfl
    have hput := mput_new (v := I (l.length + 1)) (ord_none hz)
    have e1 : ordR (l ++ [q]) = ordR l ++ [[.str p.order, I (l.length + 1)]] := by rw [hsn.1, ordK, hqo.1, if_pos h0, hqq]; simp [numV]
    have e2 : itmR (l ++ [q]) = itmR l := by rw [hsn.2.1, itmK, hqo.1, if_neg (by omega)]; simp
    have e3 : gonR (l ++ [q]) = gonR l := by rw [hsn.2.2, gonK, hqo.1, if_neg (by omega)]; simp
    rw [← e1] at hput
    rw [bkO, e2, e3] at fin
    repeat (refine stp rfl ?_ ?_;·repeat' constructor)
    rw [hl2]
    repeat (first|(refine stp rfl ?_ ?_;·repeat' constructor)|(refine pw_cond rfl (fun hA => absurd hA (by intro hA; simp only [decide_eq_true_eq, decide_eq_false_iff_not, Bool.not_eq_true', Bool.not_eq_false'] at hA; omega)) (fun _ => ?_))|(refine pw_cond rfl (fun _ => ?_) (fun hA => absurd hA (by intro hA; simp only [decide_eq_true_eq, decide_eq_false_iff_not, Bool.not_eq_true', Bool.not_eq_false'] at hA; omega))))
    refine pw_draw 7 [74, 75, 76, 77, 78, 79, 80] (by decide +kernel) ?_
    repeat (refine stp rfl ?_ ?_;·repeat' constructor)
    refine ps_run0 (o_msetG none 0 rfl rfl rfl rfl rfl rfl rfl rfl rfl rfl (ordR_keyed l) rfl rfl ?_)
    rw [show nrm 0 (I (l.length + 1)) = I (l.length + 1) from rfl, hput]
    repeat (refine stp rfl ?_ ?_;·repeat' constructor)
    exact fin _ rfl rfl ⟨rfl, rfl, rfl, rfl, rfl, trivial⟩
  rw [if_neg h0] at hr0
  by_cases h1 : p.op = 1
  · rw [if_pos h1] at hr0
    have hz : ¬ 0 < itmNo l p.order p.item := by
      intro hc; rw [if_pos hc] at hr0; split at hr0 <;> omega
    have hqq : q.order = p.order ∧ q.item = p.item := by rw [← hq, cleanP, h1]; exact ⟨rfl, rfl⟩
    have hput := mput_new (v := I (l.length + 1)) (itm_none hz)
    have e1 : ordR (l ++ [q]) = ordR l := by rw [hsn.1, ordK, hqo.1, if_neg h0]; simp
    have e2 : itmR (l ++ [q]) = itmR l ++ [[.agg [.str p.order, .str p.item], I (l.length + 1)]] := by rw [hsn.2.1, itmK, hqo.1, if_pos h1, hqq.1, hqq.2]; simp [numV]
    have e3 : gonR (l ++ [q]) = gonR l := by rw [hsn.2.2, gonK, hqo.1, if_neg (by omega)]; simp
    rw [← e2] at hput
    rw [bkO, e1, e3] at fin
    clear h0
    repeat (refine stp rfl ?_ ?_;·repeat' constructor)
    rw [hl2]
    repeat (first|(refine stp rfl ?_ ?_;·repeat' constructor)|(refine pw_cond rfl (fun hA => absurd hA (by intro hA; simp only [decide_eq_true_eq, decide_eq_false_iff_not, Bool.not_eq_true', Bool.not_eq_false'] at hA; omega)) (fun _ => ?_))|(refine pw_cond rfl (fun _ => ?_) (fun hA => absurd hA (by intro hA; simp only [decide_eq_true_eq, decide_eq_false_iff_not, Bool.not_eq_true', Bool.not_eq_false'] at hA; omega))))
    refine pw_draw 10 [83, 84, 85, 86, 87, 88, 89, 90, 91, 92] (by decide +kernel) ?_
    repeat (refine stp rfl ?_ ?_;·repeat' constructor)
    refine ps_run0 (o_msetG (some [.str, .str]) 0 rfl rfl rfl good72 rfl rfl rfl rfl rfl rfl (itmR_keyed l _) rfl rfl ?_)
    rw [show nrm 0 (I (l.length + 1)) = I (l.length + 1) from rfl]
    refine Eq.mp (congrArg (fun r => POps _ _ _ _ _ (St.setOwn _ 2 g2 (some ⟨143, 0, r, 0⟩))) hput.symm) ?_
    repeat (refine stp rfl ?_ ?_;·repeat' constructor)
    exact fin _ rfl rfl ⟨rfl, rfl, rfl, rfl, rfl, trivial⟩
  rw [if_neg h1] at hr0
  by_cases h8 : p.op = 8
  · rw [if_neg (by omega), if_neg (by omega), if_pos h8] at hr0
    have hqq : q.ref = p.ref := by rw [← hq, cleanP, h8]; rfl
    have hput := mput_new (v := .bool true) (gon_none hW hr0)
    have e1 : ordR (l ++ [q]) = ordR l := by rw [hsn.1, ordK, hqo.1, if_neg h0]; simp
    have e2 : itmR (l ++ [q]) = itmR l := by rw [hsn.2.1, itmK, hqo.1, if_neg h1]; simp
    have e3 : gonR (l ++ [q]) = gonR l ++ [[I p.ref, .bool true]] := by rw [hsn.2.2, gonK, hqo.1, if_pos h8, hqq]
    rw [← e3] at hput
    rw [bkO, e1, e2] at fin
    clear h0 h1
    repeat (refine stp rfl ?_ ?_;·repeat' constructor)
    rw [hl2]
    repeat (first|(refine stp rfl ?_ ?_;·repeat' constructor)|(refine pw_cond rfl (fun hA => absurd hA (by intro hA; simp only [decide_eq_true_eq, decide_eq_false_iff_not, Bool.not_eq_true', Bool.not_eq_false'] at hA; omega)) (fun _ => ?_))|(refine pw_cond rfl (fun _ => ?_) (fun hA => absurd hA (by intro hA; simp only [decide_eq_true_eq, decide_eq_false_iff_not, Bool.not_eq_true', Bool.not_eq_false'] at hA; omega))))
    refine pw_draw 6 [95, 96, 97, 98, 99, 100] (by decide +kernel) ?_
    repeat (refine stp rfl ?_ ?_;·repeat' constructor)
    refine ps_run0 (o_msetG none 0 rfl rfl rfl rfl rfl rfl rfl rfl rfl rfl (gonR_keyed l) rfl rfl ?_)
    rw [show nrm 0 (.bool true) = .bool true from rfl, hput]
    repeat (refine stp rfl ?_ ?_;·repeat' constructor)
    exact fin _ rfl rfl ⟨rfl, rfl, rfl, rfl, rfl, trivial⟩
  have e1 : ordR (l ++ [q]) = ordR l := by rw [hsn.1, ordK, hqo.1, if_neg h0]; simp
  have e2 : itmR (l ++ [q]) = itmR l := by rw [hsn.2.1, itmK, hqo.1, if_neg h1]; simp
  have e3 : gonR (l ++ [q]) = gonR l := by rw [hsn.2.2, gonK, hqo.1, if_neg h8]; simp
  rw [bkO, e1, e2, e3] at fin
  repeat (refine stp rfl ?_ ?_;·repeat' constructor)
  rw [hl2]
  repeat (first|(refine stp rfl ?_ ?_;·repeat' constructor)|(refine pw_cond rfl (fun hA => absurd hA (by intro hA; simp only [decide_eq_true_eq, decide_eq_false_iff_not, Bool.not_eq_true', Bool.not_eq_false'] at hA; omega)) (fun _ => ?_))|(refine pw_cond rfl (fun _ => ?_) (fun hA => absurd hA (by intro hA; simp only [decide_eq_true_eq, decide_eq_false_iff_not, Bool.not_eq_true', Bool.not_eq_false'] at hA; omega))))
  exact fin _ rfl rfl ⟨rfl, rfl, rfl, rfl, rfl, trivial⟩
end Go.Pv


set_option maxHeartbeats 2000000
namespace Go.Pv
attribute [local irreducible] PWP POps PQuiet PSem XThen XBlock RetPost InlPost
open Go.Proofs
inductive Acc : List SPost → Prop
  | nil : Acc []
  | snoc {l : List SPost} {p : SPost} (h : Acc l) (hr : refusalR l p = 0) : Acc (l ++ [cleanP p])
theorem idx_append {α : Type} (l : List α) (q : α) (p : α → Bool) : idx (l ++ [q]) p = if 0 ≤ idx l p then idx l p else if p q = true then l.length else -1 := by
  unfold idx
  rw [List.findIdx?_append]
  cases h : l.findIdx? p with
  | some i => simp
  | none =>
    cases hq : p q <;> simp [List.findIdx?_cons, hq]
theorem ordNo_snoc {l : List SPost} {nm : Str} (q : SPost) (h : 1 ≤ ordNo l nm) : ordNo (l ++ [q]) nm = ordNo l nm := by
  rw [ordNo] at *
  rw [idx_append, if_pos (by omega), ordNo]
theorem itmNo_snoc {l : List SPost} {o nm : Str} (q : SPost) (h : 1 ≤ itmNo l o nm) : itmNo (l ++ [q]) o nm = itmNo l o nm := by
  rw [itmNo] at *
  rw [idx_append, if_pos (by omega), itmNo]
theorem clean_order {p : SPost} (h : p.op = 0 ∨ p.op = 1 ∨ p.op = 2 ∨ p.op = 3 ∨ p.op = 6 ∨ p.op = 7) : (cleanP p).order = p.order := by
  rcases h with h | h | h | h | h | h <;> rw [cleanP, h] <;> rfl
theorem clean_item {p : SPost} (h : p.op = 1 ∨ p.op = 2 ∨ p.op = 3) : (cleanP p).item = p.item := by
  rcases h with h | h | h <;> rw [cleanP, h] <;> rfl
theorem cleanP_ref {p : SPost} (h : p.op = 4 ∨ p.op = 5 ∨ p.op = 8) : (cleanP p).ref = p.ref := by
  rcases h with h | h | h <;> rw [cleanP, h] <;> rfl
theorem cleanP_ref0 {p : SPost} (h : p.op = 0 ∨ p.op = 1 ∨ p.op = 2 ∨ p.op = 3 ∨ p.op = 6 ∨ p.op = 7) : (cleanP p).ref = 0 := by
  rcases h with h | h | h | h | h | h <;> rw [cleanP, h] <;> rfl
theorem standE_zero {l : List SPost} {n : Int} (h : standE l n = 0) : n ≠ 0 ∧ liveB l n = true := by
  rw [standE] at h
  split at h
  · omega
  · split at h
    · exact ⟨by assumption, by assumption⟩
    · omega
theorem refusalR_zero {l : List SPost} {p : SPost} (h : refusalR l p = 0) : checkE p = 0 ∧ l.length < 400 ∧ ¬ (0 < l.length ∧ p.day < (entL l l.length).day) ∧ refE l p = 0 := by
  rw [refusalR] at h
  split at h
  · rename_i hc
    split at h
    · omega
    · split at h
      · omega
      · exact ⟨hc, by omega, by assumption, h⟩
  · contradiction
theorem refE_zero {l : List SPost} {p : SPost} (h : refE l p = 0) : (p.op = 0 → ordNo l p.order = 0) ∧ ((p.op = 1 ∨ p.op = 6 ∨ p.op = 7) → 1 ≤ ordNo l p.order ∧ liveB l (ordNo l p.order) = true) ∧ (p.op = 1 → itmNo l p.order p.item = 0) ∧
    ((p.op = 2 ∨ p.op = 3) → 1 ≤ itmNo l p.order p.item ∧ liveB l (itmNo l p.order p.item) = true) ∧ ((p.op = 4 ∨ p.op = 5 ∨ p.op = 8) → 1 ≤ p.ref ∧ p.ref ≤ l.length ∧ liveB l p.ref = true) := by
  have hob := ordNo_le l p.order
  have hib := itmNo_le l p.order p.item
  have aim : ∀ ks, aimE l p.ref ks = 0 → 1 ≤ p.ref ∧ p.ref ≤ l.length ∧ liveB l p.ref = true := fun ks h => by
    have hb := aimE_zero h
    rw [aimE, if_neg (by simp [inside]; omega)] at h
    split at h
    · omega
    · exact ⟨hb.1, hb.2, (standE_zero h).2⟩
  rw [refE] at h
  by_cases h0 : p.op = 0
  · rw [if_pos h0] at h
    exact ⟨fun _ => by split at h <;> omega, fun h' => by omega, fun h' => by omega, fun h' => by omega, fun h' => by omega⟩
  rw [if_neg h0] at h
  by_cases h1 : p.op = 1
  · rw [if_pos h1] at h
    by_cases hs : standE l (ordNo l p.order) = 0
    · rw [if_pos hs] at h
      have := standE_zero hs
      exact ⟨fun h' => by omega, fun _ => ⟨by omega, this.2⟩, fun _ => by split at h <;> omega, fun h' => by omega, fun h' => by omega⟩
    · rw [if_neg hs] at h; omega
  rw [if_neg h1] at h
  by_cases h4 : p.op = 4
  · rw [if_pos h4] at h
    by_cases hs : aimE l p.ref [2, 3] = 0
    · exact ⟨fun h' => by omega, fun h' => by omega, fun h' => by omega, fun h' => by omega, fun _ => aim _ hs⟩
    · rw [if_neg hs] at h; omega
  rw [if_neg h4] at h
  by_cases h5 : p.op = 5
  · rw [if_pos h5] at h
    by_cases hs : aimE l p.ref [1, 2, 3] = 0
    · exact ⟨fun h' => by omega, fun h' => by omega, fun h' => by omega, fun h' => by omega, fun _ => aim _ hs⟩
    · rw [if_neg hs] at h; omega
  rw [if_neg h5] at h
  by_cases h8 : p.op = 8
  · rw [if_pos h8] at h
    exact ⟨fun h' => by omega, fun h' => by omega, fun h' => by omega, fun h' => by omega, fun _ => aim _ h⟩
  rw [if_neg h8] at h
  have hs := standE_zero h
  refine ⟨fun h' => by omega, fun h' => ?_, fun h' => by omega, fun h' => ?_, fun h' => by omega⟩
  · have : supNo l p = ordNo l p.order := by rw [supNo, if_pos h']
    rw [this] at hs
    exact ⟨by omega, hs.2⟩
  · have : supNo l p = itmNo l p.order p.item := by rw [supNo, if_neg (by omega), if_pos h']
    rw [this] at hs
    exact ⟨by omega, hs.2⟩
structure Ok (l : List SPost) : Prop where
  wf : Wf l
  ops : ∀ (i : Nat) p, l[i]? = some p → 0 ≤ p.op ∧ p.op ≤ 8
  pos : ∀ (i : Nat) p, l[i]? = some p → (p.op = 1 ∨ p.op = 6 ∨ p.op = 7 → 1 ≤ ordNo l p.order) ∧ (p.op = 2 ∨ p.op = 3 → 1 ≤ itmNo l p.order p.item) ∧ (p.op = 4 ∨ p.op = 5 ∨ p.op = 8 → 1 ≤ p.ref ∧ p.ref ≤ i) ∧ (¬ (p.op = 4 ∨ p.op = 5 ∨ p.op = 8) → p.ref = 0)
theorem snoc_get {α : Type} {l : List α} {q x : α} {i : Nat} (h : (l ++ [q])[i]? = some x) : (i < l.length ∧ l[i]? = some x) ∨ (i = l.length ∧ x = q) := by
  rcases Nat.lt_trichotomy i l.length with hlt | heq | hgt
  · rw [List.getElem?_append_left hlt] at h; exact .inl ⟨hlt, h⟩
  · subst heq; simp at h; exact .inr ⟨rfl, h.symm⟩
  · rw [List.getElem?_eq_none (by simp; omega)] at h; cases h
theorem Ok.sup_snoc {l : List SPost} (h : Ok l) (q : SPost) {i : Nat} {p : SPost} (hp : l[i]? = some p) : supNo (l ++ [q]) p = supNo l p := by
  have := h.pos i p hp
  simp only [supNo]
  split
  · rename_i h1; exact ordNo_snoc q (this.1 h1)
  · split
    · rename_i h2; exact itmNo_snoc q (this.2.1 h2)
    · rfl
theorem Ok.snoc {l : List SPost} (h : Ok l) {p : SPost} (hr : refusalR l p = 0) : Ok (l ++ [cleanP p]) := by
  obtain ⟨c1, c2, c3, c4⟩ := refusalR_zero hr
  obtain ⟨r0, r1, r2, r3, r4⟩ := refE_zero c4
  have hop := op_cases (checkE_op c1).1
  have hqo := (clean_op p).1
  have hob := ordNo_le l p.order
  have hib := itmNo_le l p.order p.item
  have hnew : (p.op = 1 ∨ p.op = 6 ∨ p.op = 7 → ordNo (l ++ [cleanP p]) (cleanP p).order = ordNo l p.order) := fun h' => by
    rw [clean_order (by omega), ordNo_snoc _ (r1 h').1]
  have hnew2 : (p.op = 2 ∨ p.op = 3 → itmNo (l ++ [cleanP p]) (cleanP p).order (cleanP p).item = itmNo l p.order p.item) := fun h' => by
    rw [clean_order (by omega), clean_item (by omega), itmNo_snoc _ (r3 h').1]
  refine ⟨⟨fun i x hx => ?_, by simp; omega⟩, fun i x hx => ?_, fun i x hx => ?_⟩
  · rcases snoc_get hx with ⟨hi, hx⟩ | ⟨rfl, rfl⟩
    · rw [h.sup_snoc _ hx]; exact h.wf.sup i x hx
    · simp only [supNo, hqo]
      split
      · rename_i h'; rw [hnew h']; have := r1 h'; omega
      · split
        · rename_i h'; rw [hnew2 h']; have := r3 h'; omega
        · split
          · rename_i h'; rw [cleanP_ref (by omega)]; have := r4 (by omega); omega
          · omega
  · rcases snoc_get hx with ⟨hi, hx⟩ | ⟨rfl, rfl⟩
    · exact h.ops i x hx
    · rw [hqo]; omega
  · rcases snoc_get hx with ⟨hi, hx⟩ | ⟨rfl, rfl⟩
    · have := h.pos i x hx
      exact ⟨fun h' => by rw [ordNo_snoc _ (this.1 h')]; exact this.1 h', fun h' => by rw [itmNo_snoc _ (this.2.1 h')]; exact this.2.1 h', this.2.2⟩
    · rw [hqo]
      exact ⟨fun h' => by rw [hnew h']; exact (r1 h').1, fun h' => by rw [hnew2 h']; exact (r3 h').1, fun h' => by rw [cleanP_ref h']; have := r4 h'; omega, fun h' => cleanP_ref0 (by omega)⟩
theorem Acc.ok {l : List SPost} (h : Acc l) : Ok l := by
  induction h with
  | nil => exact ⟨⟨fun i p h => by simp at h, by simp⟩, fun i p h => by simp at h, fun i p h => by simp at h⟩
  | snoc _ hr ih => exact ih.snoc hr
def fstN {α : Type} : List α → (Nat → α → Int) → Nat
  | [], _ => 0
  | a :: l, f => if f 0 a = 0 then fstN l (fun i => f (i + 1)) + 1 else 0
theorem fstN_found {α : Type} : ∀ {l : List α} {f : Nat → α → Int} {i : Nat} {a : α}, l[i]? = some a → f i a ≠ 0 → (∀ j b, j < i → l[j]? = some b → f j b = 0) → fstN l f = i
  | [], f, i, a, h, _, _ => by simp at h
  | b :: l, f, 0, a, h, he, _ => by
    simp at h; subst h
    simp [fstN, he]
  | b :: l, f, i + 1, a, h, he, hn => by
    have h0 := hn 0 b (by omega) rfl
    rw [fstN, if_pos h0]
    rw [fstN_found (f := fun i => f (i + 1)) (i := i) (by simpa using h) he fun j c hj hc => hn (j + 1) c (by omega) (by simpa using hc)]
theorem fstN_none {α : Type} : ∀ {l : List α} {f : Nat → α → Int}, (∀ (j : Nat) b, l[j]? = some b → f j b = 0) → fstN l f = l.length
  | [], f, _ => rfl
  | b :: l, f, hn => by
    rw [fstN, if_pos (hn 0 b rfl), fstN_none fun j c hc => hn (j + 1) c (by simpa using hc)]; rfl
def lodF (l : List SPost) (j : Nat) (p : SPost) : Int := refusalR ((l.take j).map cleanP) p
def lodN (l : List SPost) : Nat := fstN l (lodF l)
def lodE (l : List SPost) : Int := fstE l (lodF l)
def lodL (l : List SPost) : List SPost := (l.take (lodN l)).map cleanP
theorem lod_acc {l : List SPost} : ∀ {k : Nat}, ClearE l (lodF l) k → Acc ((l.take k).map cleanP)
  | 0, _ => by simpa using Acc.nil
  | k + 1, h => by
    have hk := h.1
    obtain ⟨x, hx⟩ := get_lt (show k < l.length by omega)
    have ih : Acc ((l.take k).map cleanP) := lod_acc ⟨by omega, fun j b hj hb => h.2 j b (by omega) hb⟩
    have hr := h.2 k x (by omega) hx
    rw [take_snoc hx, List.map_append]
    exact ih.snoc hr
end Go.Pv


set_option maxHeartbeats 2000000
namespace Go.Pv
attribute [local irreducible] PWP POps PQuiet PSem XThen XBlock RetPost InlPost
open Go.Proofs
section
variable {L : Lay} {s : St} {fn : Func} {r : PV}
theorem end3f {t1 t2 t3 : Nat} {v1 d1 : PV} {C1 : Prop} {b1 : Bool} {k2 k3 : IntKind} {n2 n3 : Int} (h : fn.results.toList = [.tmp t1, .tmp t2, .tmp t3]) (h1 : (s.reg t1).fz = some v1) (h2 : s.reg t2 = .int k2 n2) (h3 : s.reg t3 = .int k3 n3) (r1 : res s 4 v1 = some (d1, C1, ⟨b1, true⟩)) (c1 : C1)
    (hd : PV.tup [d1, .int k2 n2, .int k3 n3] = r) : RetPost L fn .fresh r .ret s := by
  rw [PV.fz_eq] at h1
  have h1 := Option.some.inj h1
  subst h1
  unfold RetPost
  refine ⟨[s.reg t1, s.reg t2, s.reg t3], True ∧ True ∧ True ∧ True, .tup [d1, .int k2 n2, .int k3 n3], C1 ∧ True ∧ True ∧ True, (⟨b1, true⟩ : Fl).and ((⟨true, true⟩ : Fl).and ((⟨true, true⟩ : Fl).and ⟨true, true⟩)), by rw [h]; rfl, ⟨trivial, trivial, trivial, trivial⟩, ?_, ⟨c1, trivial, trivial, trivial⟩, rfl, hd⟩
  show (match resL (res s 4) [s.reg t1, s.reg t2, s.reg t3] with | some (ds, C1, b) => some (PV.tup ds, C1, b) | none => none) = _
  rw [h2, h3]
  have q : ∀ (k : IntKind) (n : Int), res s 4 (.int k n) = some (.int k n, True, ⟨true, true⟩) := fun k n => rfl
  simp only [resL, r1, q]
end
set_option maxRecDepth 20000 in
theorem load_ret (l : List SPost) (hl : l.length ≤ 1000000) : Ret Tryz.prog .fresh 53 [.sl (l.map ePost)] (.tup [.dref (eBook (lodL l)) 0, I (lodN l), I (lodE l)]) := by
  have hll : ((l.map ePost).length : Int) = l.length := by simp
  refine Ret.of_pwp layOk mixed Go.Proofs.Tryz.func53 rfl (by decide) rfl rfl ?_
  ((repeat (first | refine ps_nil ?_ | refine pq_nil ?_ | refine x_norm ?_ | refine pw_seq ?_)); refine pw_region ?_)
  refine ps_v rfl trivial ?_
  refine ps_v rfl trivial ?_
  refine ps_v rfl trivial ?_
  refine ps_nil ?_
  ((repeat (first | refine x_norm ?_ | refine pw_seq ?_)); refine pw_regionS 0 ?_)
  refine ps_nil ?_
  refine psem_sm rfl (new_inl fun s1 g1 g2 g3 g5 => ?_)
  refine psem_ops ?_
  refine ps_v rfl trivial ?_
  refine ps_nil ?_
  refine x_norm ?_
  refine pw_ghost (Ghost.moveC (k := 3) (k' := 1003) (k0 := 5) (i := 0) (j := 3) rfl rfl rfl rfl rfl rfl rfl rfl rfl rfl) ?_
  refine pw_ghost (Ghost.nilcell (k := 62) (k0 := 5) (i := 0) (j := 0) 23 9 0 rfl rfl rfl rfl rfl rfl rfl) ?_
  repeat (refine stp rfl ?_ ?_;·repeat' constructor)
  rw [hll]
  refine pw_loop (ClearE l (lodF l)) (fun k => [(0, .sl (l.map ePost)), (5, .ptr 5 g5 0 0), (11, .sl (l.map ePost)), (12, I l.length), (13, I k)]) (fun k => bkO g1 g2 ((s1.own 1003).1 + 1) g5 ((s1.own 62).1 + 1) ((l.take k).map cleanP)) (fun k => l.length - k) 0 .zero' ⟨rfl, rfl, rfl, rfl, rfl, rfl, rfl, rfl, rfl, rfl, trivial⟩ ?_
  generalize (s1.own 1003).1 + 1 = g13
  generalize (s1.own 62).1 + 1 = g62
  intro k s hk
  have hkl := hk.1
  have hW := (lod_acc hk).ok.wf
  repeat (refine stp rfl ?_ ?_;·repeat' constructor)
  refine pw_cond rfl (fun h => ?_) (fun h => ?_)
  · have hlt : k < l.length := by have := of_decide_eq_true h; omega
    clear h
    obtain ⟨x, hx⟩ := get_lt hlt
    repeat (refine stp rfl ?_ ?_;·repeat' constructor)
    apply qst;exact rfl;exact rfl;exact q_idxm rfl rfl rfl rfl rfl (by omega) hx rfl
    iterate 4 (refine stp rfl ?_ ?_;·repeat' constructor)
    refine ps_nil ?_
    ((repeat (first | refine x_norm ?_ | refine pw_seq ?_)); refine pw_regionS 2 ?_)
    refine ps_v rfl trivial ?_
    refine ps_v rfl rfl ?_
    refine ps_nil ?_
    refine psem_sm rfl (post_inl (g1 := g1) (g2 := g2) (g3 := g13) (g5 := g5) (g62 := g62) ((l.take k).map cleanP) hW x rfl rfl ⟨rfl, rfl, rfl, rfl, rfl, trivial⟩ (fun s2 hne => ?_) (fun s2 h0 => ?_))
    · have hne' : lodF l k x ≠ 0 := hne
      have e1 : lodN l = k := fstN_found hx hne' hk.2
      have e2 : lodE l = refusalR ((l.take k).map cleanP) x := hk.found hx rfl hne'
      rw [lodL, e1, e2]
      refine psem_ops ?_
      repeat (refine stp rfl ?_ ?_;·repeat' constructor)
      refine pw_cond rfl (fun h => ?_) (fun h => ?_)
      · repeat (refine stp rfl ?_ ?_;·repeat' constructor)
        exact end3f rfl rfl rfl rfl rfl (by repeat' constructor) rfl
      · exact absurd (by simpa using h) hne
    · refine psem_ops ?_
      have hn := hk.succ hx h0
      have htk : (l.take (k + 1)).map cleanP = (l.take k).map cleanP ++ [cleanP x] := by rw [take_snoc hx, List.map_append]; rfl
      repeat (refine stp rfl ?_ ?_;·repeat' constructor)
      refine ⟨k + 1, hn, by omega, ?_⟩
      rw [htk]
      exact ⟨rfl, rfl, rfl, rfl, i64_next (by omega) (by omega), rfl, rfl, rfl, rfl, rfl, trivial⟩
  · have hf : ¬ k < l.length := by have := of_decide_eq_false h; omega
    have hz : k = l.length := by omega
    subst hz
    have e1 : lodN l = l.length := fstN_none fun j b hb => hk.2 j b (List.getElem?_eq_some_iff.1 hb).1 hb
    have e2 : lodE l = 0 := hk.none hf
    rw [lodL, e1, e2]
    repeat (refine stp rfl ?_ ?_;·repeat' constructor)
    exact end3f rfl rfl rfl rfl rfl (by repeat' constructor) (by rw [hll]; rfl)
end Go.Pv


set_option maxHeartbeats 2000000
namespace Go.Pv
attribute [local irreducible] PWP POps PQuiet PSem XThen XBlock RetPost InlPost
open Go.Proofs
def ofB (l : List SPost) (op n i : Int) : Bool := decide ((entL l i).op = op) && decide ((entL l i).ref = n) && liveB l i
def latF (l : List SPost) (n : Int) : Nat → Int
  | 0 => 0
  | i + 1 => if ofB l 5 n (i + 1) = true then i + 1 else latF l n i
def sigF (l : List SPost) (n : Int) : Nat → List Int
  | 0 => []
  | i + 1 => if ofB l 4 n (i + 1) = true then sigF l n i ++ [(i : Int) + 1] else if ofB l 5 n (i + 1) = true then [] else sigF l n i
theorem ofB_late {l : List SPost} (h : Ok l) {op n i : Int} (ho : op = 4 ∨ op = 5) (h1 : 1 ≤ i) (h2 : i ≤ l.length) (hb : ofB l op n i = true) : n < i := by
  simp only [ofB, Bool.and_eq_true, decide_eq_true_eq] at hb
  have := (h.pos _ _ (entL_at h1 h2)).2.2.1 (by omega)
  omega
theorem latF_early {l : List SPost} (h : Ok l) {n : Int} : ∀ (i : Nat), (i : Int) ≤ n → i ≤ l.length → latF l n i = 0
  | 0, _, _ => rfl
  | i + 1, h1, h2 => by
    have : ¬ ofB l 5 n (i + 1) = true := fun hb => by have := ofB_late h (.inr rfl) (by omega) (by omega) hb; omega
    rw [latF, if_neg this, latF_early h i (by omega) (by omega)]
theorem sigF_early {l : List SPost} (h : Ok l) {n : Int} : ∀ (i : Nat), (i : Int) ≤ n → i ≤ l.length → sigF l n i = []
  | 0, _, _ => rfl
  | i + 1, h1, h2 => by
    have h4 : ¬ ofB l 4 n (i + 1) = true := fun hb => by have := ofB_late h (.inl rfl) (by omega) (by omega) hb; omega
    rw [sigF, if_neg h4, sigF_early h i (by omega) (by omega)]
    split <;> rfl
theorem latF_bounds (l : List SPost) (n : Int) : ∀ (i : Nat), 0 ≤ latF l n i ∧ latF l n i ≤ i
  | 0 => by simp [latF]
  | i + 1 => by
    have := latF_bounds l n i
    rw [latF]
    split <;> omega
theorem latF_last {l : List SPost} {n : Int} : ∀ {i : Nat} {j : Int}, latF l n i < j → j ≤ i → 1 ≤ j → ofB l 5 n j = false
  | 0, j, h1, h2, h3 => by omega
  | i + 1, j, h1, h2, h3 => by
    rw [latF] at h1
    split at h1
    · omega
    · rename_i hb
      by_cases hj : j = i + 1
      · subst hj; simpa using hb
      · exact latF_last h1 (by omega) h3
theorem sigF_lat {l : List SPost} {n : Int} : ∀ {i : Nat}, latF l n i = 0 ∨ sigF l n (latF l n i).toNat = []
  | 0 => .inl rfl
  | i + 1 => by
    rw [latF]
    split
    · rename_i hb
      right
      rw [show ((i : Int) + 1).toNat = i + 1 by omega, sigF, if_pos hb]
      have : ¬ ofB l 4 n (i + 1) = true := fun h4 => by
        simp only [ofB, Bool.and_eq_true, decide_eq_true_eq] at hb h4
        omega
      rw [if_neg this]
    · exact sigF_lat
theorem sigF_from {l : List SPost} (h : Ok l) {n : Int} {b : Nat} (hb : b ≤ l.length) (hn : 0 ≤ n) (hnb : n ≤ b) : sigF l n (max n (latF l n b)).toNat = [] := by
  have hlb := latF_bounds l n b
  by_cases hm : latF l n b ≤ n
  · rw [show max n (latF l n b) = n by omega]
    exact sigF_early h _ (by omega) (by omega)
  · rw [show max n (latF l n b) = latF l n b by omega]
    rcases sigF_lat (l := l) (n := n) (i := b) with h0 | h0
    · omega
    · exact h0
theorem sigF_len (l : List SPost) (n : Int) : ∀ i, (sigF l n i).length ≤ i
  | 0 => by simp [sigF]
  | i + 1 => by
    have := sigF_len l n i
    rw [sigF]
    split
    · simp; omega
    · split <;> simp; omega
theorem latest_ret (l : List SPost) (h : Ok l) (n : Int) (b : Nat) (hn : 1 ≤ n) (hnb : n ≤ b) (hb : b ≤ l.length) : Ret Tryz.prog .shared 148 [.dref (eBook l) 0, I n, I (b + 1)] (I (latF l n b)) := by
  have hl := h.wf.len
  have hw : IntKind.wrap .i64 ((b : Int) + 1 - 1) = b := by rw [wrap_i64 (by omega) (by omega)]; omega
  refine Ret.of_pwp layOk mixed Go.Proofs.Tryz.func148 rfl (by decide) rfl rfl ?_
  repeat (refine stp rfl ?_ ?_;·repeat' constructor)
  rw [hw]
  refine pw_loop (fun i : Nat => i ≤ b ∧ n ≤ i ∧ latF l n i = latF l n b) (fun i => [(0, .dref (eBook l) 0), (1, I n), (7, I i)]) (fun _ => []) (fun i => i) b ⟨Nat.le_refl _, hnb, rfl⟩ ⟨rfl, rfl, rfl, trivial⟩ ?_
  intro i s hi
  repeat (refine stp rfl ?_ ?_;·repeat' constructor)
  refine pw_cond rfl (fun h => ?_) (fun h => ?_)
  · have hlt : n < i := of_decide_eq_true h
    clear h
    obtain ⟨j, rfl⟩ : ∃ j, i = j + 1 := ⟨i - 1, by omega⟩
    have he := entry_ret l (j + 1 : Nat) (by omega) (by omega) hl
    have hv := live_ret l ‹Ok l›.wf (j + 1 : Nat) (by omega)
    have hs : latF l n (j + 1) = if ofB l 5 n (j + 1 : Nat) = true then ((j + 1 : Nat) : Int) else latF l n j := rfl
    have hw1 : IntKind.wrap .i64 (((j + 1 : Nat) : Int) - 1) = j := by rw [wrap_i64 (by omega) (by omega)]; omega
    rw [ofB] at hs
    repeat (refine stp rfl ?_ ?_;·repeat' constructor)
    apply qst;exact rfl;exact rfl;exact q_call rfl (he) rfl (by repeat' constructor) rfl
    repeat (refine stp rfl ?_ ?_;·repeat' constructor)
    generalize entL l (j + 1 : Nat) = p at *
    (first | refine ps_split rfl rfl (fun h => ?_) (fun h => ?_) | refine pq_split rfl rfl (fun h => ?_) (fun h => ?_) | refine p3_split rfl rfl (fun h => ?_) (fun h => ?_))
    · have g1 := of_decide_eq_true h
      clear h
      repeat (refine stp rfl ?_ ?_;·repeat' constructor)
      (first | refine ps_split rfl rfl (fun h => ?_) (fun h => ?_) | refine pq_split rfl rfl (fun h => ?_) (fun h => ?_) | refine p3_split rfl rfl (fun h => ?_) (fun h => ?_))
      · have g2 := of_decide_eq_true h
        clear h
        rw [g1, g2, decide_eq_true rfl, decide_eq_true rfl, Bool.true_and, Bool.true_and] at hs
        generalize liveB l (j + 1 : Nat) = lv at *
        repeat (refine stp rfl ?_ ?_;·repeat' constructor)
        apply qst;exact rfl;exact rfl;exact q_callP rfl (hv) rfl (by repeat' constructor) rfl rfl
        repeat (refine stp rfl ?_ ?_;·repeat' constructor)
        cases lv with
        | true =>
          repeat (refine stp rfl ?_ ?_;·repeat' constructor)
          exact end1i rfl rfl (by rw [← hi.2.2, hs]; rfl)
        | false =>
          repeat (refine stp rfl ?_ ?_;·repeat' constructor)
          refine ⟨j, ⟨by omega, by omega, by rw [← hi.2.2, hs]; rfl⟩, by omega, rfl, rfl, ?_, trivial⟩
          exact congrArg I hw1
      · have g2 := of_decide_eq_false h
        rw [decide_eq_false g2, Bool.and_false, Bool.false_and] at hs
        repeat (refine stp rfl ?_ ?_;·repeat' constructor)
        refine ⟨j, ⟨by omega, by omega, by rw [← hi.2.2, hs]; rfl⟩, by omega, rfl, rfl, ?_, trivial⟩
        exact congrArg I hw1
    · have g1 := of_decide_eq_false h
      rw [decide_eq_false g1, Bool.false_and, Bool.false_and] at hs
      repeat (refine stp rfl ?_ ?_;·repeat' constructor)
      refine ⟨j, ⟨by omega, by omega, by rw [← hi.2.2, hs]; rfl⟩, by omega, rfl, rfl, ?_, trivial⟩
      exact congrArg I hw1
  · have hz : ¬ n < i := of_decide_eq_false h
    have : latF l n i = 0 := latF_early ‹Ok l› i (by omega) (by omega)
    repeat (refine stp rfl ?_ ?_;·repeat' constructor)
    exact end1i rfl rfl (by rw [← hi.2.2, this])
end Go.Pv


set_option maxHeartbeats 2000000
namespace Go.Pv
attribute [local irreducible] PWP POps PQuiet PSem XThen XBlock RetPost InlPost
open Go.Proofs
set_option maxRecDepth 20000 in
theorem signatures_ret (l : List SPost) (hO : Ok l) (n : Int) (b : Nat) (hn : 1 ≤ n) (hnb : n ≤ b) (hb : b ≤ l.length) : Ret Tryz.prog .fresh 110 [.dref (eBook l) 0, I n, I (b + 1)] (.sl ((sigF l n b).map eI)) := by
  have hl := hO.wf.len
  have hlt := latest_ret l hO n b hn hnb hb
  have hlb := latF_bounds l n b
  have h0 := sigF_from hO hb (by omega) hnb
  have hlast := fun (j : Int) => latF_last (l := l) (n := n) (i := b) (j := j)
  obtain ⟨m, hm⟩ : ∃ m : Nat, (m : Int) = max n (latF l n b) := ⟨(max n (latF l n b)).toNat, by omega⟩
  rw [← hm, Int.toNat_natCast] at h0
  have hmx : (if n < latF l n b then latF l n b else n) = m := by rw [hm]; split <;> omega
  have hmb : m ≤ b := by omega
  have hml : latF l n b ≤ m := by omega
  have hw : IntKind.wrap .i64 ((m : Int) + 1) = m + 1 := wrap_i64 (by omega) (by omega)
  generalize latF l n b = lt at *
  refine Ret.of_pwp layOk mixed Go.Proofs.Tryz.func110 rfl (by decide) rfl rfl ?_
  ((repeat (first | refine ps_nil ?_ | refine pq_nil ?_ | refine x_norm ?_ | refine pw_seq ?_)); refine pw_region ?_)
  refine ps_v rfl trivial ?_
  ((repeat (first | refine ps_nil ?_ | refine pq_nil ?_ | refine x_norm ?_ | refine pw_seq ?_)); refine pw_region ?_)
  refine ps_v rfl trivial ?_
  refine ps_nil ?_
  refine x_norm ?_
  refine pw_ghost (Ghost.nilreg (k := 7) (t := 7) 3 1 0 rfl rfl) ?_
  repeat (refine stp rfl ?_ ?_;·repeat' constructor)
  apply qst;exact rfl;exact rfl;exact q_callP rfl (hlt) rfl (by repeat' constructor) rfl rfl
  repeat (refine stp rfl ?_ ?_;·repeat' constructor)
  rw [hmx, hw]
  refine pw_loop (fun j : Nat => m ≤ j ∧ j ≤ b) (fun j => [(0, .dref (eBook l) 0), (1, I n), (2, I (b + 1)), (7, .als 7 (1 + (sigF l n j).length) 0 ((sigF l n j).map eI).length), (8, I (j + 1))]) (fun j => [(7, 1 + (sigF l n j).length, ⟨3, 1, (sigF l n j).map eI, 0⟩)]) (fun j => b - j) m ⟨Nat.le_refl _, hmb⟩ ?_ ?_
  · rw [h0]; exact ⟨rfl, rfl, rfl, rfl, rfl, rfl, trivial⟩
  intro j s hj
  repeat (refine stp rfl ?_ ?_;·repeat' constructor)
  refine pw_cond rfl (fun h => ?_) (fun h => ?_)
  · have hjb : j < b := by have := of_decide_eq_true h; omega
    clear h
    have he := entry_ret l ((j : Int) + 1) (by omega) (by omega) hl
    have hv := live_ret l hO.wf ((j : Int) + 1) (by omega)
    have hno : ofB l 5 n ((j : Int) + 1) = false := hlast _ (by omega) (by omega) (by omega)
    have hs : sigF l n (j + 1) = if ofB l 4 n ((j : Int) + 1) = true then sigF l n j ++ [(j : Int) + 1] else sigF l n j := by
      rw [sigF, hno]; simp
    have hsl := sigF_len l n j
    rw [ofB] at hs
    repeat (refine stp rfl ?_ ?_;·repeat' constructor)
    apply qst;exact rfl;exact rfl;exact q_call rfl (he) rfl (by repeat' constructor) rfl
    repeat (refine stp rfl ?_ ?_;·repeat' constructor)
    generalize entL l ((j : Int) + 1) = p at *
    (first | refine ps_split rfl rfl (fun h => ?_) (fun h => ?_) | refine pq_split rfl rfl (fun h => ?_) (fun h => ?_) | refine p3_split rfl rfl (fun h => ?_) (fun h => ?_))
    · have g1 := of_decide_eq_true h
      clear h
      repeat (refine stp rfl ?_ ?_;·repeat' constructor)
      (first | refine ps_split rfl rfl (fun h => ?_) (fun h => ?_) | refine pq_split rfl rfl (fun h => ?_) (fun h => ?_) | refine p3_split rfl rfl (fun h => ?_) (fun h => ?_))
      · have g2 := of_decide_eq_true h
        clear h
        rw [g1, g2, decide_eq_true rfl, decide_eq_true rfl, Bool.true_and, Bool.true_and] at hs
        generalize liveB l ((j : Int) + 1) = lv at *
        repeat (refine stp rfl ?_ ?_;·repeat' constructor)
        apply qst;exact rfl;exact rfl;exact q_callP rfl (hv) rfl (by repeat' constructor) rfl rfl
        repeat (refine stp rfl ?_ ?_;·repeat' constructor)
        cases lv with
        | true =>
          rw [if_pos rfl] at hs
          repeat (refine stp rfl ?_ ?_;·repeat' constructor)
          apply qst;exact rfl;exact rfl;exact q_slit rfl rfl rfl rfl rfl rfl rfl rfl rfl rfl (by repeat' constructor) rfl
          repeat (refine stp rfl ?_ ?_;·repeat' constructor)
          refine ps_run (o_app 0 rfl rfl rfl rfl rfl rfl rfl rfl rfl rfl rfl (by repeat' constructor) (by intro row hr; first | (simp at hr; subst hr; rfl) | simp at hr) rfl rfl (by simp; omega) (by simp; omega) ?_)
          repeat (refine stp rfl ?_ ?_;·repeat' constructor)
          refine ⟨j + 1, ⟨by omega, by omega⟩, by omega, rfl, rfl, rfl, ?_, i64_next (by omega) (by omega), ?_, trivial⟩
          · rw [hs]; exact als_snoc eI 7 1 _ _
          · rw [hs]; exact cont_snoc eI 1 3 1 0 _ _
        | false =>
          rw [if_neg (by simp)] at hs
          repeat (refine stp rfl ?_ ?_;·repeat' constructor)
          exact ⟨j + 1, ⟨by omega, by omega⟩, by omega, rfl, rfl, rfl, by rw [hs]; rfl, i64_next (by omega) (by omega), by rw [hs]; rfl, trivial⟩
      · have g2 := of_decide_eq_false h
        rw [decide_eq_false g2, Bool.and_false, Bool.false_and, if_neg (by simp)] at hs
        repeat (refine stp rfl ?_ ?_;·repeat' constructor)
        exact ⟨j + 1, ⟨by omega, by omega⟩, by omega, rfl, rfl, rfl, by rw [hs]; rfl, i64_next (by omega) (by omega), by rw [hs]; rfl, trivial⟩
    · have g1 := of_decide_eq_false h
      rw [decide_eq_false g1, Bool.false_and, Bool.false_and, if_neg (by simp)] at hs
      repeat (refine stp rfl ?_ ?_;·repeat' constructor)
      exact ⟨j + 1, ⟨by omega, by omega⟩, by omega, rfl, rfl, rfl, by rw [hs]; rfl, i64_next (by omega) (by omega), by rw [hs]; rfl, trivial⟩
  · have hz : j = b := by have := of_decide_eq_false h; omega
    subst hz
    repeat (refine stp rfl ?_ ?_;·repeat' constructor)
    exact end1f rfl rfl rfl ⟨rfl, rfl, rfl⟩ rfl
end Go.Pv


set_option maxHeartbeats 2000000
namespace Go.Pv
attribute [local irreducible] PWP POps PQuiet PSem XThen XBlock RetPost InlPost
open Go.Proofs
theorem roleIs_ret (l : List SPost) (hl : l.length ≤ 400) (role i : Int) (h1 : 1 ≤ i) (h2 : i ≤ l.length) : Ret Tryz.prog .shared 174 [I i, .dref [.dref (eBook l) 0] 0, .dref [I role] 0] (.bool (decide ((entL l i).role = role))) := by
  have he := entry_ret l i h1 h2 hl
  refine Ret.of_pwp layOk mixed Go.Proofs.Tryz.func174 rfl (by decide) rfl rfl ?_
  repeat (refine stp rfl ?_ ?_;·repeat' constructor)
  refine pw_draw 7 [5, 6, 7, 8, 9, 10, 4] (by decide +kernel) ?_
  repeat (refine stp rfl ?_ ?_;·repeat' constructor)
  apply qst;exact rfl;exact rfl;exact q_call rfl (he) rfl (by repeat' constructor) rfl
  repeat (refine stp rfl ?_ ?_;·repeat' constructor)
  exact end1b rfl rfl rfl
theorem indexFunc_ret (l : List SPost) (hl : l.length ≤ 400) (role : Int) (L : List Int) (hL : L.length ≤ 1000000) (hin : ∀ x, x ∈ L → 1 ≤ x ∧ x ≤ l.length) :
    Ret Tryz.prog .shared 213 [.sl (L.map eI), .clo 174 [.dref [.dref (eBook l) 0] 0, .dref [I role] 0]] (I (idx L fun i => decide ((entL l i).role = role))) := by
  have hll : ((L.map eI).length : Int) = L.length := by simp
  refine Ret.of_pwp layOk mixed Go.Proofs.Tryz.func213 rfl (by decide) rfl rfl ?_
  repeat (refine stp rfl ?_ ?_;·repeat' constructor)
  refine pw_loop (Clear L fun i => decide ((entL l i).role = role)) (fun k => [(0, .sl (L.map eI)), (1, .clo 174 [.dref [.dref (eBook l) 0] 0, .dref [I role] 0]), (7, I (L.map eI).length), (8, I k)]) (fun _ => []) (fun k => L.length - k) 0 .zero ⟨rfl, rfl, rfl, rfl, trivial⟩ ?_
  intro k s hk
  repeat (refine stp rfl ?_ ?_;·repeat' constructor)
  refine pw_cond rfl (fun h => ?_) (fun h => ?_)
  · have hlt : k < L.length := by have := of_decide_eq_true h; omega
    clear h
    obtain ⟨x, hx⟩ := get_lt hlt
    have hb := hin x (List.mem_of_getElem? hx)
    have hc := roleIs_ret l hl role x hb.1 hb.2
    generalize hbb : decide ((entL l x).role = role) = b at hc
    repeat (refine stp rfl ?_ ?_;·repeat' constructor)
    apply qst;exact rfl;exact rfl;exact q_idxm rfl rfl rfl rfl rfl (by omega) hx rfl
    repeat (refine stp rfl ?_ ?_;·repeat' constructor)
    apply qst;exact rfl;exact rfl;exact q_callP rfl (hc) rfl (by repeat' constructor) rfl rfl
    cases b with
    | true =>
      repeat (refine stp rfl ?_ ?_;·repeat' constructor)
      exact end1i rfl rfl (by rw [hk.found hx hbb])
    | false =>
      repeat (refine stp rfl ?_ ?_;·repeat' constructor)
      refine ⟨k + 1, hk.succ hx hbb, by omega, rfl, rfl, rfl, ?_, trivial⟩
      exact i64_next (by omega) (by omega)
  · have hf : ¬ k < L.length := by have := of_decide_eq_false h; omega
    repeat (refine stp rfl ?_ ?_;·repeat' constructor)
    exact end1i rfl rfl (by rw [hk.none hf])
theorem containsFunc_ret (l : List SPost) (hl : l.length ≤ 400) (role : Int) (L : List Int) (hL : L.length ≤ 1000000) (hin : ∀ x, x ∈ L → 1 ≤ x ∧ x ≤ l.length) :
    Ret Tryz.prog .shared 173 [.sl (L.map eI), .clo 174 [.dref [.dref (eBook l) 0] 0, .dref [I role] 0]] (.bool (L.any fun i => decide ((entL l i).role = role))) := by
  have h1 := indexFunc_ret l hl role L hL hin
  refine Ret.of_pwp layOk mixed Go.Proofs.Tryz.func173 rfl (by decide) rfl rfl ?_
  repeat (refine stp rfl ?_ ?_;·repeat' constructor)
  apply qst;exact rfl;exact rfl;exact q_callP rfl (h1) rfl (by repeat' constructor) rfl rfl
  repeat (refine stp rfl ?_ ?_;·repeat' constructor)
  exact end1b rfl rfl (by rw [idx_nonneg])
theorem sigF_mem {l : List SPost} {n : Int} : ∀ {b : Nat} {x : Int}, x ∈ sigF l n b → 1 ≤ x ∧ x ≤ b
  | 0, x, h => by simp [sigF] at h
  | b + 1, x, h => by
    rw [sigF] at h
    split at h
    · rcases List.mem_append.1 h with h | h
      · have := sigF_mem h; omega
      · simp at h; omega
    · split at h
      · simp at h
      · have := sigF_mem h; omega
def sgdB (l : List SPost) (n : Int) (b : Nat) (role : Int) : Bool := (sigF l n b).any fun i => decide ((entL l i).role = role)
theorem signed_ret (l : List SPost) (hO : Ok l) (n : Int) (b : Nat) (role : Int) (hn : 1 ≤ n) (hnb : n ≤ b) (hb : b ≤ l.length) : Ret Tryz.prog .shared 146 [.dref (eBook l) 0, I n, I (b + 1), I role] (.bool (sgdB l n b role)) := by
  have hs := signatures_ret l hO n b hn hnb hb
  have hl := hO.wf.len
  have hsl := sigF_len l n b
  have hc := containsFunc_ret l hl role (sigF l n b) (by omega) (fun x hx => by have := sigF_mem hx; omega)
  rw [sgdB]
  generalize sigF l n b = L at *
  refine Ret.of_pwp layOk mixed Go.Proofs.Tryz.func146 rfl (by decide) rfl rfl ?_
  ((repeat (first | refine ps_nil ?_ | refine pq_nil ?_ | refine x_norm ?_ | refine pw_seq ?_)); refine pw_region ?_)
  refine ps_run (o_box rfl rfl rfl (by repeat' constructor) rfl ?_)
  refine ps_run (o_box rfl rfl rfl (by repeat' constructor) rfl ?_)
  repeat (refine stp rfl ?_ ?_;·repeat' constructor)
  apply qst;exact rfl;exact rfl;exact q_callF rfl (hs) rfl (by repeat' constructor) rfl
  repeat (refine stp rfl ?_ ?_;·repeat' constructor)
  apply qst;exact rfl;exact rfl;exact q_callP rfl (hc) rfl (by repeat' constructor) rfl rfl
  repeat (refine stp rfl ?_ ?_;·repeat' constructor)
  exact end1b rfl rfl rfl
end Go.Pv


set_option maxHeartbeats 2000000
namespace Go.Pv
attribute [local irreducible] PWP POps PQuiet PSem XThen XBlock RetPost InlPost
open Go.Proofs
def aget : List (Int × Int) → Int → Int
  | [], _ => 0
  | (d, c) :: m, k => if d = k then c else aget m k
def aput (k v : Int) : List (Int × Int) → List (Int × Int)
  | [] => [(k, v)]
  | (d, c) :: m => if d = k then (d, v) :: m else (d, c) :: aput k v m
def eKV (e : Int × Int) : List PV := [I e.1, I e.2]
theorem mput_cons (key v : PV) (row : List PV) (rows : List (List PV)) : mput key v (row :: rows) = bif mhd key row then row.set 1 v :: rows else row :: mput key v rows := by
  unfold mput
  cases h : mhd key row with
  | true => simp [mix, h]
  | false =>
    simp only [mix, h, cond_false]
    cases hm : mix key rows with
    | none => simp
    | some i =>
      have hi := mix_lt hm
      simp [List.getElem?_eq_getElem hi]
theorem mval_kv (d : Int) : ∀ m : List (Int × Int), mval (I 0) (I d) (m.map eKV) = I (aget m d)
  | [] => rfl
  | (e, c) :: m => by
    rw [List.map_cons, mval_cons, mval_kv d m]
    have : mhd (I d) (eKV (e, c)) = decide (e = d) := rfl
    rw [this, aget]
    by_cases h : e = d
    · rw [if_pos h, decide_eq_true h]; rfl
    · rw [if_neg h, decide_eq_false h]; rfl
theorem mput_kv (d v : Int) : ∀ m : List (Int × Int), mput (I d) (I v) (m.map eKV) = (aput d v m).map eKV
  | [] => rfl
  | (e, c) :: m => by
    rw [List.map_cons, mput_cons, mput_kv d v m]
    have : mhd (I d) (eKV (e, c)) = decide (e = d) := rfl
    rw [this, aput]
    by_cases h : e = d
    · rw [if_pos h, decide_eq_true h]; rfl
    · rw [if_neg h, decide_eq_false h]; rfl
theorem keyed_kv (m : List (Int × Int)) : keyed (.int .i64) (m.map eKV) = true := by
  induction m with
  | nil => rfl
  | cons e m ih => rw [List.map_cons]; exact ih
theorem keyedG_kv (m : List (Int × Int)) : keyedG (.int .i64) none (m.map eKV) = true := by
  induction m with
  | nil => rfl
  | cons e m ih => rw [List.map_cons]; exact ih
theorem aget_aput (k v : Int) (d : Int) : ∀ m : List (Int × Int), aget (aput k v m) d = if k = d then v else aget m d
  | [] => rfl
  | (e, c) :: m => by
    have ih := aget_aput k v d m
    simp only [aput, aget]
    by_cases h : e = k
    · subst h
      rw [if_pos rfl, aget]
      by_cases h2 : e = d
      · rw [if_pos h2, if_pos h2]
      · rw [if_neg h2, if_neg h2, if_neg h2]
    · rw [if_neg h, aget, ih]
      by_cases h2 : e = d
      · rw [if_pos h2, if_neg (by omega), if_pos h2]
      · rw [if_neg h2, if_neg h2]
def tstB (l : List SPost) (o : Str) (i : Nat) (n : Int) (M : List (Int × Int)) : Bool := decide ((entL l n).op = 3) && decide ((entL l n).order = o) && decide (aget M n = 0) && liveB l n && sgdB l n i 0
def covIn (l : List SPost) (o : Str) (i : Nat) (M : List (Int × Int)) : Nat → List (Int × Int)
  | 0 => M
  | n + 1 => if tstB l o i ((n : Int) + 1) (covIn l o i M n) = true then aput ((n : Int) + 1) (i + 1) (covIn l o i M n) else covIn l o i M n
def ivcB (l : List SPost) (o : Str) (k : Nat) : Bool := decide ((entL l ((k : Int) + 1)).op = 6) && decide ((entL l ((k : Int) + 1)).order = o) && liveB l ((k : Int) + 1)
def covOut (l : List SPost) (o : Str) : Nat → List (Int × Int)
  | 0 => []
  | k + 1 => if ivcB l o k = true then covIn l o k (covOut l o k) k else covOut l o k
set_option maxRecDepth 20000 in
theorem covered_ret (l : List SPost) (hO : Ok l) (o : Str) : Ret Tryz.prog .fresh 112 [.dref (eBook l) 0, .str o] (.mapd ((covOut l o l.length).map eKV)) := by
  have hl := hO.wf.len
  have hll : ((l.map ePost).length : Int) = l.length := by simp
  refine Ret.of_pwp layOk mixed Go.Proofs.Tryz.func112 rfl (by decide) rfl rfl ?_
  repeat (refine stp rfl ?_ ?_;·repeat' constructor)
  refine ps_run (o_mkmap rfl ?_)
  repeat (refine stp rfl ?_ ?_;·repeat' constructor)
  rw [hll]
  refine pw_loop (fun k => k ≤ l.length) (fun k => [(0, .dref (eBook l) 0), (1, .str o), (5, .mp 10 1), (14, .sl (l.map ePost)), (15, I l.length), (16, I k)]) (fun k => [(10, 1, ⟨180, 0, (covOut l o k).map eKV, 0⟩)]) (fun k => l.length - k) 0 (Nat.zero_le _) ⟨rfl, rfl, rfl, rfl, rfl, rfl, rfl, trivial⟩ ?_
  intro k s hk
  have hk : k ≤ l.length := hk
  repeat (refine stp rfl ?_ ?_;·repeat' constructor)
  refine pw_cond rfl (fun h => ?_) (fun h => ?_)
  · have hlt : k < l.length := by have := of_decide_eq_true h; omega
    clear h
    have hx : l[k]? = some (entL l ((k : Int) + 1)) := by
      have := entL_at (l := l) (n := (k : Int) + 1) (by omega) (by omega)
      rwa [show ((k : Int) + 1 - 1).toNat = k by omega] at this
    have hv := live_ret l hO.wf ((k : Int) + 1) (by omega)
    have hs : covOut l o (k + 1) = if ivcB l o k = true then covIn l o k (covOut l o k) k else covOut l o k := rfl
    have hw : IntKind.wrap .i64 ((k : Int) + 1) = (k : Int) + 1 := wrap_i64 (by omega) (by omega)
    rw [ivcB] at hs
    generalize entL l ((k : Int) + 1) = x at hx hs
    repeat (refine stp rfl ?_ ?_;·repeat' constructor)
    apply qst;exact rfl;exact rfl;exact q_idxm rfl rfl rfl rfl rfl (by omega) hx rfl
    repeat (refine stp rfl ?_ ?_;·repeat' constructor)
    (first | refine ps_split rfl rfl (fun h => ?_) (fun h => ?_) | refine pq_split rfl rfl (fun h => ?_) (fun h => ?_) | refine p3_split rfl rfl (fun h => ?_) (fun h => ?_))
    · have g1 : ¬ x.op = 6 := by simpa using h
      rw [decide_eq_false g1, Bool.false_and, Bool.false_and, if_neg (by simp)] at hs
      repeat (refine stp rfl ?_ ?_;·repeat' constructor)
      exact ⟨k + 1, hlt, by omega, rfl, rfl, rfl, rfl, rfl, i64_next (by omega) (by omega), by rw [hs]; rfl, trivial⟩
    have g1 : x.op = 6 := by simpa using h
    clear h
    rw [decide_eq_true g1, Bool.true_and] at hs
    repeat (refine stp rfl ?_ ?_;·repeat' constructor)
    (first | refine ps_split rfl rfl (fun h => ?_) (fun h => ?_) | refine pq_split rfl rfl (fun h => ?_) (fun h => ?_) | refine p3_split rfl rfl (fun h => ?_) (fun h => ?_))
    · have g2 : ¬ x.order = o := by simpa using h
      rw [decide_eq_false g2, Bool.false_and, if_neg (by simp)] at hs
      repeat (refine stp rfl ?_ ?_;·repeat' constructor)
      exact ⟨k + 1, hlt, by omega, rfl, rfl, rfl, rfl, rfl, i64_next (by omega) (by omega), by rw [hs]; rfl, trivial⟩
    have g2 : x.order = o := by simpa using h
    clear h
    rw [decide_eq_true g2, Bool.true_and] at hs
    generalize liveB l ((k : Int) + 1) = lv at *
    repeat (refine stp rfl ?_ ?_;·repeat' constructor)
    rw [hw]
    apply qst;exact rfl;exact rfl;exact q_callP rfl (hv) rfl (by repeat' constructor) rfl rfl
    cases lv with
    | false =>
      rw [if_neg (by simp)] at hs
      repeat (refine stp rfl ?_ ?_;·repeat' constructor)
      exact ⟨k + 1, hlt, by omega, rfl, rfl, rfl, rfl, rfl, i64_next (by omega) (by omega), by rw [hs]; rfl, trivial⟩
    | true =>
    rw [if_pos rfl] at hs
    have hso := hs
    repeat (refine stp rfl ?_ ?_;·repeat' constructor)
    refine pw_loop (fun n => n ≤ k) (fun n => [(0, .dref (eBook l) 0), (1, .str o), (5, .mp 10 1), (6, I k), (8, I (n + 1)), (14, .sl (l.map ePost)), (15, I l.length), (16, I k)]) (fun n => [(10, 1, ⟨180, 0, (covIn l o k (covOut l o k) n).map eKV, 0⟩)]) (fun n => k - n) 0 (Nat.zero_le _) ⟨rfl, rfl, rfl, rfl, rfl, rfl, rfl, rfl, rfl, trivial⟩ ?_
    intro n s2 hn
    have hn : n ≤ k := hn
    clear hs hv g1 g2 hx
    repeat (refine stp rfl ?_ ?_;·repeat' constructor)
    refine pw_cond rfl (fun h => ?_) (fun h => ?_)
    · have hnk : n < k := by have := of_decide_eq_true h; omega
      clear h
      have he := entry_ret l ((n : Int) + 1) (by omega) (by omega) hl
      have hv := live_ret l hO.wf ((n : Int) + 1) (by omega)
      have hsg := signed_ret l hO ((n : Int) + 1) k 0 (by omega) (by omega) (by omega)
      have hs : covIn l o k (covOut l o k) (n + 1) = if tstB l o k ((n : Int) + 1) (covIn l o k (covOut l o k) n) = true then aput ((n : Int) + 1) (k + 1) (covIn l o k (covOut l o k) n) else covIn l o k (covOut l o k) n := rfl
      have hwn : PV.int .i64 (IntKind.wrap .i64 ((n : Int) + 1 + 1)) = I (((n + 1 : Nat) : Int) + 1) := by rw [wrap_i64 (by omega) (by omega)]; rfl
      rw [tstB] at hs
      generalize covIn l o k (covOut l o k) n = M at *
      repeat (refine stp rfl ?_ ?_;·repeat' constructor)
      apply qst;exact rfl;exact rfl;exact q_call rfl (he) rfl (by repeat' constructor) rfl
      repeat (refine stp rfl ?_ ?_;·repeat' constructor)
      generalize entL l ((n : Int) + 1) = x at *
      (first | refine ps_split rfl rfl (fun h => ?_) (fun h => ?_) | refine pq_split rfl rfl (fun h => ?_) (fun h => ?_) | refine p3_split rfl rfl (fun h => ?_) (fun h => ?_))
      rotate_left
      · have g1 := of_decide_eq_false h
        rw [decide_eq_false g1, Bool.false_and, Bool.false_and, Bool.false_and, Bool.false_and, if_neg (by simp)] at hs
        repeat (refine stp rfl ?_ ?_;·repeat' constructor)
        exact ⟨n + 1, hnk, by omega, rfl, rfl, rfl, rfl, hwn, rfl, rfl, rfl, by rw [hs]; rfl, trivial⟩
      have g1 := of_decide_eq_true h
      clear h
      rw [decide_eq_true g1, Bool.true_and] at hs
      repeat (refine stp rfl ?_ ?_;·repeat' constructor)
      (first | refine ps_split rfl rfl (fun h => ?_) (fun h => ?_) | refine pq_split rfl rfl (fun h => ?_) (fun h => ?_) | refine p3_split rfl rfl (fun h => ?_) (fun h => ?_))
      rotate_left
      · have g2 := of_decide_eq_false h
        rw [decide_eq_false g2, Bool.false_and, Bool.false_and, Bool.false_and, if_neg (by simp)] at hs
        repeat (refine stp rfl ?_ ?_;·repeat' constructor)
        exact ⟨n + 1, hnk, by omega, rfl, rfl, rfl, rfl, hwn, rfl, rfl, rfl, by rw [hs]; rfl, trivial⟩
      have g2 := of_decide_eq_true h
      clear h
      rw [decide_eq_true g2, Bool.true_and] at hs
      repeat (refine stp rfl ?_ ?_;·repeat' constructor)
      apply qst;exact rfl;exact rfl;exact q_lookG none rfl rfl rfl rfl rfl zone3 rfl rfl rfl rfl rfl rfl (keyedG_kv M)
      rw [mval_kv]
      repeat (refine stp rfl ?_ ?_;·repeat' constructor)
      (first | refine ps_split rfl rfl (fun h => ?_) (fun h => ?_) | refine pq_split rfl rfl (fun h => ?_) (fun h => ?_) | refine p3_split rfl rfl (fun h => ?_) (fun h => ?_))
      rotate_left
      · have g3 := of_decide_eq_false h
        rw [decide_eq_false g3, Bool.false_and, Bool.false_and, if_neg (by simp)] at hs
        repeat (refine stp rfl ?_ ?_;·repeat' constructor)
        exact ⟨n + 1, hnk, by omega, rfl, rfl, rfl, rfl, hwn, rfl, rfl, rfl, by rw [hs]; rfl, trivial⟩
      have g3 := of_decide_eq_true h
      clear h
      rw [decide_eq_true g3, Bool.true_and] at hs
      generalize liveB l ((n : Int) + 1) = lv at *
      repeat (refine stp rfl ?_ ?_;·repeat' constructor)
      apply qst;exact rfl;exact rfl;exact q_callP rfl (hv) rfl (by repeat' constructor) rfl rfl
      cases lv with
      | false =>
        rw [Bool.false_and, if_neg (by simp)] at hs
        repeat (refine stp rfl ?_ ?_;·repeat' constructor)
        exact ⟨n + 1, hnk, by omega, rfl, rfl, rfl, rfl, hwn, rfl, rfl, rfl, by rw [hs]; rfl, trivial⟩
      | true =>
      rw [Bool.true_and] at hs
      generalize sgdB l ((n : Int) + 1) k 0 = sg at *
      repeat (refine stp rfl ?_ ?_;·repeat' constructor)
      rw [hw]
      apply qst;exact rfl;exact rfl;exact q_callP rfl (hsg) rfl (by repeat' constructor) rfl rfl
      cases sg with
      | false =>
        rw [if_neg (by simp)] at hs
        repeat (refine stp rfl ?_ ?_;·repeat' constructor)
        exact ⟨n + 1, hnk, by omega, rfl, rfl, rfl, rfl, hwn, rfl, rfl, rfl, by rw [hs]; rfl, trivial⟩
      | true =>
        rw [if_pos rfl] at hs
        repeat (refine stp rfl ?_ ?_;·repeat' constructor)
        rw [hw]
        refine ps_run0 (o_mset 0 rfl rfl rfl rfl rfl rfl rfl rfl rfl (keyed_kv M) rfl rfl ?_)
        rw [show nrm 0 (PV.int .i64 ((k : Int) + 1)) = I ((k : Int) + 1) from rfl, mput_kv]
        repeat (refine stp rfl ?_ ?_;·repeat' constructor)
        exact ⟨n + 1, hnk, by omega, rfl, rfl, rfl, rfl, hwn, rfl, rfl, rfl, by rw [hs]; rfl, trivial⟩
    · have hz : n = k := by have := of_decide_eq_false h; omega
      subst hz
      repeat (refine stp rfl ?_ ?_;·repeat' constructor)
      exact ⟨n + 1, hlt, by omega, rfl, rfl, rfl, rfl, rfl, i64_next (by omega) (by omega), by rw [hso]; rfl, trivial⟩
  · have hz : k = l.length := by have := of_decide_eq_false h; omega
    subst hz
    repeat (refine stp rfl ?_ ?_;·repeat' constructor)
    exact end1f rfl rfl rfl rfl rfl
end Go.Pv


set_option maxHeartbeats 2000000
namespace Go.Pv
attribute [local irreducible] PWP POps PQuiet PSem XThen XBlock RetPost InlPost
open Go.Proofs
def invF (l : List SPost) (n : Int) : Nat → Int
  | 0 => 0
  | k + 1 => if invF l n k = 0 then (if (decide (n < (k : Int) + 1) && ivcB l (entL l n).order k && sgdB l n k 0) = true then (k : Int) + 1 else 0) else invF l n k
theorem covIn_at {l : List SPost} {o : Str} {i : Nat} {M : List (Int × Int)} {n : Int} (h1 : (entL l n).op = 3) (h2 : (entL l n).order = o) (h3 : liveB l n = true) (h4 : 1 ≤ n) : ∀ m : Nat,
    aget (covIn l o i M m) n = if n ≤ m ∧ aget M n = 0 ∧ sgdB l n i 0 = true then (i : Int) + 1 else aget M n
  | 0 => by rw [covIn, if_neg (by omega)]
  | m + 1 => by
    have ih := covIn_at (l := l) (o := o) (i := i) (M := M) h1 h2 h3 h4 m
    rw [covIn]
    by_cases hn : n = (m : Int) + 1
    · subst hn
      rw [if_neg (by omega)] at ih
      have ht : tstB l o i ((m : Int) + 1) (covIn l o i M m) = (decide (aget M ((m : Int) + 1) = 0) && sgdB l ((m : Int) + 1) i 0) := by
        rw [tstB, ih, h1, h2, h3]; simp
      rw [ht]
      by_cases hc : aget M ((m : Int) + 1) = 0 ∧ sgdB l ((m : Int) + 1) i 0 = true
      · rw [if_pos (by simp [hc.1, hc.2]), aget_aput, if_pos rfl, if_pos ⟨by omega, hc.1, hc.2⟩]
      · rw [if_neg (by simpa using hc), ih, if_neg (fun h => hc h.2)]
    · have hle : (n ≤ ((m + 1 : Nat) : Int)) ↔ n ≤ m := by omega
      have : aget (if tstB l o i ((m : Int) + 1) (covIn l o i M m) = true then aput ((m : Int) + 1) ((i : Int) + 1) (covIn l o i M m) else covIn l o i M m) n = aget (covIn l o i M m) n := by
        split
        · rw [aget_aput, if_neg (fun e => hn e.symm)]
        · rfl
      rw [this, ih]
      simp only [hle]
theorem covOut_at {l : List SPost} {o : Str} {n : Int} (h1 : (entL l n).op = 3) (h2 : (entL l n).order = o) (h3 : liveB l n = true) (h4 : 1 ≤ n) : ∀ k : Nat, aget (covOut l o k) n = invF l n k
  | 0 => rfl
  | k + 1 => by
    have ih := covOut_at h1 h2 h3 h4 k
    rw [covOut, invF, h2]
    by_cases hi : ivcB l o k = true
    · rw [if_pos hi, covIn_at h1 h2 h3 h4, ih, hi]
      by_cases hz : invF l n k = 0
      · rw [if_pos hz, hz]
        by_cases hc : n ≤ k ∧ sgdB l n k 0 = true
        · rw [if_pos ⟨hc.1, rfl, hc.2⟩, if_pos (by simp [hc.2]; omega)]
        · rw [if_neg (fun h => hc ⟨h.1, h.2.2⟩), if_neg (by intro h; simp at h; exact hc ⟨by omega, h.2⟩)]
      · rw [if_neg hz, if_neg (fun h => hz h.2.1)]
    · rw [if_neg hi, ih]
      split
      · rename_i hz
        rw [hz, if_neg (by simp [hi])]
      · rfl
section
variable {L : Lay} {s : St} {fn : Func} {r : PV}
theorem endc2f {t1 t2 : Nat} {T : TypeId} {v d : PV} {A C1 : Prop} {b1 : Bool} {k2 : IntKind} {n2 : Int} (h : fn.results.toList = [.cell t1 T, .tmp t2]) (hq : qv L s (.load T (.tmp t1)) = some (v, A)) (ha : A) (h2 : s.reg t2 = .int k2 n2) (r1 : res s 4 v = some (d, C1, ⟨b1, true⟩)) (c1 : C1)
    (hd : PV.tup [d, .int k2 n2] = r) : RetPost L fn .fresh r .ret s := by
  unfold RetPost
  refine ⟨[v, s.reg t2], A ∧ True ∧ True, .tup [d, .int k2 n2], C1 ∧ True ∧ True, (⟨b1, true⟩ : Fl).and ((⟨true, true⟩ : Fl).and ⟨true, true⟩), ?_, ⟨ha, trivial, trivial⟩, ?_, ⟨c1, trivial, trivial⟩, rfl, hd⟩
  · rw [h]
    show (match rv L s (.cell t1 T) with | some (v, A) => (match rvs L s [.tmp t2] with | some (vs, B) => some (v :: vs, A ∧ B) | none => none) | none => none) = _
    rw [show rv L s (.cell t1 T) = some (v, A) from hq]; rfl
  · show (match resL (res s 4) [v, s.reg t2] with | some (ds, C1, b) => some (PV.tup ds, C1, b) | none => none) = _
    rw [h2]
    have q : ∀ (k : IntKind) (n : Int), res s 4 (.int k n) = some (.int k n, True, ⟨true, true⟩) := fun k n => rfl
    simp only [resL, r1, q]
end
theorem end_ret (l : List SPost) (hl : l.length ≤ 400) : Ret Tryz.prog .shared 111 [.dref (eBook l) 0] (I (l.length + 1)) := by
  have hll : ((l.map ePost).length : Int) = l.length := by simp
  refine Ret.of_pwp layOk mixed Go.Proofs.Tryz.func111 rfl (by decide) rfl rfl ?_
  repeat (refine stp rfl ?_ ?_;·repeat' constructor)
  exact end1i rfl rfl (by rw [hll, wrap_i64 (by omega) (by omega)])
end Go.Pv


set_option maxHeartbeats 2000000
namespace Go.Pv
attribute [local irreducible] PWP POps PQuiet PSem XThen XBlock RetPost InlPost
open Go.Proofs
end Go.Pv


set_option maxHeartbeats 2000000
namespace Go.Pv
attribute [local irreducible] PWP POps PQuiet PSem XThen XBlock RetPost InlPost
open Go.Proofs
end Go.Pv


set_option maxHeartbeats 2000000
namespace Go.Pv
attribute [local irreducible] PWP POps PQuiet PSem XThen XBlock RetPost InlPost
open Go.Proofs
section
variable {P : Program} {L : Lay} {s : St} {T T' : TypeId} {d : Nat} {x y : Operand} {ty : TypeId} {pos : String} {af : Array Edge} {g : Option (Nat × Bool)}
def leS (a b : Str) : Bool := Op.bytesLess a b || (a == b)
theorem q_leS [Globs] {a b : Str} (hx : s.ev x = .str a) (hy : s.ev y = .str b) : QOp P L s ⟨some d, .binOp .leq T x y T', ty, pos, af, g⟩ (.bool (leS a b)) := by
  refine .semF (v := .bool (leS a b)) (by simp [Op.operands]) (fun z hz => ?_) (fun ev w _ he => ?_) fun _ _ => .bool _
  · simp [Op.operands] at hz
    rcases hz with rfl | rfl
    · rw [hx]; exact ⟨_, rfl⟩
    · rw [hy]; exact ⟨_, rfl⟩
  · have e1 := he x (by simp [Op.operands])
    have e2 := he y (by simp [Op.operands])
    rw [hx] at e1
    rw [hy] at e2
    have e1 : ev x = .string ⟨a.toArray⟩ := (Option.some.inj e1).symm
    have e2 : ev y = .string ⟨b.toArray⟩ := (Option.some.inj e2).symm
    simp only [execOp, e1, e2]
    refine wrapW ?_
    have hg : eqGuard .leq T x y (.string ⟨a.toArray⟩) (.string ⟨b.toArray⟩) = pure () := rfl
    rw [hg]
    have t1 : (⟨a.toArray⟩ : ByteArray).toList = a := by rw [Lib.toList_data]
    have t2 : (⟨b.toArray⟩ : ByteArray).toList = b := by rw [Lib.toList_data]
    simp only [Sem.run_bind, Sem.run_pure, Result.andThen_ok, binOp, Op.stringOp, t1, t2]
    rfl
end
structure SSet where
  key : Str
  value : Str
  deriving DecidableEq, Inhabited
def eSet (x : SSet) : List PV := [.str x.key, .str x.value]
def badV (c : UInt8) : Bool := decide ((c.toNat : Int) < 32) || decide (126 < (c.toNat : Int))
def valB (s : Str) : Bool := decide ((s.length : Int) ≤ 60) && !s.any badV
def eC (c : UInt8) : List PV := [.int .u8 c.toNat]
theorem badV_ret (c : UInt8) : Ret Tryz.prog .shared 135 [.int .u8 c.toNat] (.bool (badV c)) := by
  rw [badV]
  generalize h1 : decide ((c.toNat : Int) < 32) = b1
  generalize h2 : decide (126 < (c.toNat : Int)) = b2
  refine Ret.of_pwp layOk mixed Go.Proofs.Tryz.func135 rfl (by decide) rfl rfl ?_
  repeat (refine stp rfl ?_ ?_;·repeat' constructor)
  rw [h1]
  cases b1 with
  | true =>
    repeat (refine stp rfl ?_ ?_;·repeat' constructor)
    exact end1b rfl rfl rfl
  | false =>
    repeat (refine stp rfl ?_ ?_;·repeat' constructor)
    rw [h2]
    repeat (refine stp rfl ?_ ?_;·repeat' constructor)
    exact end1b rfl rfl rfl
theorem idxV_ret (s : Str) (hs : s.length ≤ 1000000) : Ret Tryz.prog .shared 169 [.sl (s.map eC), .clo 135 []] (I (idx s badV)) := by
  have hll : ((s.map eC).length : Int) = s.length := by simp
  refine Ret.of_pwp layOk mixed Go.Proofs.Tryz.func169 rfl (by decide) rfl rfl ?_
  repeat (refine stp rfl ?_ ?_;·repeat' constructor)
  refine pw_loop (Clear s badV) (fun k => [(0, .sl (s.map eC)), (1, .clo 135 []), (7, I (s.map eC).length), (8, I k)]) (fun _ => []) (fun k => s.length - k) 0 .zero ⟨rfl, rfl, rfl, rfl, trivial⟩ ?_
  intro k st hk
  repeat (refine stp rfl ?_ ?_;·repeat' constructor)
  refine pw_cond rfl (fun h => ?_) (fun h => ?_)
  · have hlt : k < s.length := by have := of_decide_eq_true h; omega
    clear h
    obtain ⟨x, hx⟩ := get_lt hlt
    have hc := badV_ret x
    generalize hb : badV x = b at hc
    repeat (refine stp rfl ?_ ?_;·repeat' constructor)
    apply qst;exact rfl;exact rfl;exact q_idxm rfl rfl rfl rfl rfl (by omega) hx rfl
    repeat (refine stp rfl ?_ ?_;·repeat' constructor)
    apply qst;exact rfl;exact rfl;exact q_callP rfl (hc) rfl (by repeat' constructor) rfl rfl
    cases b with
    | true =>
      repeat (refine stp rfl ?_ ?_;·repeat' constructor)
      exact end1i rfl rfl (by rw [hk.found hx hb])
    | false =>
      repeat (refine stp rfl ?_ ?_;·repeat' constructor)
      exact ⟨k + 1, hk.succ hx hb, by omega, rfl, rfl, rfl, i64_next (by omega) (by omega), trivial⟩
  · repeat (refine stp rfl ?_ ?_;·repeat' constructor)
    exact end1i rfl rfl (by rw [hk.none (by have := of_decide_eq_false h; omega)])
theorem anyV_ret (s : Str) (hs : s.length ≤ 1000000) : Ret Tryz.prog .shared 134 [.sl (s.map eC), .clo 135 []] (.bool (s.any badV)) := by
  have h := idxV_ret s hs
  refine Ret.of_pwp layOk mixed Go.Proofs.Tryz.func134 rfl (by decide) rfl rfl ?_
  repeat (refine stp rfl ?_ ?_;·repeat' constructor)
  apply qst;exact rfl;exact rfl;exact q_callP rfl (h) rfl (by repeat' constructor) rfl rfl
  repeat (refine stp rfl ?_ ?_;·repeat' constructor)
  exact end1b rfl rfl (by rw [← idx_nonneg])
theorem isValue_ret (s : Str) : Ret Tryz.prog .shared 86 [.str s] (.bool (valB s)) := by
  by_cases hs : (s.length : Int) ≤ 60
  case neg =>
    have hb : decide ((s.length : Int) ≤ 60) = false := decide_eq_false hs
    rw [valB, hb]
    refine Ret.of_pwp layOk mixed Go.Proofs.Tryz.func86 rfl (by decide) rfl rfl ?_
    repeat (refine stp rfl ?_ ?_;·repeat' constructor)
    rw [hb]
    repeat (refine stp rfl ?_ ?_;·repeat' constructor)
    exact end1b rfl rfl rfl
  have h := anyV_ret s (by omega)
  rw [valB]
  generalize hb : decide ((s.length : Int) ≤ 60) = b
  refine Ret.of_pwp layOk mixed Go.Proofs.Tryz.func86 rfl (by decide) rfl rfl ?_
  repeat (refine stp rfl ?_ ?_;·repeat' constructor)
  rw [hb]
  cases b with
  | false =>
    repeat (refine stp rfl ?_ ?_;·repeat' constructor)
    exact end1b rfl rfl rfl
  | true =>
    repeat (refine stp rfl ?_ ?_;·repeat' constructor)
    apply qst;exact rfl;exact rfl;exact q_s2b rfl rfl rfl rfl rfl rfl
    repeat (refine stp rfl ?_ ?_;·repeat' constructor)
    apply qst;exact rfl;exact rfl;exact q_callP rfl (h) rfl (by repeat' constructor) rfl rfl
    repeat (refine stp rfl ?_ ?_;·repeat' constructor)
    exact end1b rfl rfl rfl
theorem value_ref (s : Str) (hs : s.length ≤ maxLen) : Ret Tryz.prog .shared 85 [.str s] (.bool (valB s)) := by
  have hs : s.length ≤ 9223372036854775807 := hs
  refine Ret.of_pwp layOk mixed Go.Proofs.Tryz.func85 rfl (by decide) rfl rfl ?_
  repeat (refine stp rfl ?_ ?_;·repeat' constructor)
  refine pw_loop (Clear s badV) (fun k => [(0, .str s), (3, I k)]) (fun _ => []) (fun k => s.length - k) 0 .zero ⟨rfl, rfl, trivial⟩ ?_
  intro k st hk
  repeat (refine stp rfl ?_ ?_;·repeat' constructor)
  refine pw_cond rfl (fun h => ?_) (fun h => ?_)
  · have hlt : k < s.length := by have := of_decide_eq_true h; omega
    clear h
    obtain ⟨c, hx⟩ := get_lt hlt
    have hci : s.getD ((k : Int).toNat) 0 = c := by rw [Int.toNat_natCast, List.getD_eq_getElem?_getD, hx]; rfl
    repeat (refine stp rfl ?_ ?_;·repeat' constructor)
    apply qst;exact rfl;exact rfl;exact QOp.v rfl (show 0 ≤ (k : Int) ∧ (k : Int) < (s.length : Nat) by omega)
    rw [hci]
    repeat (refine stp rfl ?_ ?_;·repeat' constructor)
    (first | refine ps_split rfl rfl (fun h => ?_) (fun h => ?_) | refine pq_split rfl rfl (fun h => ?_) (fun h => ?_) | refine p3_split rfl rfl (fun h => ?_) (fun h => ?_))
    · have hb : badV c = true := by rw [badV, h]; rfl
      clear h
      repeat (refine stp rfl ?_ ?_;·repeat' constructor)
      exact end1b rfl rfl (by rw [valB, any_of hx hb, Bool.not_true, Bool.and_false])
    · have h1 := h
      clear h
      repeat (refine stp rfl ?_ ?_;·repeat' constructor)
      apply qst;exact rfl;exact rfl;exact QOp.v rfl (show 0 ≤ (k : Int) ∧ (k : Int) < (s.length : Nat) by omega)
      rw [hci]
      repeat (refine stp rfl ?_ ?_;·repeat' constructor)
      refine pw_cond rfl (fun h => ?_) (fun h => ?_)
      · have hb : badV c = true := by rw [badV, h1, h]; rfl
        clear h
        repeat (refine stp rfl ?_ ?_;·repeat' constructor)
        exact end1b rfl rfl (by rw [valB, any_of hx hb, Bool.not_true, Bool.and_false])
      · have hb : badV c = false := by rw [badV, h1, h]; rfl
        clear h
        repeat (refine stp rfl ?_ ?_;·repeat' constructor)
        exact ⟨k + 1, hk.succ hx hb, by omega, rfl, i64_next (by omega) (by omega), trivial⟩
  · have hz : ¬ k < s.length := by have := of_decide_eq_false h; omega
    clear h
    have hn := hk.none hz
    have hany : s.any badV = false := by
      cases ha : s.any badV with
      | false => rfl
      | true =>
        rw [← idx_nonneg, hn] at ha
        simp at ha
    repeat (refine stp rfl ?_ ?_;·repeat' constructor)
    exact end1b rfl rfl (by rw [valB, hany, Bool.not_false, Bool.and_true])
def setE (l : List SSet) (i : Nat) (x : SSet) : Int := if isName x.key = false then 4 else if valB x.value = false then 3 else if 0 < i ∧ leS x.key (l.getD (i - 1) default).key = true then 10 else 0
def setsE (l : List SSet) : Int := if 60 < l.length then 8 else fstE l (setE l)
set_option maxRecDepth 20000 in
theorem checkSets_ref (l : List SSet) (hl : l.length ≤ 1000000) (hv : ∀ x, x ∈ l → x.value.length ≤ 1000000) : Ret Tryz.prog .shared 33 [.sl (l.map eSet)] (I (setsE l)) := by
  have hll : ((l.map eSet).length : Int) = l.length := by simp
  rw [setsE]
  refine Ret.of_pwp layOk mixed Go.Proofs.Tryz.func33 rfl (by decide) rfl rfl ?_
  repeat (refine stp rfl ?_ ?_;·repeat' constructor)
  rw [hll]
  refine pw_cond rfl (fun h => ?_) (fun h => ?_)
  · have := of_decide_eq_true h
    repeat (refine stp rfl ?_ ?_;·repeat' constructor)
    exact end1i rfl rfl (by rw [if_pos (by omega)])
  have h60 := of_decide_eq_false h
  clear h
  rw [if_neg (by omega)]
  repeat (refine stp rfl ?_ ?_;·repeat' constructor)
  refine pw_loop (ClearE l (setE l)) (fun k => [(0, .sl (l.map eSet)), (3, I k)]) (fun _ => []) (fun k => l.length - k) 0 .zero' ⟨rfl, rfl, trivial⟩ ?_
  intro k st hk
  repeat (refine stp rfl ?_ ?_;·repeat' constructor)
  rw [hll]
  refine pw_cond rfl (fun h => ?_) (fun h => ?_)
  · have hlt : k < l.length := by have := of_decide_eq_true h; omega
    clear h
    obtain ⟨x, hx⟩ := get_lt hlt
    have hn := isName_ref x.key
    have hva := value_ref x.value (Nat.le_trans (hv x (List.mem_of_getElem? hx)) (by decide))
    repeat (refine stp rfl ?_ ?_;·repeat' constructor)
    apply qst;exact rfl;exact rfl;exact q_idxm rfl rfl rfl rfl rfl (by omega) hx rfl
    repeat (refine stp rfl ?_ ?_;·repeat' constructor)
    apply qst;exact rfl;exact rfl;exact q_callP rfl (hn) rfl (by repeat' constructor) rfl rfl
    cases hnm : isName x.key with
    | false =>
      repeat (refine stp rfl ?_ ?_;·repeat' constructor)
      have he : setE l k x = 4 := by rw [setE, if_pos hnm]
      exact end1i rfl rfl (by rw [hk.found hx he (by decide)])
    | true =>
    repeat (refine stp rfl ?_ ?_;·repeat' constructor)
    apply qst;exact rfl;exact rfl;exact q_idxm rfl rfl rfl rfl rfl (by omega) hx rfl
    repeat (refine stp rfl ?_ ?_;·repeat' constructor)
    apply qst;exact rfl;exact rfl;exact q_callP rfl (hva) rfl (by repeat' constructor) rfl rfl
    cases hvl : valB x.value with
    | false =>
      repeat (refine stp rfl ?_ ?_;·repeat' constructor)
      have he : setE l k x = 3 := by rw [setE, if_neg (by simp [hnm]), if_pos hvl]
      exact end1i rfl rfl (by rw [hk.found hx he (by decide)])
    | true =>
    have hse : setE l k x = if 0 < k ∧ leS x.key (l.getD (k - 1) default).key = true then 10 else 0 := by rw [setE, if_neg (by simp [hnm]), if_neg (by simp [hvl])]
    repeat (refine stp rfl ?_ ?_;·repeat' constructor)
    refine pw_draw 16 [27, 28, 29, 30, 31, 32, 33, 34, 35, 36, 37, 38, 39, 40, 41, 42] (by decide +kernel) ?_
    repeat (refine stp rfl ?_ ?_;·repeat' constructor)
    (first | refine ps_split rfl rfl (fun h => ?_) (fun h => ?_) | refine pq_split rfl rfl (fun h => ?_) (fun h => ?_) | refine p3_split rfl rfl (fun h => ?_) (fun h => ?_))
    · have hk0 : 0 < k := by have := of_decide_eq_true h; omega
      clear h
      have hp : l[k - 1]? = some (l.getD (k - 1) default) := by rw [List.getD_eq_getElem?_getD, List.getElem?_eq_getElem (by omega)]; rfl
      have hw : IntKind.wrap .i64 ((k : Int) - 1) = ((k - 1 : Nat) : Int) := by rw [wrap_i64 (by omega) (by omega)]; omega
      generalize l.getD (k - 1) default = y at *
      repeat (refine stp rfl ?_ ?_;·repeat' constructor)
      apply qst;exact rfl;exact rfl;exact q_idxm rfl rfl rfl rfl rfl (by omega) hx rfl
      repeat (refine stp rfl ?_ ?_;·repeat' constructor)
      rw [hw]
      apply qst;exact rfl;exact rfl;exact q_idxm (n := (((k - 1 : Nat) : Int) : Int)) rfl rfl rfl rfl rfl (by omega) hp rfl
      repeat (refine stp rfl ?_ ?_;·repeat' constructor)
      apply qst;exact rfl;exact rfl;exact q_leS rfl rfl
      repeat (refine stp rfl ?_ ?_;·repeat' constructor)
      refine pw_cond rfl (fun h => ?_) (fun h => ?_)
      · have he : setE l k x = 10 := by rw [hse, if_pos ⟨hk0, h⟩]
        clear h
        repeat (refine stp rfl ?_ ?_;·repeat' constructor)
        exact end1i rfl rfl (by rw [hk.found hx he (by decide)])
      · have he : setE l k x = 0 := by rw [hse, if_neg (fun e => by rw [h] at e; exact absurd e.2 (by simp))]
        clear h
        repeat (refine stp rfl ?_ ?_;·repeat' constructor)
        exact ⟨k + 1, hk.succ hx he, by omega, rfl, i64_next (by omega) (by omega), trivial⟩
    · have hk0 : ¬ 0 < k := by have := of_decide_eq_false h; omega
      clear h
      have he : setE l k x = 0 := by rw [hse, if_neg (fun e => hk0 e.1)]
      repeat (refine stp rfl ?_ ?_;·repeat' constructor)
      exact ⟨k + 1, hk.succ hx he, by omega, rfl, i64_next (by omega) (by omega), trivial⟩
  · repeat (refine stp rfl ?_ ?_;·repeat' constructor)
    exact end1i rfl rfl (by rw [hk.none (by have := of_decide_eq_false h; omega)])
set_option maxRecDepth 20000 in
theorem checkSets_ret (l : List SSet) (hl : l.length ≤ 1000000) (hv : ∀ x, x ∈ l → x.value.length ≤ 1000000) : Ret Tryz.prog .shared 40 [.sl (l.map eSet)] (I (setsE l)) := by
  have hll : ((l.map eSet).length : Int) = l.length := by simp
  rw [setsE]
  refine Ret.of_pwp layOk mixed Go.Proofs.Tryz.func40 rfl (by decide) rfl rfl ?_
  repeat (refine stp rfl ?_ ?_;·repeat' constructor)
  rw [hll]
  refine pw_cond rfl (fun h => ?_) (fun h => ?_)
  · have := of_decide_eq_true h
    repeat (refine stp rfl ?_ ?_;·repeat' constructor)
    exact end1i rfl rfl (by rw [if_pos (by omega)])
  have h60 := of_decide_eq_false h
  clear h
  rw [if_neg (by omega)]
  repeat (refine stp rfl ?_ ?_;·repeat' constructor)
  rw [hll]
  refine pw_loop (ClearE l (setE l)) (fun k => [(0, .sl (l.map eSet)), (8, .sl (l.map eSet)), (9, I l.length), (10, I k)]) (fun _ => []) (fun k => l.length - k) 0 .zero' ⟨rfl, rfl, rfl, rfl, trivial⟩ ?_
  intro k st hk
  repeat (refine stp rfl ?_ ?_;·repeat' constructor)
  refine pw_cond rfl (fun h => ?_) (fun h => ?_)
  · have hlt : k < l.length := by have := of_decide_eq_true h; omega
    clear h
    obtain ⟨x, hx⟩ := get_lt hlt
    have hn := isName_ret x.key
    have hva := isValue_ret x.value
    repeat (refine stp rfl ?_ ?_;·repeat' constructor)
    apply qst;exact rfl;exact rfl;exact q_idxm rfl rfl rfl rfl rfl (by omega) hx rfl
    repeat (refine stp rfl ?_ ?_;·repeat' constructor)
    apply qst;exact rfl;exact rfl;exact q_callP rfl (hn) rfl (by repeat' constructor) rfl rfl
    cases hnm : isName x.key with
    | false =>
      repeat (refine stp rfl ?_ ?_;·repeat' constructor)
      have he : setE l k x = 4 := by rw [setE, if_pos hnm]
      exact end1i rfl rfl (by rw [hk.found hx he (by decide)])
    | true =>
    repeat (refine stp rfl ?_ ?_;·repeat' constructor)
    apply qst;exact rfl;exact rfl;exact q_callP rfl (hva) rfl (by repeat' constructor) rfl rfl
    cases hvl : valB x.value with
    | false =>
      repeat (refine stp rfl ?_ ?_;·repeat' constructor)
      have he : setE l k x = 3 := by rw [setE, if_neg (by simp [hnm]), if_pos hvl]
      exact end1i rfl rfl (by rw [hk.found hx he (by decide)])
    | true =>
    have hse : setE l k x = if 0 < k ∧ leS x.key (l.getD (k - 1) default).key = true then 10 else 0 := by rw [setE, if_neg (by simp [hnm]), if_neg (by simp [hvl])]
    repeat (refine stp rfl ?_ ?_;·repeat' constructor)
    refine pw_draw 14 [26, 27, 28, 29, 30, 31, 32, 33, 34, 35, 36, 37, 38, 25] (by decide +kernel) ?_
    repeat (refine stp rfl ?_ ?_;·repeat' constructor)
    (first | refine ps_split rfl rfl (fun h => ?_) (fun h => ?_) | refine pq_split rfl rfl (fun h => ?_) (fun h => ?_) | refine p3_split rfl rfl (fun h => ?_) (fun h => ?_))
    · have hk0 : 0 < k := by have := of_decide_eq_true h; omega
      clear h
      have hp : l[k - 1]? = some (l.getD (k - 1) default) := by rw [List.getD_eq_getElem?_getD, List.getElem?_eq_getElem (by omega)]; rfl
      have hw : IntKind.wrap .i64 ((k : Int) - 1) = ((k - 1 : Nat) : Int) := by rw [wrap_i64 (by omega) (by omega)]; omega
      generalize l.getD (k - 1) default = y at *
      repeat (refine stp rfl ?_ ?_;·repeat' constructor)
      rw [hw]
      apply qst;exact rfl;exact rfl;exact q_idxm (n := (((k - 1 : Nat) : Int) : Int)) rfl rfl rfl rfl rfl (by omega) hp rfl
      repeat (refine stp rfl ?_ ?_;·repeat' constructor)
      apply qst;exact rfl;exact rfl;exact q_leS rfl rfl
      repeat (refine stp rfl ?_ ?_;·repeat' constructor)
      refine pw_cond rfl (fun h => ?_) (fun h => ?_)
      · have he : setE l k x = 10 := by rw [hse, if_pos ⟨hk0, h⟩]
        clear h
        repeat (refine stp rfl ?_ ?_;·repeat' constructor)
        exact end1i rfl rfl (by rw [hk.found hx he (by decide)])
      · have he : setE l k x = 0 := by rw [hse, if_neg (fun e => by rw [h] at e; exact absurd e.2 (by simp))]
        clear h
        repeat (refine stp rfl ?_ ?_;·repeat' constructor)
        exact ⟨k + 1, hk.succ hx he, by omega, rfl, rfl, rfl, i64_next (by omega) (by omega), trivial⟩
    · have hk0 : ¬ 0 < k := by have := of_decide_eq_false h; omega
      clear h
      have he : setE l k x = 0 := by rw [hse, if_neg (fun e => hk0 e.1)]
      repeat (refine stp rfl ?_ ?_;·repeat' constructor)
      exact ⟨k + 1, hk.succ hx he, by omega, rfl, rfl, rfl, i64_next (by omega) (by omega), trivial⟩
  · repeat (refine stp rfl ?_ ?_;·repeat' constructor)
    exact end1i rfl rfl (by rw [hk.none (by have := of_decide_eq_false h; omega)])
end Go.Pv


set_option maxHeartbeats 2000000
namespace Go.Pv
attribute [local irreducible] PWP POps PQuiet PSem XThen XBlock RetPost InlPost
open Go.Proofs
theorem clean_again {p : SPost} (h : inside p.op 0 8 = true) : cleanP (cleanP p) = cleanP p ∧ checkE (cleanP p) = checkE p ∧ ∀ l, refE l (cleanP p) = refE l p := by
  obtain ⟨op, day, o, i, s, w, a, r, ro⟩ := p
  rcases op_cases h with rfl | rfl | rfl | rfl | rfl | rfl | rfl | rfl | rfl <;> exact ⟨rfl, rfl, fun l => rfl⟩
theorem refusal_again {l : List SPost} {p : SPost} (h : refusalR l p = 0) : refusalR l (cleanP p) = 0 := by
  have h1 := refusalR_zero h
  obtain ⟨_, e2, e3⟩ := clean_again (checkE_op h1.1).1
  rw [refusalR, e2, (clean_op p).2, e3]
  rw [refusalR] at h
  exact h
theorem Acc.at_ {l : List SPost} (h : Acc l) : ∀ (j : Nat) p, l[j]? = some p → refusalR (l.take j) p = 0 ∧ cleanP p = p := by
  induction h with
  | nil => intro j p h; simp at h
  | snoc hl hr ih =>
    rename_i l q
    intro j p hp
    rcases snoc_get hp with ⟨hj, hp⟩ | ⟨rfl, rfl⟩
    · have := ih j p hp
      rw [List.take_append_of_le_length (by omega)]
      exact this
    · rw [List.take_left']
      · exact ⟨refusal_again hr, (clean_again (checkE_op (refusalR_zero hr).1).1).1⟩
      · rfl
theorem Acc.lod {l : List SPost} (h : Acc l) : lodN l = l.length ∧ lodE l = 0 ∧ lodL l = l := by
  have ht : ∀ j, (l.take j).map cleanP = l.take j := fun j => by
    have : ∀ (m : List SPost), (∀ p, p ∈ m → cleanP p = p) → m.map cleanP = m := fun m hm => by
      induction m with
      | nil => rfl
      | cons a m ih => rw [List.map_cons, hm a (by simp), ih fun p hp => hm p (by simp [hp])]
    refine this _ fun p hp => ?_
    obtain ⟨i, hi, rfl⟩ := List.getElem_of_mem (List.mem_of_mem_take hp)
    exact (h.at_ i _ (List.getElem?_eq_getElem hi)).2
  have hf : ∀ (j : Nat) b, l[j]? = some b → lodF l j b = 0 := fun j b hb => by
    rw [lodF, ht]; exact (h.at_ j b hb).1
  have h1 : lodN l = l.length := fstN_none hf
  refine ⟨h1, fstE_none hf, ?_⟩
  rw [lodL, h1, ht, List.take_length]
end Go.Pv


namespace Go.Proofs
open Go.Shelf
def Tryz.lays156_ren : Go.Shelf.Ren := ⟨fun | 156 => 115 | 165 => 152 | 166 => 78 | 169 => 79 | 240 => 128 | 241 => 178 | 276 => 164 | 277 => 215 | n => n, fun | 31 => 58 | 9 => 9 | 3 => 3 | 4 => 4 | 0 => 0 | 20 => 20 | 72 => 141 | 76 => 116 | 70 => 139 | 37 => 54 | 75 => 115 | 127 => 196 | 164 => 223 | 5 => 5 | 80 => 48 | n => n, fun | n => n⟩
theorem Tryz.lays156 : Go.Proofs.Lays.n156 Tryz.prog Tryz.lays156_ren := {
  mixed := by kernel_rfl
  f156 := Tryz.func115.trans (congrArg some (by kernel_rfl))
  f165 := Tryz.func152.trans (congrArg some (by kernel_rfl))
  f166 := Tryz.func78.trans (congrArg some (by kernel_rfl))
  f169 := Tryz.func79.trans (congrArg some (by kernel_rfl))
  f240 := Tryz.func128.trans (congrArg some (by kernel_rfl))
  f241 := Tryz.func178.trans (congrArg some (by kernel_rfl))
  f276 := Tryz.func164.trans (congrArg some (by kernel_rfl))
  f277 := Tryz.func215.trans (congrArg some (by kernel_rfl))
  t0 := Tryz.underlying0
  a0 := Tryz.isAgg0
  z0 := Tryz.sizeOf0
  v0 := Tryz.zeroValue0
  t3 := Tryz.underlying3
  a3 := Tryz.isAgg3
  z3 := Tryz.sizeOf3
  v3 := Tryz.zeroValue3
  t4 := Tryz.underlying4
  a4 := Tryz.isAgg4
  z4 := Tryz.sizeOf4
  v4 := Tryz.zeroValue4
  t9 := Tryz.underlying9
  a9 := Tryz.isAgg9
  z9 := Tryz.sizeOf9
  v9 := Tryz.zeroValue9
  t20 := Tryz.underlying20
  a20 := Tryz.isAgg20
  z20 := Tryz.sizeOf20
  v20 := Tryz.zeroValue20
  t31 := Tryz.underlying58
  a31 := Tryz.isAgg58
  z31 := Tryz.sizeOf58
  v31 := Tryz.zeroValue58
  t37 := Tryz.underlying54
  a37 := Tryz.isAgg54
  z37 := Tryz.sizeOf54
  v37 := Tryz.zeroValue54
  t70 := Tryz.underlying139
  a70 := Tryz.isAgg139
  z70 := Tryz.sizeOf139
  v70 := Tryz.zeroValue139
  t72 := Tryz.underlying141
  a72 := Tryz.isAgg141
  z72 := Tryz.sizeOf141
  v72 := Tryz.zeroValue141
  t75 := Tryz.underlying115
  a75 := Tryz.isAgg115
  z75 := Tryz.sizeOf115
  v75 := Tryz.zeroValue115
  t76 := Tryz.underlying116
  a76 := Tryz.isAgg116
  z76 := Tryz.sizeOf116
  v76 := Tryz.zeroValue116
  t127 := Tryz.underlying196
  a127 := Tryz.isAgg196
  z127 := Tryz.sizeOf196
  v127 := Tryz.zeroValue196
  t164 := Tryz.underlying223
  a164 := Tryz.isAgg223
  z164 := Tryz.sizeOf223
  v164 := Tryz.zeroValue223 }
theorem Tryz.Builder_Extra_156 : Builder.Extra Tryz.prog Tryz.lays156_ren := {
  sizeBuilder := by kernel_rfl
  liesBuilder := by kernel_rfl
  t5 := Tryz.underlying5
  a5 := Tryz.isAgg5
  z5 := Tryz.sizeOf5
  v5 := Tryz.zeroValue5
  infoByte := by kernel_rfl
  cellsByte := by kernel_rfl
  sizeByte := by kernel_rfl
  neB5 := by decide }
open Go.RowKit in
theorem Tryz.strings_Join_none (a : Option Addr) (c : Nat) (sep : ByteArray) (w : World) :
    Calls Tryz.prog 115 #[.slice a 0 c, .string sep] w fun e w' => e = .returned (.string ⟨#[]⟩) ∧ w' = w := Any.strings_Join_none Tryz.lays156 Tryz.Builder_Extra_156 a c sep w
open Go.RowKit in
theorem Tryz.strings_Join (bk o c : Nat) (xs : List ByteArray) (sep : ByteArray) (w : World) (hcells : ∀ (j : Nat) x, xs[j]? = some x → w.cell? ⟨bk, o + j, none⟩ = some (.string x)) (hbk : bk < w.heap.size) (hN : xs.length ≤ 140737488355328) (hcap : xs.length ≤ c) (hlen : (Lib.join (xs.map (·.data.toList)) sep.data.toList).length ≤ 140737488355328) :
    Calls Tryz.prog 115 #[.slice (some ⟨bk, o, none⟩) xs.length c, .string sep] w fun e w' => e = .returned (.string ⟨(Lib.join (xs.map (·.data.toList)) sep.data.toList).toArray⟩) ∧ Below w.heap.size w w' := Any.strings_Join Tryz.lays156 Tryz.Builder_Extra_156 bk o c xs sep w hcells hbk hN hcap hlen
def Tryz.lays106_ren : Go.Shelf.Ren := ⟨fun | 106 => 133 | 213 => 168 | 265 => 207 | n => n, fun | 9 => 9 | 3 => 3 | n => n, fun | n => n⟩
theorem Tryz.lays106 : Go.Proofs.Lays.n106 Tryz.prog Tryz.lays106_ren := {
  mixed := by kernel_rfl
  f106 := Tryz.func133.trans (congrArg some (by kernel_rfl))
  f213 := Tryz.func168.trans (congrArg some (by kernel_rfl))
  f265 := Tryz.func207.trans (congrArg some (by kernel_rfl))
  t3 := Tryz.underlying3
  a3 := Tryz.isAgg3
  z3 := Tryz.sizeOf3
  v3 := Tryz.zeroValue3
  t9 := Tryz.underlying9
  a9 := Tryz.isAgg9
  z9 := Tryz.sizeOf9
  v9 := Tryz.zeroValue9 }
open Go.RowKit in
theorem Tryz.strings_Compare (a b : ByteArray) (w : World) :
    Calls Tryz.prog 133 #[.string a, .string b] w fun e w' => e = .returned (.int .i64 (Lib.compareBytes a.data.toList b.data.toList)) ∧ w' = w := Any.strings_Compare Tryz.lays106 a b w
def Tryz.laysM171_ren : Go.Shelf.Ren := ⟨fun | 171 => 89 | 243 => 136 | 246 => 170 | 283 => 208 | 284 => 209 | 285 => 210 | 286 => 211 | 129 => 198 | 317 => 228 | 318 => 229 | 319 => 230 | 320 => 231 | 337 => 234 | 338 => 235 | n => n, fun | 3 => 3 | 9 => 9 | 2 => 2 | 4 => 4 | 171 => 259 | 0 => 0 | 53 => 237 | 37 => 54 | 5 => 5 | 173 => 261 | 212 => 284 | 51 => 252 | 20 => 20 | 213 => 285 | 46 => 227 | 232 => 290 | 233 => 291 | n => n, fun | 17 => 5 | 18 => 6 | 19 => 7 | n => n⟩
theorem Tryz.laysM171 : Go.Proofs.LaysM.n171 Tryz.prog Tryz.laysM171_ren := {
  mixed := by kernel_rfl
  f129 := Tryz.func198.trans (congrArg some (by kernel_rfl))
  f171 := Tryz.func89.trans (congrArg some (by kernel_rfl))
  f243 := Tryz.func136.trans (congrArg some (by kernel_rfl))
  f246 := Tryz.func170.trans (congrArg some (by kernel_rfl))
  f283 := Tryz.func208.trans (congrArg some (by kernel_rfl))
  f284 := Tryz.func209.trans (congrArg some (by kernel_rfl))
  f285 := Tryz.func210.trans (congrArg some (by kernel_rfl))
  f286 := Tryz.func211.trans (congrArg some (by kernel_rfl))
  f317 := Tryz.func228.trans (congrArg some (by kernel_rfl))
  f318 := Tryz.func229.trans (congrArg some (by kernel_rfl))
  f319 := Tryz.func230.trans (congrArg some (by kernel_rfl))
  f320 := Tryz.func231.trans (congrArg some (by kernel_rfl))
  f337 := Tryz.func234.trans (congrArg some (by kernel_rfl))
  f338 := Tryz.func235.trans (congrArg some (by kernel_rfl))
  t0 := Tryz.underlying0
  a0 := Tryz.isAgg0
  z0 := Tryz.sizeOf0
  v0 := Tryz.zeroValue0
  t2 := Tryz.underlying2
  a2 := Tryz.isAgg2
  z2 := Tryz.sizeOf2
  v2 := Tryz.zeroValue2
  t3 := Tryz.underlying3
  a3 := Tryz.isAgg3
  z3 := Tryz.sizeOf3
  v3 := Tryz.zeroValue3
  t4 := Tryz.underlying4
  a4 := Tryz.isAgg4
  z4 := Tryz.sizeOf4
  v4 := Tryz.zeroValue4
  t5 := Tryz.underlying5
  a5 := Tryz.isAgg5
  z5 := Tryz.sizeOf5
  v5 := Tryz.zeroValue5
  t9 := Tryz.underlying9
  a9 := Tryz.isAgg9
  z9 := Tryz.sizeOf9
  v9 := Tryz.zeroValue9
  t20 := Tryz.underlying20
  a20 := Tryz.isAgg20
  z20 := Tryz.sizeOf20
  v20 := Tryz.zeroValue20
  t37 := Tryz.underlying54
  a37 := Tryz.isAgg54
  z37 := Tryz.sizeOf54
  v37 := Tryz.zeroValue54
  t46 := Tryz.underlying227
  a46 := Tryz.isAgg227
  z46 := Tryz.sizeOf227
  v46 := Tryz.zeroValue227
  t51 := Tryz.underlying252
  a51 := Tryz.isAgg252
  z51 := Tryz.sizeOf252
  v51 := Tryz.zeroValue252
  t53 := Tryz.underlying237
  a53 := Tryz.isAgg237
  z53 := Tryz.sizeOf237
  v53 := Tryz.zeroValue237
  t171 := Tryz.underlying259
  a171 := Tryz.isAgg259
  z171 := Tryz.sizeOf259
  v171 := Tryz.zeroValue259
  t173 := Tryz.underlying261
  a173 := Tryz.isAgg261
  z173 := Tryz.sizeOf261
  v173 := Tryz.zeroValue261
  t212 := Tryz.underlying284
  a212 := Tryz.isAgg284
  z212 := Tryz.sizeOf284
  v212 := Tryz.zeroValue284
  t213 := Tryz.underlying285
  a213 := Tryz.isAgg285
  z213 := Tryz.sizeOf285
  t232 := Tryz.underlying290
  a232 := Tryz.isAgg290
  z232 := Tryz.sizeOf290
  v232 := Tryz.zeroValue290
  t233 := Tryz.underlying291
  a233 := Tryz.isAgg291
  z233 := Tryz.sizeOf291
  v233 := Tryz.zeroValue291
  g17 := by kernel_rfl
  g18 := by kernel_rfl
  g19 := by kernel_rfl
  i0 := by kernel_rfl
  i2 := by kernel_rfl
  i3 := by kernel_rfl
  i4 := by kernel_rfl
  i5 := by kernel_rfl
  i9 := by kernel_rfl
  i20 := by kernel_rfl
  i37 := by kernel_rfl
  i46 := by kernel_rfl
  i51 := by kernel_rfl
  i53 := by kernel_rfl
  i171 := by kernel_rfl
  i173 := by kernel_rfl
  i212 := by kernel_rfl
  i232 := by kernel_rfl
  i233 := by kernel_rfl
  m17 := by kernel_rfl
  m18 := by kernel_rfl
  m19 := by kernel_rfl }
open Go.RowKit Go.Sort Go.Lib in
theorem Tryz.strconv_Itoa (n : Int) (h0 : -9223372036854775808 ≤ n) (h1 : n ≤ 9223372036854775807) (w : World) (htab : Lib.TabIs Tryz.prog w "internal/strconv.uint64pow10" .u64 Lib.pow10Tab) :
    Calls Tryz.prog 89 #[.int .i64 n] w fun e w' => e = .returned (.string ⟨(Lib.itoa n).toArray⟩) ∧ ∃ k os, w' = grow (w.drewN k) os := Any.strconv_Itoa Tryz.laysM171 n h0 h1 w htab
def Tryz.lays190_ren : Go.Shelf.Ren := ⟨fun | 190 => 129 | 125 => 166 | 258 => 165 | 128 => 197 | 129 => 198 | 302 => 188 | 303 => 189 | 304 => 190 | 305 => 191 | 306 => 192 | 307 => 193 | 308 => 194 | 309 => 195 | 310 => 196 | 333 => 219 | 329 => 220 | 330 => 221 | 334 => 222 | 335 => 223 | 336 => 224 | 344 => 232 | n => n, fun | 31 => 58 | 9 => 9 | 3 => 3 | 46 => 227 | 0 => 0 | 51 => 252 | 53 => 237 | 4 => 4 | 183 => 246 | 182 => 245 | 131 => 126 | 5 => 5 | 218 => 276 | 222 => 123 | 228 => 286 | 229 => 287 | n => n, fun | n => n⟩
theorem Tryz.lays190 : Go.Proofs.Lays.n190 Tryz.prog Tryz.lays190_ren := {
  mixed := by kernel_rfl
  f125 := Tryz.func166.trans (congrArg some (by kernel_rfl))
  f128 := Tryz.func197.trans (congrArg some (by kernel_rfl))
  f129 := Tryz.func198.trans (congrArg some (by kernel_rfl))
  f190 := Tryz.func129.trans (congrArg some (by kernel_rfl))
  f258 := Tryz.func165.trans (congrArg some (by kernel_rfl))
  f302 := Tryz.func188.trans (congrArg some (by kernel_rfl))
  f303 := Tryz.func189.trans (congrArg some (by kernel_rfl))
  f304 := Tryz.func190.trans (congrArg some (by kernel_rfl))
  f305 := Tryz.func191.trans (congrArg some (by kernel_rfl))
  f306 := Tryz.func192.trans (congrArg some (by kernel_rfl))
  f307 := Tryz.func193.trans (congrArg some (by kernel_rfl))
  f308 := Tryz.func194.trans (congrArg some (by kernel_rfl))
  f309 := Tryz.func195.trans (congrArg some (by kernel_rfl))
  f310 := Tryz.func196.trans (congrArg some (by kernel_rfl))
  f329 := Tryz.func220.trans (congrArg some (by kernel_rfl))
  f330 := Tryz.func221.trans (congrArg some (by kernel_rfl))
  f333 := Tryz.func219.trans (congrArg some (by kernel_rfl))
  f334 := Tryz.func222.trans (congrArg some (by kernel_rfl))
  f335 := Tryz.func223.trans (congrArg some (by kernel_rfl))
  f336 := Tryz.func224.trans (congrArg some (by kernel_rfl))
  f344 := Tryz.func232.trans (congrArg some (by kernel_rfl))
  t0 := Tryz.underlying0
  a0 := Tryz.isAgg0
  z0 := Tryz.sizeOf0
  v0 := Tryz.zeroValue0
  t3 := Tryz.underlying3
  a3 := Tryz.isAgg3
  z3 := Tryz.sizeOf3
  v3 := Tryz.zeroValue3
  t4 := Tryz.underlying4
  a4 := Tryz.isAgg4
  z4 := Tryz.sizeOf4
  v4 := Tryz.zeroValue4
  t5 := Tryz.underlying5
  a5 := Tryz.isAgg5
  z5 := Tryz.sizeOf5
  v5 := Tryz.zeroValue5
  t9 := Tryz.underlying9
  a9 := Tryz.isAgg9
  z9 := Tryz.sizeOf9
  v9 := Tryz.zeroValue9
  t31 := Tryz.underlying58
  a31 := Tryz.isAgg58
  z31 := Tryz.sizeOf58
  v31 := Tryz.zeroValue58
  t46 := Tryz.underlying227
  a46 := Tryz.isAgg227
  z46 := Tryz.sizeOf227
  v46 := Tryz.zeroValue227
  t51 := Tryz.underlying252
  a51 := Tryz.isAgg252
  z51 := Tryz.sizeOf252
  v51 := Tryz.zeroValue252
  t53 := Tryz.underlying237
  a53 := Tryz.isAgg237
  z53 := Tryz.sizeOf237
  v53 := Tryz.zeroValue237
  t131 := Tryz.underlying126
  a131 := Tryz.isAgg126
  z131 := Tryz.sizeOf126
  v131 := Tryz.zeroValue126
  t182 := Tryz.underlying245
  a182 := Tryz.isAgg245
  z182 := Tryz.sizeOf245
  v182 := Tryz.zeroValue245
  t183 := Tryz.underlying246
  a183 := Tryz.isAgg246
  z183 := Tryz.sizeOf246
  v183 := Tryz.zeroValue246
  t218 := Tryz.underlying276
  a218 := Tryz.isAgg276
  z218 := Tryz.sizeOf276
  v218 := Tryz.zeroValue276
  t222 := Tryz.underlying123
  a222 := Tryz.isAgg123
  z222 := Tryz.sizeOf123
  v222 := Tryz.zeroValue123
  t228 := Tryz.underlying286
  a228 := Tryz.isAgg286
  z228 := Tryz.sizeOf286
  v228 := Tryz.zeroValue286
  t229 := Tryz.underlying287
  a229 := Tryz.isAgg287
  z229 := Tryz.sizeOf287
  v229 := Tryz.zeroValue287 }
open Go.Sort Go.RowKit in
theorem Tryz.slices_Sort_string (blk off cap : Nat) (ss : List (List UInt8)) (w : World) (hH : Holds encStr w blk off ss.toArray) (hblk : blk < w.heap.size) (hsz : ss.length < 4611686018427387904) :
    Calls Tryz.prog 129 #[.slice (some ⟨blk, off, none⟩) ss.length cap] w fun e w' =>
      e = .returned (.tuple #[]) ∧ ∃ n os, w' = grow (putRow encStr (Sort.ahead w n) blk off (ss.mergeSort fun x y => decide (x ≤ y)).toArray) os := Any.slices_Sort_string Tryz.lays190 blk off cap ss w hH hblk hsz
def Tryz.lays194_ren : Go.Shelf.Ren := ⟨fun | 194 => 130 | n => n, fun | 31 => 58 | 9 => 9 | 3 => 3 | 4 => 4 | 0 => 0 | n => n, fun | n => n⟩
theorem Tryz.lays194 : Go.Proofs.Lays.n194 Tryz.prog Tryz.lays194_ren := {
  mixed := by kernel_rfl
  f194 := Tryz.func130.trans (congrArg some (by kernel_rfl))
  t0 := Tryz.underlying0
  a0 := Tryz.isAgg0
  z0 := Tryz.sizeOf0
  v0 := Tryz.zeroValue0
  t3 := Tryz.underlying3
  a3 := Tryz.isAgg3
  z3 := Tryz.sizeOf3
  v3 := Tryz.zeroValue3
  t4 := Tryz.underlying4
  a4 := Tryz.isAgg4
  z4 := Tryz.sizeOf4
  v4 := Tryz.zeroValue4
  t9 := Tryz.underlying9
  a9 := Tryz.isAgg9
  z9 := Tryz.sizeOf9
  v9 := Tryz.zeroValue9
  t31 := Tryz.underlying58
  a31 := Tryz.isAgg58
  z31 := Tryz.sizeOf58
  v31 := Tryz.zeroValue58 }
open Go.RowKit Go.Lib Go.Sort in
theorem Tryz.slices_Compact_string (blk off cap : Nat) (zs : List (List UInt8)) (w : World) (hH : Holds encStr w blk off zs.toArray) (hsz : zs.length ≤ 9223372036854775807) (hcap : zs.length ≤ cap) :
    Calls Tryz.prog 130 #[.slice (some ⟨blk, off, none⟩) zs.length cap] w fun e w' => e = .returned (.slice (some ⟨blk, off, none⟩) (Lib.compact zs).length cap) ∧ ∃ q, w' = putRow encStr (Sort.ahead w q) blk off (Lib.compact zs ++ List.replicate (zs.length - (Lib.compact zs).length) []).toArray := Any.slices_Compact_string Tryz.lays194 blk off cap zs w hH hsz hcap
open Go.RowKit Go.Lib Go.Sort in
theorem Tryz.slices_Compact_string_empty (a : Option Addr) (cap : Nat) (w : World) :
    Calls Tryz.prog 130 #[.slice a 0 cap] w fun e w' => e = .returned (.slice a 0 cap) ∧ w' = w := Any.slices_Compact_string_empty Tryz.lays194 a cap w
open Go.RowKit Go.Sort in
theorem Tryz.slices_Sort_string_none (p : Option Addr) (cap : Nat) (w : World) :
    Calls Tryz.prog 129 #[.slice p 0 cap] w fun e w' => e = .returned (.tuple #[]) ∧ w' = w := Any.slices_Sort_string_none Tryz.lays190 p cap w
end Go.Proofs


set_option maxHeartbeats 2000000
namespace Go.Pv
attribute [local irreducible] PWP POps PQuiet PSem XThen XBlock RetPost InlPost
open Go.Proofs Go.RowKit
theorem itoa_ret (n : Int) (h0 : -9223372036854775808 ≤ n) (h1 : n ≤ 9223372036854775807) : Ret Tryz.prog .shared 89 [I n] (.str (Lib.itoa n)) := by
  refine ⟨⟨_, Go.Proofs.Tryz.func89, by decide, rfl⟩, fun w X args hg hX hl hargs => ?_⟩
  match args, hl with
  | [v], _ =>
    have hv := hargs 0 _ v rfl rfl
    cases hv
    have hg := pow_of hg
    refine (Go.Proofs.Tryz.strconv_Itoa n h0 h1 w hg).mono ?_
    rintro e w' ⟨rfl, k, os, rfl⟩
    exact ⟨_, rfl, Lib.below_grow w.heap.size w (Nat.le_refl _) k os, .str _⟩
theorem join_ret (xs : List Str) (sep : Str) (hN : xs.length ≤ 140737488355328) (hlen : (Lib.join xs sep).length ≤ 140737488355328) : Ret Tryz.prog .shared 115 [.sl (xs.map eS), .str sep] (.str (Lib.join xs sep)) := by
  refine ⟨⟨_, Go.Proofs.Tryz.func115, by decide, rfl⟩, fun w X args hg hX hl hargs => ?_⟩
  match args, hl with
  | [v, u], _ =>
    have hv := hargs 0 _ v rfl rfl
    have hu := hargs 1 _ u rfl rfl
    cases hu
    generalize hr : xs.map eS = rows at hv
    cases hv with
    | sl0 a cap =>
      have : xs = [] := by simpa using hr
      subst this
      refine (Go.Proofs.Tryz.strings_Join_none a cap ⟨sep.toArray⟩ w).mono ?_
      rintro e w' ⟨rfl, rfl⟩
      exact ⟨_, rfl, Below.refl _ _, .str _⟩
    | sl rows b off cap sz vals hb hs hcap hrow hcell hrep =>
      subst hr
      rw [List.length_map] at hcap ⊢
      have hsz : xs ≠ [] → sz = 1 := fun hne => by
        cases xs with
        | nil => exact absurd rfl hne
        | cons x xs => exact (hrow (eS x) (by simp)).symm
      have hmap : (xs.map fun s => (⟨s.toArray⟩ : ByteArray)).map (·.data.toList) = xs := by
        rw [List.map_map]
        exact (List.map_congr_left fun s _ => by simp).trans (List.map_id xs)
      have h := Go.Proofs.Tryz.strings_Join b off cap (xs.map fun s => ⟨s.toArray⟩) ⟨sep.toArray⟩ w (fun j x hx => by
        rw [List.getElem?_map, Option.map_eq_some_iff] at hx
        obtain ⟨s, hs, rfl⟩ := hx
        have hne : xs ≠ [] := fun e => by rw [e] at hs; simp at hs
        have h1 := hcell j 0 (eS s) (.str s) (by rw [List.getElem?_map, hs]; rfl) rfl
        have h2 := hrep j 0 (eS s) (.str s) (by rw [List.getElem?_map, hs]; rfl) rfl
        have h3 : vals j 0 = .string ⟨s.toArray⟩ := (Rep.d (E := ⟨w, _, fun _ => False, fun _ => 0, fun _ => none⟩) h2).str_inv
        rw [h3, hsz hne, Nat.mul_one, Nat.add_zero] at h1
        exact h1.1) hb.1 (by simpa using hN) (by simpa using hcap) (by rw [hmap]; simpa using hlen)
      rw [hmap, List.length_map] at h
      refine h.mono ?_
      rintro e w' ⟨rfl, hbel⟩
      exact ⟨_, rfl, hbel, .str _⟩
end Go.Pv


set_option maxHeartbeats 2000000
namespace Go.Pv
attribute [local irreducible] PWP POps PQuiet PSem XThen XBlock RetPost InlPost
open Go.Proofs
def wordOf (op : Int) : Str := ([[111, 114, 100, 101, 114], [105, 116, 101, 109], [103, 114, 111, 119, 116, 104], [99, 104, 97, 114, 103, 101], [115, 105, 103, 110], [97, 109, 101, 110, 100], [105, 110, 118, 111, 105, 99, 101], [112, 97, 121], [119, 105, 116, 104, 100, 114, 97, 119]] : List Str).getD op.toNat []
def wordL : List Str := [[111, 114, 100, 101, 114], [105, 116, 101, 109], [103, 114, 111, 119, 116, 104], [99, 104, 97, 114, 103, 101], [115, 105, 103, 110], [97, 109, 101, 110, 100], [105, 110, 118, 111, 105, 99, 101], [112, 97, 121], [119, 105, 116, 104, 100, 114, 97, 119]]
theorem words_ret : Ret Tryz.prog .fresh 64 [] (.sl (wordL.map eS)) := by
  refine Ret.of_pwp layOk mixed Go.Proofs.Tryz.func64 rfl (by decide) rfl rfl ?_
  repeat (refine stp rfl ?_ ?_;·repeat' constructor)
  apply qst;exact rfl;exact rfl;exact q_slit rfl rfl rfl rfl rfl rfl rfl rfl rfl rfl (by repeat' constructor) rfl
  repeat (refine stp rfl ?_ ?_;·repeat' constructor)
  exact end1f rfl rfl rfl trivial rfl
def Fd.out (p : SPost) (f : Fd) : Str := match f with
  | .o | .i | .s | .w => f.txt p
  | .a _ _ | .r _ _ | .l _ _ => Lib.itoa (f.num p)
def outL (p : SPost) (k : Nat) : List Str := [Lib.itoa p.day, wordOf p.op] ++ ((fdsOf p.op).take k).map (Fd.out p)
def textP (p : SPost) : Str := Lib.join (outL p (fdsOf p.op).length) [32]
theorem nDigits_le : ∀ (u : Nat), Lib.nDigits u ≤ u + 1 := fun u => by
  induction u using Nat.strongRecOn with
  | _ u ih =>
    by_cases h : u < 10
    · rw [Lib.nDigits_small h]; omega
    · rw [Lib.nDigits_big h]
      have := ih (u / 10) (by omega)
      omega
theorem itoa_len {n : Int} (h0 : -1000000000 ≤ n) (h1 : n ≤ 1000000000) : (Lib.itoa n).length ≤ 1000000010 := by
  rw [Lib.itoa]
  split
  · rw [List.length_cons, Lib.decDigits_length]
    have := nDigits_le n.natAbs
    omega
  · rw [Lib.decDigits_length]
    have := nDigits_le n.toNat
    omega
theorem lens_le {xs : List Str} {c : Nat} (h : ∀ x, x ∈ xs → x.length ≤ c) : Lib.lens xs ≤ xs.length * c := by
  unfold Lib.lens
  induction xs with
  | nil => simp
  | cons x xs ih =>
    have h1 := h x (by simp)
    have := ih fun y hy => h y (by simp [hy])
    simp only [List.map_cons, List.sum_cons, List.length_cons, Nat.add_mul, Nat.one_mul]
    omega
theorem fdsOf_lim {op : Int} {f : Fd} (h : f ∈ fdsOf op) (hi : inside op 0 8 = true) : match f with
    | .a lo hi | .r lo hi | .l lo hi => -1000000000 ≤ lo ∧ hi ≤ 1000000000
    | _ => True := by
  rcases op_cases hi with rfl | rfl | rfl | rfl | rfl | rfl | rfl | rfl | rfl <;> clear hi <;> simp [fdsOf] at h <;> rcases h with rfl | rfl | rfl | rfl <;> simp
def Fd.fine (p : SPost) (f : Fd) : Prop := match f with
    | .a _ _ | .r _ _ | .l _ _ => -1000000000 ≤ f.num p ∧ f.num p ≤ 1000000000
    | _ => (f.txt p).length ≤ 12
theorem num_lim {p : SPost} (hc : checkE p = 0) {k : Nat} {f : Fd} (hf : (fdsOf p.op)[k]? = some f) : f.fine p := by
  have h1 := checkE_op hc
  have he := fstE_zero h1.2.2 k f hf
  have hl := fdsOf_lim (List.mem_of_getElem? hf) h1.1
  have nm : ∀ s : Str, (if isName s = true then (0 : Int) else 4) = 0 → s.length ≤ 12 := fun s h => by
    by_cases hn : isName s = true
    · simp only [isName, Bool.and_eq_true, decide_eq_true_eq] at hn; omega
    · rw [if_neg hn] at h; omega
  have nb : ∀ n lo hi : Int, (if inside n lo hi = true then (0 : Int) else 2) = 0 → lo ≤ n ∧ n ≤ hi := fun n lo hi h => by
    by_cases hn : inside n lo hi = true
    · simpa [inside] using hn
    · rw [if_neg hn] at h; omega
  cases f with
  | o => exact nm _ he
  | i => exact nm _ he
  | s => exact nm _ he
  | w => exact nm _ he
  | a lo hi => have := nb _ _ _ he; have hl : _ ∧ _ := hl; exact ⟨by omega, by omega⟩
  | r lo hi => have := nb _ _ _ he; have hl : _ ∧ _ := hl; exact ⟨by omega, by omega⟩
  | l lo hi => have := nb _ _ _ he; have hl : _ ∧ _ := hl; exact ⟨by omega, by omega⟩
theorem textP_len {p : SPost} (hc : checkE p = 0) : (textP p).length ≤ 140737488355328 := by
  have h1 := checkE_op hc
  have hfl := fdsOf_len p.op
  have hd : (Lib.itoa p.day).length ≤ 1000000010 := by
    have := h1.2.1
    simp only [inside, Bool.and_eq_true, decide_eq_true_eq] at this
    exact itoa_len (by omega) (by omega)
  have hw : (wordOf p.op).length ≤ 1000000010 := by
    rcases op_cases h1.1 with h | h | h | h | h | h | h | h | h <;> rw [h] <;> decide
  have hall : ∀ x, x ∈ outL p (fdsOf p.op).length → x.length ≤ 1000000010 := by
    intro x hx
    rw [outL, List.take_length] at hx
    simp only [List.cons_append, List.nil_append, List.mem_cons, List.mem_map] at hx
    rcases hx with rfl | rfl | ⟨f, hf, rfl⟩
    · exact hd
    · exact hw
    · obtain ⟨k, hk, hfe⟩ := List.getElem_of_mem hf
      have := num_lim hc (k := k) (f := f) (by rw [← hfe]; exact List.getElem?_eq_getElem hk)
      cases f
      case a => exact itoa_len this.1 this.2
      case r => exact itoa_len this.1 this.2
      case l => exact itoa_len this.1 this.2
      all_goals (have h' : (_ : Nat) ≤ 12 := this; exact Nat.le_trans h' (by omega))
  have hll : (outL p (fdsOf p.op).length).length = 2 + (fdsOf p.op).length := by simp [outL]; omega
  have hs := lens_le hall
  rw [textP]
  generalize hL : outL p (fdsOf p.op).length = L at *
  cases L with
  | nil => simp [Lib.join_nil]
  | cons x r =>
    rw [Lib.join_length]
    simp only [List.length_cons, List.length_nil] at *
    omega
end Go.Pv


set_option maxHeartbeats 2000000
namespace Go.Pv
attribute [local irreducible] PWP POps PQuiet PSem XThen XBlock RetPost InlPost
open Go.Proofs
theorem outL_succ (p : SPost) {k : Nat} {f : Fd} (h : (fdsOf p.op)[k]? = some f) : outL p (k + 1) = outL p k ++ [f.out p] := by
  rw [outL, outL, take_snoc h, List.map_append]; simp
set_option maxRecDepth 20000 in
theorem written_ret (p : SPost) (hc : checkE p = 0) : Ret Tryz.prog .shared 56 [.agg (ePost p)] (.str (textP p)) := by
  have h1 := checkE_op hc
  have hfl := fdsOf_len p.op
  have htl : ((fdsOf p.op).map Fd.tm).length = (fdsOf p.op).length := List.length_map _
  have hday := h1.2.1
  simp only [inside, Bool.and_eq_true, decide_eq_true_eq] at hday
  have hit := itoa_ret p.day (by omega) (by omega)
  have hop := op_cases h1.1
  have hop0 : 0 ≤ p.op := by omega
  have hw : wordL[p.op.toNat]? = some (wordOf p.op) := by
    rcases hop with h | h | h | h | h | h | h | h | h <;> rw [h] <;> rfl
  have hj := join_ret (outL p (fdsOf p.op).length) [32] (by simp [outL]; omega) (textP_len hc)
  have hlims := fun (k : Nat) (f : Fd) (h : (fdsOf p.op)[k]? = some f) => num_lim hc h
  have houts := fun (k : Nat) (f : Fd) (h : (fdsOf p.op)[k]? = some f) => outL_succ p h
  rw [textP]
  have ho0 : outL p 0 = [Lib.itoa p.day, wordOf p.op] := rfl
  clear hop h1 hday hc
  generalize Lib.itoa p.day = dy at *
  generalize wordOf p.op = wd at *
  refine Ret.of_pwp layOk mixed Go.Proofs.Tryz.func56 rfl (by decide) rfl rfl ?_
  ((repeat (first | refine ps_nil ?_ | refine pq_nil ?_ | refine x_norm ?_ | refine pw_seq ?_)); refine pw_region ?_)
  refine ps_run (o_box rfl rfl rfl (by repeat' constructor) rfl ?_)
  repeat (refine stp rfl ?_ ?_;·repeat' constructor)
  refine pw_draw 8 [6, 7, 8, 9, 10, 11, 12, 13] (by decide +kernel) ?_
  repeat (refine stp rfl ?_ ?_;·repeat' constructor)
  apply qst;exact rfl;exact rfl;exact q_callP rfl (hit) rfl (by repeat' constructor) rfl rfl
  repeat (refine stp rfl ?_ ?_;·repeat' constructor)
  apply qst;exact rfl;exact rfl;exact q_callF rfl (words_ret) rfl (by repeat' constructor) rfl
  repeat (refine stp rfl ?_ ?_;·repeat' constructor)
  apply qst;exact rfl;exact rfl;exact q_idxmF rfl rfl rfl rfl rfl (by omega) hw rfl
  repeat (refine stp rfl ?_ ?_;·repeat' constructor)
  refine ps_run (o_slit 0 rfl rfl rfl rfl rfl rfl rfl rfl rfl rfl rfl (by repeat' constructor) rfl ?_)
  refine ps_v rfl trivial ?_
  refine ps_nil ?_
  ((repeat (first | refine x_norm ?_ | refine pw_seq ?_)); refine pw_regionS 0 ?_)
  refine ps_nil ?_
  refine psem_sm rfl (sm_callP ((fdsOf p.op).map Fd.tm) (fun b off => fields_tm b off p.op) rfl rfl rfl rfl rfl rfl (fdsOf_tm_ok p.op) rfl ?_)
  refine psem_ops ?_
  rw [htl]
  repeat (refine stp rfl ?_ ?_;·repeat' constructor)
  have hrow : ∀ (k : Nat) (f : Fd), (fdsOf p.op)[k]? = some f → (((fdsOf p.op).map Fd.tm).map fun r => r.map (TC.inst fun o => PV.ptr 1 1 0 o))[0 + (k : Int).toNat]? = some (f.tm.map (TC.inst fun o => PV.ptr 1 1 0 o)) := fun k f h => by
    rw [List.getElem?_map, List.getElem?_map, Int.toNat_natCast, Nat.zero_add, h]; rfl
  generalize (((fdsOf p.op).map Fd.tm).map fun r => r.map (TC.inst fun o => PV.ptr 1 1 0 o)) = rows at hrow
  generalize fdsOf p.op = fs at *
  refine pw_loop (fun k => k ≤ fs.length) (fun k => [(1, .ptr 1 1 0 0), (3, .als 14 (1 + k) 0 ((outL p k).map eS).length), (15, .als 15 1 0 fs.length), (16, I fs.length), (17, I k)]) (fun k => [(1, 1, ⟨23, 9, [ePost p], 2⟩), (14, 1 + k, ⟨9, 1, (outL p k).map eS, 0⟩), (15, 1, ⟨125, 4, rows, 2⟩)]) (fun k => fs.length - k) 0 (Nat.zero_le _) ⟨rfl, by rw [ho0]; rfl, rfl, rfl, rfl, rfl, by rw [ho0]; rfl, rfl, trivial⟩ ?_
  intro k s hk
  have hk : k ≤ fs.length := hk
  repeat (refine stp rfl ?_ ?_;·repeat' constructor)
  refine pw_cond rfl (fun h => ?_) (fun h => ?_)
  · have hlt : k < fs.length := by have := of_decide_eq_true h; omega
    clear h
    obtain ⟨f, hf⟩ := get_lt hlt
    have hr := hrow k f hf
    have hlim := hlims k f hf
    have hs := houts k f hf
    have hol : (outL p k).length ≤ 10 := by rw [outL]; simp; omega
    clear hrow hlims houts hj
    cases f
    case o =>
      repeat (refine stp rfl ?_ ?_;·repeat' constructor)
      apply qst;exact rfl;exact rfl;exact q_idxA rfl rfl rfl rfl rfl rfl rfl (by omega) (by omega)
      apply qst;exact rfl;exact rfl;exact q_ldp rfl rfl rfl hr rfl
      repeat (refine stp rfl ?_ ?_;·repeat' constructor)
      apply qst;exact rfl;exact rfl;exact q_slit rfl rfl rfl rfl rfl rfl rfl rfl rfl rfl (by repeat' constructor) rfl
      repeat (refine stp rfl ?_ ?_;·repeat' constructor)
      refine ps_run (o_app 0 rfl rfl rfl rfl rfl rfl rfl rfl rfl rfl rfl (by repeat' constructor) (by intro row hr; first | (simp at hr; subst hr; rfl) | simp at hr) rfl rfl (by simp; omega) (by simp; omega) ?_)
      repeat (refine stp rfl ?_ ?_;·repeat' constructor)
      refine ⟨k + 1, hlt, by omega, rfl, ?_, rfl, rfl, i64_next (by omega) (by omega), rfl, ?_, rfl, trivial⟩
      · rw [hs, List.map_append]; rfl
      · rw [hs, List.map_append]; rfl
    case i =>
      repeat (refine stp rfl ?_ ?_;·repeat' constructor)
      apply qst;exact rfl;exact rfl;exact q_idxA rfl rfl rfl rfl rfl rfl rfl (by omega) (by omega)
      apply qst;exact rfl;exact rfl;exact q_ldp rfl rfl rfl hr rfl
      repeat (refine stp rfl ?_ ?_;·repeat' constructor)
      apply qst;exact rfl;exact rfl;exact q_slit rfl rfl rfl rfl rfl rfl rfl rfl rfl rfl (by repeat' constructor) rfl
      repeat (refine stp rfl ?_ ?_;·repeat' constructor)
      refine ps_run (o_app 0 rfl rfl rfl rfl rfl rfl rfl rfl rfl rfl rfl (by repeat' constructor) (by intro row hr; first | (simp at hr; subst hr; rfl) | simp at hr) rfl rfl (by simp; omega) (by simp; omega) ?_)
      repeat (refine stp rfl ?_ ?_;·repeat' constructor)
      refine ⟨k + 1, hlt, by omega, rfl, ?_, rfl, rfl, i64_next (by omega) (by omega), rfl, ?_, rfl, trivial⟩
      · rw [hs, List.map_append]; rfl
      · rw [hs, List.map_append]; rfl
    case s =>
      repeat (refine stp rfl ?_ ?_;·repeat' constructor)
      apply qst;exact rfl;exact rfl;exact q_idxA rfl rfl rfl rfl rfl rfl rfl (by omega) (by omega)
      apply qst;exact rfl;exact rfl;exact q_ldp rfl rfl rfl hr rfl
      repeat (refine stp rfl ?_ ?_;·repeat' constructor)
      apply qst;exact rfl;exact rfl;exact q_slit rfl rfl rfl rfl rfl rfl rfl rfl rfl rfl (by repeat' constructor) rfl
      repeat (refine stp rfl ?_ ?_;·repeat' constructor)
      refine ps_run (o_app 0 rfl rfl rfl rfl rfl rfl rfl rfl rfl rfl rfl (by repeat' constructor) (by intro row hr; first | (simp at hr; subst hr; rfl) | simp at hr) rfl rfl (by simp; omega) (by simp; omega) ?_)
      repeat (refine stp rfl ?_ ?_;·repeat' constructor)
      refine ⟨k + 1, hlt, by omega, rfl, ?_, rfl, rfl, i64_next (by omega) (by omega), rfl, ?_, rfl, trivial⟩
      · rw [hs, List.map_append]; rfl
      · rw [hs, List.map_append]; rfl
    case w =>
      repeat (refine stp rfl ?_ ?_;·repeat' constructor)
      apply qst;exact rfl;exact rfl;exact q_idxA rfl rfl rfl rfl rfl rfl rfl (by omega) (by omega)
      apply qst;exact rfl;exact rfl;exact q_ldp rfl rfl rfl hr rfl
      repeat (refine stp rfl ?_ ?_;·repeat' constructor)
      apply qst;exact rfl;exact rfl;exact q_slit rfl rfl rfl rfl rfl rfl rfl rfl rfl rfl (by repeat' constructor) rfl
      repeat (refine stp rfl ?_ ?_;·repeat' constructor)
      refine ps_run (o_app 0 rfl rfl rfl rfl rfl rfl rfl rfl rfl rfl rfl (by repeat' constructor) (by intro row hr; first | (simp at hr; subst hr; rfl) | simp at hr) rfl rfl (by simp; omega) (by simp; omega) ?_)
      repeat (refine stp rfl ?_ ?_;·repeat' constructor)
      refine ⟨k + 1, hlt, by omega, rfl, ?_, rfl, rfl, i64_next (by omega) (by omega), rfl, ?_, rfl, trivial⟩
      · rw [hs, List.map_append]; rfl
      · rw [hs, List.map_append]; rfl
    case a lo hi =>
      have hi := itoa_ret _ (Int.le_trans (by decide) hlim.1) (Int.le_trans hlim.2 (by decide))
      repeat (refine stp rfl ?_ ?_;·repeat' constructor)
      apply qst;exact rfl;exact rfl;exact q_idxA rfl rfl rfl rfl rfl rfl rfl (by omega) (by omega)
      apply qst;exact rfl;exact rfl;exact q_ldp rfl rfl rfl hr rfl
      repeat (refine stp rfl ?_ ?_;·repeat' constructor)
      apply qst;exact rfl;exact rfl;exact q_callP rfl (hi) rfl (by repeat' constructor) rfl rfl
      repeat (refine stp rfl ?_ ?_;·repeat' constructor)
      apply qst;exact rfl;exact rfl;exact q_slit rfl rfl rfl rfl rfl rfl rfl rfl rfl rfl (by repeat' constructor) rfl
      repeat (refine stp rfl ?_ ?_;·repeat' constructor)
      refine ps_run (o_app 0 rfl rfl rfl rfl rfl rfl rfl rfl rfl rfl rfl (by repeat' constructor) (by intro row hr; first | (simp at hr; subst hr; rfl) | simp at hr) rfl rfl (by simp; omega) (by simp; omega) ?_)
      repeat (refine stp rfl ?_ ?_;·repeat' constructor)
      refine ⟨k + 1, hlt, by omega, rfl, ?_, rfl, rfl, i64_next (by omega) (by omega), rfl, ?_, rfl, trivial⟩
      · rw [hs, List.map_append]; rfl
      · rw [hs, List.map_append]; rfl
    case r lo hi =>
      have hi := itoa_ret _ (Int.le_trans (by decide) hlim.1) (Int.le_trans hlim.2 (by decide))
      repeat (refine stp rfl ?_ ?_;·repeat' constructor)
      apply qst;exact rfl;exact rfl;exact q_idxA rfl rfl rfl rfl rfl rfl rfl (by omega) (by omega)
      apply qst;exact rfl;exact rfl;exact q_ldp rfl rfl rfl hr rfl
      repeat (refine stp rfl ?_ ?_;·repeat' constructor)
      apply qst;exact rfl;exact rfl;exact q_callP rfl (hi) rfl (by repeat' constructor) rfl rfl
      repeat (refine stp rfl ?_ ?_;·repeat' constructor)
      apply qst;exact rfl;exact rfl;exact q_slit rfl rfl rfl rfl rfl rfl rfl rfl rfl rfl (by repeat' constructor) rfl
      repeat (refine stp rfl ?_ ?_;·repeat' constructor)
      refine ps_run (o_app 0 rfl rfl rfl rfl rfl rfl rfl rfl rfl rfl rfl (by repeat' constructor) (by intro row hr; first | (simp at hr; subst hr; rfl) | simp at hr) rfl rfl (by simp; omega) (by simp; omega) ?_)
      repeat (refine stp rfl ?_ ?_;·repeat' constructor)
      refine ⟨k + 1, hlt, by omega, rfl, ?_, rfl, rfl, i64_next (by omega) (by omega), rfl, ?_, rfl, trivial⟩
      · rw [hs, List.map_append]; rfl
      · rw [hs, List.map_append]; rfl
    case l lo hi =>
      have hi := itoa_ret _ (Int.le_trans (by decide) hlim.1) (Int.le_trans hlim.2 (by decide))
      repeat (refine stp rfl ?_ ?_;·repeat' constructor)
      apply qst;exact rfl;exact rfl;exact q_idxA rfl rfl rfl rfl rfl rfl rfl (by omega) (by omega)
      apply qst;exact rfl;exact rfl;exact q_ldp rfl rfl rfl hr rfl
      repeat (refine stp rfl ?_ ?_;·repeat' constructor)
      apply qst;exact rfl;exact rfl;exact q_callP rfl (hi) rfl (by repeat' constructor) rfl rfl
      repeat (refine stp rfl ?_ ?_;·repeat' constructor)
      apply qst;exact rfl;exact rfl;exact q_slit rfl rfl rfl rfl rfl rfl rfl rfl rfl rfl (by repeat' constructor) rfl
      repeat (refine stp rfl ?_ ?_;·repeat' constructor)
      refine ps_run (o_app 0 rfl rfl rfl rfl rfl rfl rfl rfl rfl rfl rfl (by repeat' constructor) (by intro row hr; first | (simp at hr; subst hr; rfl) | simp at hr) rfl rfl (by simp; omega) (by simp; omega) ?_)
      repeat (refine stp rfl ?_ ?_;·repeat' constructor)
      refine ⟨k + 1, hlt, by omega, rfl, ?_, rfl, rfl, i64_next (by omega) (by omega), rfl, ?_, rfl, trivial⟩
      · rw [hs, List.map_append]; rfl
      · rw [hs, List.map_append]; rfl
  · have hz : k = fs.length := by have := of_decide_eq_false h; omega
    subst hz
    repeat (refine stp rfl ?_ ?_;·repeat' constructor)
    apply qst;exact rfl;exact rfl;exact q_callP rfl (hj) rfl (by repeat' constructor) rfl rfl
    repeat (refine stp rfl ?_ ?_;·repeat' constructor)
    exact end1 rfl rfl rfl trivial rfl
theorem format_ret (p : SPost) (hc : checkE p = 0) : Ret Tryz.prog .shared 12 [.agg (ePost p)] (.tup [.str (textP p), I 0]) := by
  have h1 := checkPost_ret p
  have h2 := written_ret p hc
  rw [hc] at h1
  refine Ret.of_pwp layOk mixed Go.Proofs.Tryz.func12 rfl (by decide) rfl rfl ?_
  repeat (refine stp rfl ?_ ?_;·repeat' constructor)
  apply qst;exact rfl;exact rfl;exact q_callP rfl (h1) rfl (by repeat' constructor) rfl rfl
  repeat (refine stp rfl ?_ ?_;·repeat' constructor)
  apply qst;exact rfl;exact rfl;exact q_callP rfl (h2) rfl (by repeat' constructor) rfl rfl
  repeat (refine stp rfl ?_ ?_;·repeat' constructor)
  exact end2 rfl rfl rfl rfl rfl trivial trivial rfl
end Go.Pv


set_option maxHeartbeats 2000000
namespace Go.Pv
attribute [local irreducible] PWP POps PQuiet PSem XThen XBlock RetPost InlPost
open Go.Proofs
def valF (l : List SPost) (n : Int) (b : Nat) : Int := if 0 < latF l n b then (entL l (latF l n b)).amount else (entL l n).amount
theorem value_ret (l : List SPost) (hO : Ok l) (n : Int) (b : Nat) (hn : 1 ≤ n) (hnb : n ≤ b) (hb : b ≤ l.length) : Ret Tryz.prog .shared 145 [.dref (eBook l) 0, I n, I (b + 1)] (I (valF l n b)) := by
  have hl := hO.wf.len
  have hlt := latest_ret l hO n b hn hnb hb
  have hlb := latF_bounds l n b
  have he := entry_ret l n hn (by omega) hl
  have he2 := fun h => entry_ret l (latF l n b) h (by omega) hl
  rw [valF]
  generalize latF l n b = m at *
  refine Ret.of_pwp layOk mixed Go.Proofs.Tryz.func145 rfl (by decide) rfl rfl ?_
  repeat (refine stp rfl ?_ ?_;·repeat' constructor)
  apply qst;exact rfl;exact rfl;exact q_callP rfl (hlt) rfl (by repeat' constructor) rfl rfl
  repeat (refine stp rfl ?_ ?_;·repeat' constructor)
  refine pw_cond rfl (fun h => ?_) (fun h => ?_)
  · have h0 := of_decide_eq_true h
    have he2 := he2 (by omega)
    rw [if_pos h0]
    repeat (refine stp rfl ?_ ?_;·repeat' constructor)
    apply qst;exact rfl;exact rfl;exact q_call rfl (he2) rfl (by repeat' constructor) rfl
    repeat (refine stp rfl ?_ ?_;·repeat' constructor)
    exact end1i rfl rfl rfl
  · have h0 := of_decide_eq_false h
    rw [if_neg h0]
    repeat (refine stp rfl ?_ ?_;·repeat' constructor)
    apply qst;exact rfl;exact rfl;exact q_call rfl (he) rfl (by repeat' constructor) rfl
    repeat (refine stp rfl ?_ ?_;·repeat' constructor)
    exact end1i rfl rfl rfl
def exO : Str := [79, 49]
def exI : Str := [115, 104, 97, 102, 116]
def exL : List SPost := [⟨0, 0, exO, [], [73, 100, 97], [], 0, 0, 0⟩, ⟨1, 0, exO, exI, [], [], 5000, 0, 0⟩, ⟨3, 1, exO, exI, [], [97, 110, 110], 3000, 0, 0⟩, ⟨4, 1, [], [], [], [98, 111, 98], 0, 3, 0⟩, ⟨6, 3, exO, [], [], [], 0, 0, 0⟩]
theorem example_ret : Ret Tryz.prog .fresh 54 [] (.sl (exL.map ePost)) := by
  refine Ret.of_pwp layOk mixed Go.Proofs.Tryz.func54 rfl (by decide) rfl rfl ?_
  repeat (refine stp rfl ?_ ?_;·repeat' constructor)
  apply qst;exact rfl;exact rfl;exact q_slit rfl rfl rfl rfl rfl rfl rfl rfl rfl rfl (by repeat' constructor) rfl
  repeat (refine stp rfl ?_ ?_;·repeat' constructor)
  exact end1f rfl rfl rfl trivial rfl
theorem exL_acc : Acc exL := by
  have h : ∀ (l : List SPost) (p : SPost), Acc l → cleanP p = p → refusalR l p = 0 → Acc (l ++ [p]) := fun l p h1 h2 h3 => by have := h1.snoc h3; rwa [h2] at this
  have a0 : Acc ([] ++ [(⟨0, 0, exO, [], [73, 100, 97], [], 0, 0, 0⟩ : SPost)]) := h _ _ Acc.nil (by decide) (by decide)
  have a1 := h _ ⟨1, 0, exO, exI, [], [], 5000, 0, 0⟩ a0 (by decide) (by decide)
  have a2 := h _ ⟨3, 1, exO, exI, [], [97, 110, 110], 3000, 0, 0⟩ a1 (by decide) (by decide)
  have a3 := h _ ⟨4, 1, [], [], [], [98, 111, 98], 0, 3, 0⟩ a2 (by decide) (by decide)
  exact h _ ⟨6, 3, exO, [], [], [], 0, 0, 0⟩ a3 (by decide) (by decide)
theorem exText : textP ⟨3, 1, exO, exI, [], [97, 110, 110], 3000, 0, 0⟩ = [49, 32, 99, 104, 97, 114, 103, 101, 32, 79, 49, 32, 115, 104, 97, 102, 116, 32, 97, 110, 110, 32, 51, 48, 48, 48] := by decide +kernel
end Go.Pv


set_option maxHeartbeats 2000000
namespace Go.Pv
attribute [local irreducible] PWP POps PQuiet PSem XThen XBlock RetPost InlPost
open Go.Proofs
structure SAcct where
  item : Str
  est : Int
  gro : Int
  chg : Int
  sig : Int
  bil : Int
  ovr : Int
  deriving DecidableEq, Inhabited
def eAcct (a : SAcct) : List PV := [.str a.item, I a.est, I a.gro, I a.chg, I a.sig, I a.bil, I a.ovr]
def sget : List (Str × Int) → Str → Int
  | [], _ => 0
  | (d, c) :: m, k => if d = k then c else sget m k
def sput (k : Str) (v : Int) : List (Str × Int) → List (Str × Int)
  | [] => [(k, v)]
  | (d, c) :: m => if d = k then (d, v) :: m else (d, c) :: sput k v m
def eSV (e : Str × Int) : List PV := [.str e.1, I e.2]
theorem mval_sv (d : Str) : ∀ m : List (Str × Int), mval (I 0) (.str d) (m.map eSV) = I (sget m d)
  | [] => rfl
  | (e, c) :: m => by
    rw [List.map_cons, mval_cons, mval_sv d m]
    have : mhd (.str d) (eSV (e, c)) = decide (e = d) := rfl
    rw [this, sget]
    by_cases h : e = d
    · rw [if_pos h, decide_eq_true h]; rfl
    · rw [if_neg h, decide_eq_false h]; rfl
theorem mput_sv (d : Str) (v : Int) : ∀ m : List (Str × Int), mput (.str d) (I v) (m.map eSV) = (sput d v m).map eSV
  | [] => rfl
  | (e, c) :: m => by
    rw [List.map_cons, mput_cons, mput_sv d v m]
    have : mhd (.str d) (eSV (e, c)) = decide (e = d) := rfl
    rw [this, sput]
    by_cases h : e = d
    · rw [if_pos h, decide_eq_true h]; rfl
    · rw [if_neg h, decide_eq_false h]; rfl
theorem keyed_sv (m : List (Str × Int)) : keyed .str (m.map eSV) = true := by
  induction m with
  | nil => rfl
  | cons e m ih => rw [List.map_cons]; exact ih
theorem keyedG_sv (m : List (Str × Int)) : keyedG .str none (m.map eSV) = true := by
  induction m with
  | nil => rfl
  | cons e m ih => rw [List.map_cons]; exact ih
theorem sget_sput (k : Str) (v : Int) (d : Str) : ∀ m : List (Str × Int), sget (sput k v m) d = if k = d then v else sget m d
  | [] => rfl
  | (e, c) :: m => by
    have ih := sget_sput k v d m
    simp only [sput, sget]
    by_cases h : e = k
    · subst h
      rw [if_pos rfl, sget]
      by_cases h2 : e = d
      · rw [if_pos h2, if_pos h2]
      · rw [if_neg h2, if_neg h2, if_neg h2]
    · rw [if_neg h, sget, ih]
      by_cases h2 : e = d
      · subst h2; rw [if_pos rfl, if_neg (fun e => h e.symm), if_pos rfl]
      · rw [if_neg h2, if_neg h2]
def Lim (n : Int) : Prop := -1000000000 ≤ n ∧ n ≤ 1000000000
theorem clean_amount {p : SPost} (hc : checkE p = 0) : Lim (cleanP p).amount := by
  have key : ∀ (fs : List Fd) (o : SPost), Lim o.amount → (∀ f, f ∈ fs → f.fine p) → Lim (fs.foldl (fun o f => f.set p o) o).amount := by
    intro fs
    induction fs with
    | nil => intro o ho _; exact ho
    | cons f fs ih =>
      intro o ho hf
      rw [List.foldl_cons]
      refine ih _ ?_ fun g hg => hf g (by simp [hg])
      have := hf f (by simp)
      cases f <;> first | exact ho | exact this
  refine key _ _ (show Lim 0 from ⟨by decide, by decide⟩) fun f hf => ?_
  obtain ⟨k, hk, hfe⟩ := List.getElem_of_mem hf
  exact num_lim hc (k := k) (f := f) (by rw [← hfe]; exact List.getElem?_eq_getElem hk)
theorem Acc.amt {l : List SPost} (h : Acc l) : ∀ (j : Nat) p, l[j]? = some p → Lim p.amount := by
  induction h with
  | nil => intro j p h; simp at h
  | snoc _ hr ih =>
    intro j p hp
    rcases snoc_get hp with ⟨_, hp⟩ | ⟨_, rfl⟩
    · exact ih j p hp
    · exact clean_amount (refusalR_zero hr).1
theorem valF_lim {l : List SPost} (h : Acc l) (n : Int) (b : Nat) (hn : 1 ≤ n) (hnb : n ≤ b) (hb : b ≤ l.length) : Lim (valF l n b) := by
  have hlb := latF_bounds l n b
  rw [valF]
  split
  · exact h.amt _ _ (entL_at (by omega) (by omega))
  · exact h.amt _ _ (entL_at hn (by omega))
def accI (o : Str) (l : List SPost) (n : Int) : Bool := decide ((entL l n).order = o) && liveB l n
def billF (l : List SPost) (n : Int) : Int := if 0 < invF l n l.length then valF l n (invF l n l.length - 1).toNat else 0
def accS (l : List SPost) (o : Str) (n : Int) (M : List SAcct × List (Str × Int)) : List SAcct × List (Str × Int) :=
  if accI o l n = false then M
  else if (entL l n).op = 1 then (M.1 ++ [⟨(entL l n).item, valF l n l.length, 0, 0, 0, 0, 0⟩], sput (entL l n).item M.1.length M.2)
  else if (entL l n).op = 2 then
    (if sgdB l n l.length 1 = true then (M.1.modify (sget M.2 (entL l n).item).toNat (fun a => { a with gro := a.gro + valF l n l.length }), M.2) else M)
  else if (entL l n).op = 3 then
    (M.1.modify (sget M.2 (entL l n).item).toNat (fun a => { a with chg := a.chg + valF l n l.length, sig := a.sig + (if sgdB l n l.length 0 = true then valF l n l.length else 0), bil := a.bil + billF l n }), M.2)
  else M
def accK (l : List SPost) (o : Str) : Nat → List SAcct × List (Str × Int)
  | 0 => ([], [])
  | k + 1 => accS l o ((k : Int) + 1) (accK l o k)
def ovrA (a : SAcct) : SAcct := { a with ovr := max 0 (a.chg - a.est - a.gro) }
def accP (l : List SPost) (o : Str) : List SAcct := (accK l o l.length).1.map ovrA
end Go.Pv


set_option maxHeartbeats 2000000
namespace Go.Pv
attribute [local irreducible] PWP POps PQuiet PSem XThen XBlock RetPost InlPost
open Go.Proofs
abbrev TV := Str × Bool
abbrev Tb := List (Str × TV)
def eTV (v : TV) : PV := .agg [.str v.1, .bool v.2]
def eTb (e : Str × TV) : List PV := [.str e.1, eTV e.2]
def tz : TV := ([], false)
def tget : Tb → Str → TV
  | [], _ => tz
  | (d, c) :: m, k => if d = k then c else tget m k
def tset (k : Str) (v : TV) : Tb → Tb
  | [] => [(k, v)]
  | (d, c) :: m => if d = k then (d, v) :: m else (d, c) :: tset k v m
def tkeys (t : Tb) : List Str := t.map (·.1)
theorem mval_tb (d : Str) : ∀ m : Tb, mval (.agg [.str [], .bool false]) (.str d) (m.map eTb) = eTV (tget m d)
  | [] => rfl
  | (e, c) :: m => by
    rw [List.map_cons, mval_cons, mval_tb d m]
    have : mhd (.str d) (eTb (e, c)) = decide (e = d) := rfl
    rw [this, tget]
    by_cases h : e = d
    · rw [if_pos h, decide_eq_true h]; rfl
    · rw [if_neg h, decide_eq_false h]; rfl
theorem mput_tb (d : Str) (v : TV) : ∀ m : Tb, mput (.str d) (eTV v) (m.map eTb) = (tset d v m).map eTb
  | [] => rfl
  | (e, c) :: m => by
    rw [List.map_cons, mput_cons, mput_tb d v m]
    have : mhd (.str d) (eTb (e, c)) = decide (e = d) := rfl
    rw [this, tset]
    by_cases h : e = d
    · rw [if_pos h, decide_eq_true h]; rfl
    · rw [if_neg h, decide_eq_false h]; rfl
theorem keyed_tb (m : Tb) : keyed .str (m.map eTb) = true := by
  induction m with
  | nil => rfl
  | cons e m ih => rw [List.map_cons]; exact ih
theorem keyedG_tb (m : Tb) : keyedG .str none (m.map eTb) = true := by
  induction m with
  | nil => rfl
  | cons e m ih => rw [List.map_cons]; exact ih
theorem tget_tset (k : Str) (v : TV) (d : Str) : ∀ m : Tb, tget (tset k v m) d = if k = d then v else tget m d
  | [] => rfl
  | (e, c) :: m => by
    have ih := tget_tset k v d m
    simp only [tset, tget]
    by_cases h : e = k
    · subst h
      rw [if_pos rfl, tget]
      by_cases h2 : e = d
      · rw [if_pos h2, if_pos h2]
      · rw [if_neg h2, if_neg h2, if_neg h2]
    · rw [if_neg h, tget, ih]
      by_cases h2 : e = d
      · subst h2; rw [if_pos rfl, if_neg (fun e => h e.symm), if_pos rfl]
      · rw [if_neg h2, if_neg h2]
theorem tset_keys (k : Str) (v : TV) : ∀ m : Tb, tkeys (tset k v m) = if k ∈ tkeys m then tkeys m else tkeys m ++ [k]
  | [] => rfl
  | (e, c) :: m => by
    have ih := tset_keys k v m
    rw [tset]
    have hc : ∀ (a : Str) (b : TV) (m : Tb), tkeys ((a, b) :: m) = a :: tkeys m := fun _ _ _ => rfl
    by_cases h : e = k
    · subst h; rw [if_pos rfl, hc, hc, if_pos (List.mem_cons_self ..)]
    · rw [if_neg h, hc, hc, ih]
      by_cases h2 : k ∈ tkeys m
      · rw [if_pos h2, if_pos (List.mem_cons_of_mem _ h2)]
      · rw [if_neg h2, if_neg (fun h3 => (List.mem_cons.1 h3).elim (fun e => h e.symm) h2)]; rfl
theorem tset_nodup {k : Str} {v : TV} {m : Tb} (h : (tkeys m).Nodup) : (tkeys (tset k v m)).Nodup := by
  rw [tset_keys]
  split
  · exact h
  · rename_i hk
    rw [List.nodup_append]
    refine ⟨h, by simp, fun a ha b hb => ?_⟩
    simp at hb; subst hb
    intro e; subst e; exact hk ha
theorem tset_new {k : Str} {v : TV} : ∀ {m : Tb}, k ∉ tkeys m → tset k v m = m ++ [(k, v)]
  | [], _ => rfl
  | (e, c) :: m, h => by
    simp only [tkeys, List.map_cons, List.mem_cons, not_or] at h
    rw [tset, if_neg (fun e => h.1 e.symm), tset_new h.2]; rfl
def tabOf (l : List SSet) : Tb := l.foldl (fun t x => tset x.key (x.value, true) t) []
theorem tabOf_snoc (l : List SSet) (x : SSet) : tabOf (l ++ [x]) = tset x.key (x.value, true) (tabOf l) := by rw [tabOf, List.foldl_append]; rfl
def rowS (x : SSet) : Str × TV := (x.key, (x.value, true))
theorem tabOf_map {l : List SSet} (h : (l.map (·.key)).Nodup) : tabOf l = l.map rowS := by
  suffices ∀ (k : Nat), tabOf (l.take k) = (l.take k).map rowS by have := this l.length; simpa using this
  intro k
  induction k with
  | zero => rfl
  | succ k ih =>
    rcases Nat.lt_or_ge k l.length with hk | hk
    · have hx : l[k]? = some l[k] := List.getElem?_eq_getElem hk
      rw [take_snoc hx, tabOf_snoc, ih, List.map_append, tset_new]
      · rfl
      · intro hm
        simp only [tkeys, List.map_map, List.mem_map] at hm
        obtain ⟨y, hy, he⟩ := hm
        obtain ⟨i, hi, rfl⟩ := List.getElem_of_mem hy
        have hi2 : i < k := by simp at hi; omega
        rw [List.getElem_take] at he
        have q1 : i < (l.map (·.key)).length := by simp; omega
        have q2 : k < (l.map (·.key)).length := by simp; omega
        have := (List.getElem_inj (h₀ := q1) (h₁ := q2) h).1 (by simpa [rowS] using he)
        omega
    · rw [List.take_of_length_le (by omega)] at ih ⊢; exact ih
def findS : List SSet → Str → TV
  | [], _ => tz
  | x :: l, k => if x.key = k then (x.value, true) else findS l k
theorem tget_rowS (k : Str) : ∀ l : List SSet, tget (l.map rowS) k = findS l k
  | [] => rfl
  | x :: l => by rw [List.map_cons, rowS, tget, findS, tget_rowS k l]
theorem tget_tabOf {l : List SSet} (h : (l.map (·.key)).Nodup) (k : Str) : tget (tabOf l) k = findS l k := by rw [tabOf_map h, tget_rowS]
theorem tableOf_ret (l : List SSet) (hl : l.length ≤ 1000000) : Ret Tryz.prog .fresh 82 [.sl (l.map eSet)] (.mapd ((tabOf l).map eTb)) := by
  have hll : ((l.map eSet).length : Int) = l.length := by simp
  refine Ret.of_pwp layOk mixed Go.Proofs.Tryz.func82 rfl (by decide) rfl rfl ?_
  repeat (refine stp rfl ?_ ?_;·repeat' constructor)
  refine ps_run (o_mkmap rfl ?_)
  repeat (refine stp rfl ?_ ?_;·repeat' constructor)
  rw [hll]
  refine pw_loop (fun k => k ≤ l.length) (fun k => [(3, .mp 6 1), (7, .sl (l.map eSet)), (8, I l.length), (9, I k)]) (fun k => [(6, 1, ⟨152, 0, (tabOf (l.take k)).map eTb, 0⟩)]) (fun k => l.length - k) 0 (Nat.zero_le _) ⟨rfl, rfl, rfl, rfl, rfl, trivial⟩ ?_
  intro k st hk
  repeat (refine stp rfl ?_ ?_;·repeat' constructor)
  refine pw_cond rfl (fun h => ?_) (fun h => ?_)
  · have hlt : k < l.length := by simpa using h
    clear h
    obtain ⟨x, hx⟩ := get_lt hlt
    repeat (refine stp rfl ?_ ?_;·repeat' constructor)
    apply qst;exact rfl;exact rfl;exact q_idxm rfl rfl rfl rfl rfl (by omega) hx rfl
    repeat (refine stp rfl ?_ ?_;·repeat' constructor)
    refine ps_run0 (o_mset 0 rfl rfl rfl rfl rfl rfl rfl rfl rfl (keyed_tb _) rfl rfl ?_)
    repeat (refine stp rfl ?_ ?_;·repeat' constructor)
    refine ⟨k + 1, hlt, by omega, rfl, rfl, rfl, i64_next (by omega) (by omega), ?_, trivial⟩
    rw [take_snoc hx, tabOf_snoc, ← mput_tb]
    rfl
  · have hge : k = l.length := by have := of_decide_eq_false h; omega
    subst hge
    repeat (refine stp rfl ?_ ?_;·repeat' constructor)
    exact end1f rfl rfl rfl rfl (by rw [List.take_length])
end Go.Pv


set_option maxHeartbeats 2000000
namespace Go.Pv
attribute [local irreducible] PWP POps PQuiet PSem XThen XBlock RetPost InlPost
open Go.RowKit Go.Sort
section
variable {P : Program} {L : Lay} {C : Ctx} {γ : Nat → Option Nat} {s : St} {a : Act} {w w' : World}
structure Chg (w w' : World) (b : Nat) (T : TypeId) (cur : Array Value) : Prop where
  os : w'.os = w.os
  tape : w'.tape = w.tape
  output : w'.output = w.output
  size : w.heap.size ≤ w'.heap.size
  other : ∀ b', b' ≠ b → b' < w.heap.size → w'.heap[b']? = w.heap[b']?
  at_ : w'.heap[b]? = some (.cells cur T (0, 0))
theorem chg_sim (h : Sim C γ s a w) {k g b : Nat} {c c' : Cont} {cur cur' : Array Value} (ho : s.own k = (g, some c)) (hb : γ k = some b) (hh : w.heap[b]? = some (.cells cur c.ty (0, 0))) (hsz : cur'.size = cur.size)
    (hc : Chg w w' b c.ty cur') (h1 : c'.ty = c.ty) (h2 : c'.sz = c.sz) (h3 : c.rows.length ≤ c'.rows.length) (hs : SiteOk (envOf C γ (s.setOwn k g (some c')) (w.setRow b cur')) (some b) c') : Sim C γ (s.setOwn k g (some c')) a w' := by
  refine (store_sim h ho hb hh hsz h1 h2 h3 hs).ext ⟨hc.os, hc.tape, hc.output, by simpa using hc.size, fun b' hb' => ?_⟩
  have hb'' : b' < w.heap.size := by simpa using hb'
  by_cases he : b' = b
  · subst he
    rw [hc.at_, setRow_heap w b' cur cur' c.ty (0, 0) hh]
  · rw [hc.other b' he hb'', setRow_other w b b' cur' he]
theorem chg_put {α : Type} [Inhabited α] {e : α → Value} {q b : Nat} {d' : Array α} {os : Array Obj} {T : TypeId} {cur : Array Value} (hh : w.heap[b]? = some (.cells cur T (0, 0))) (hw : w' = grow (putRow e (Sort.ahead w q) b 0 d') os) : Chg w w' b T (putCells e 0 d' cur) := by
  have hlt : b < w.heap.size := (Array.getElem?_eq_some_iff.1 hh).1
  subst hw
  refine ⟨rfl, rfl, rfl, by simp, fun b' hne hb' => ?_, ?_⟩
  · rw [heap_grow_old _ _ (by simpa using hb')]
    show (w.heap.modify b _)[b']? = _
    rw [Array.getElem?_modify, if_neg (Ne.symm hne)]
  · rw [heap_grow_old _ _ (by simpa using hlt)]
    show (w.heap.modify b _)[b]? = _
    rw [Array.getElem?_modify, if_pos rfl, hh]
    rfl
theorem putCells_size {α : Type} [Inhabited α] (e : α → Value) (off : Nat) (d : Array α) (c : Array Value) : (putCells e off d c).size = c.size := by simp [putCells]
theorem putCells_take {α : Type} [Inhabited α] (e : α → Value) (d : Array α) (c : Array Value) (h : d.size ≤ c.size) : (putCells e 0 d c).toList.take d.size = d.toList.map e := by
  apply List.ext_getElem
  · simp [putCells]; omega
  intro i h1 h2
  have hi : i < d.size := by simpa using h2
  simp [putCells, hi]
def plain1 : PV → Bool
  | .int _ _ | .bool _ | .str _ => true
  | _ => false
theorem plain_val {E : Env} {c : PV} {v : Value} (h : plain1 c = true) (hr : Rep E c v) : v = scv c := by
  cases c <;> simp only [plain1, Bool.false_eq_true] at h
  · exact hr.bool_inv
  · exact hr.int_inv
  · exact hr.str_inv
theorem plain_drep {c : PV} (h : plain1 c = true) (w : World) (ok : Nat → Prop) : DRep w ok c (scv c) ∧ (scv c).oneCell' = true := by
  cases c <;> simp only [plain1, Bool.false_eq_true] at h
  · exact ⟨.bool _, rfl⟩
  · exact ⟨.int _ _, rfl⟩
  · exact ⟨.str _, rfl⟩
theorem plain_krep {E : Env} {k : Nat} {c : PV} (h : plain1 c = true) : KRep E k c (scv c) := by
  match k with
  | 0 => exact (plain_drep h _ _).1
  | 1 => exact (plain_drep h _ _).1
  | _ + 2 => exact .d (plain_drep h _ _).1
def flatV {α : Type} (enc : α → List PV) (l : List α) : List Value := l.flatMap fun x => (enc x).map scv
theorem flatV_len {α : Type} {enc : α → List PV} {sz : Nat} (h : ∀ x, (enc x).length = sz) (l : List α) : (flatV enc l).length = l.length * sz := by
  induction l with
  | nil => simp [flatV]
  | cons x l ih => simp only [flatV, List.flatMap_cons, List.length_append, List.length_map, List.length_cons, h, Nat.add_mul, Nat.one_mul] at ih ⊢; omega
theorem flatV_at {α : Type} {enc : α → List PV} {sz : Nat} (h : ∀ x, (enc x).length = sz) : ∀ (l : List α) (i j : Nat) (x : α) (c : PV), l[i]? = some x → (enc x)[j]? = some c → (flatV enc l)[i * sz + j]? = some (scv c)
  | [], i, j, x, c, h1, _ => by simp at h1
  | y :: l, 0, j, x, c, h1, h2 => by
    simp at h1; subst h1
    have hj := (List.getElem?_eq_some_iff.1 h2).1
    rw [flatV, List.flatMap_cons, List.getElem?_append_left (by simp; omega), List.getElem?_map, Nat.zero_mul, Nat.zero_add, h2]; rfl
  | y :: l, i + 1, j, x, c, h1, h2 => by
    have ih := flatV_at h l i j x c (by simpa using h1) h2
    rw [flatV, List.flatMap_cons, List.getElem?_append_right (by rw [List.length_map, h, Nat.add_mul]; omega), List.length_map, h]
    rw [show (i + 1) * sz + j - sz = i * sz + j by rw [Nat.add_mul]; omega]
    exact ih
theorem take_at {l m : List Value} {n i : Nat} {v : Value} (h : l.take n = m) (hi : m[i]? = some v) : l[i]? = some v := by
  rw [← h, List.getElem?_take] at hi
  split at hi
  · exact hi
  · cases hi
def roV (ro : Option Nat) (a : Option Addr) (cap : Nat) : Value := match ro with
  | none => .tuple #[]
  | some n => .slice a n cap
def roP (ro : Option Nat) (k g : Nat) : PV := match ro with
  | none => .tup []
  | some n => .als k g 0 n
variable [Globs]
theorem sm_inplace {α : Type} {enc : α → List PV} {l : List α} {d k g m sz kd f : Nat} {T ty : TypeId} {pos : String} {af : Array Edge} {x fop : Operand} {more : List Operand} {mv : List FuncId} {tys : Array TypeId} {K : St → Prop} (ro : Option Nat) (Q : List α → Prop)
    (hpl : ∀ x, (enc x).all plain1 = true) (hlen : ∀ x, (enc x).length = sz) (hsz : 0 < sz) (hf : s.ev fop = .clo f []) (hx : s.ev x = .als k g 0 m) (hm : m = l.length) (ho : s.own k = (g, some ⟨T, sz, l.map enc, kd⟩)) (hmore : more.map s.ev = mv.map fun f => .clo f []) (hcal : callable P f) (hro : ∀ n, ro = some n → n ≤ l.length)
    (h0 : l = [] → Q [] ∧ ∀ w : World, Globs.glob w → Calls P f (Value.slice none 0 0 :: mv.map fun f => .func (.func f) #[] #[]).toArray w fun e w' => e = .returned (roV ro none 0) ∧ Below w.heap.size w w')
    (hcall : ∀ (w : World) (b cap : Nat) (cur : Array Value), w.heap[b]? = some (.cells cur T (0, 0)) → l.length ≤ cap → l.length * sz ≤ cur.size → cur.toList.take (l.length * sz) = flatV enc l → Globs.glob w →
      Calls P f (Value.slice (some ⟨b, 0, none⟩) l.length cap :: mv.map fun f => .func (.func f) #[] #[]).toArray w fun e w' => ∃ l' cur', Q l' ∧ l'.length = l.length ∧ e = .returned (roV ro (some ⟨b, 0, none⟩) cap) ∧ Chg w w' b T cur' ∧ cur'.size = cur.size ∧ cur'.toList.take (l.length * sz) = flatV enc l')
    (h : ∀ l', Q l' → l'.length = l.length → K ((s.setOwn k g (some ⟨T, sz, l'.map enc, kd⟩)).putR d (roP ro k g))) : Sm P L s ⟨some d, .call ⟨.value fop, (x :: more).toArray, tys⟩, ty, pos, af, none⟩ K := by
  intro C a w Qp hG hs hN
  obtain ⟨γ, hs⟩ := hs
  have hfv := hs.ev fop
  rw [hf] at hfv
  obtain ⟨vs, hv, hl, _⟩ := hfv.clo_inv
  have hvs : vs = [] := List.eq_nil_of_length_eq_zero (by simpa using hl.symm)
  subst hvs
  have hmv : more.map a.eval = mv.map fun f => Value.func (.func f) #[] #[] := by
    clear h0 hcall h
    induction more generalizing mv with
    | nil => cases mv with
      | nil => rfl
      | cons f mv => simp at hmore
    | cons y more ih => cases mv with
      | nil => simp at hmore
      | cons f mv =>
        simp only [List.map_cons, List.cons.injEq] at hmore ⊢
        have hy := hs.ev y
        rw [hmore.1] at hy
        obtain ⟨vs, hv, hl, _⟩ := hy.clo_inv
        have hvs : vs = [] := List.eq_nil_of_length_eq_zero (by simpa using hl.symm)
        subst hvs
        exact ⟨hv, ih hmore.2 hN⟩
  have hxr := hs.ev x
  rw [hx] at hxr
  have hals := hs.als_at hxr ho
  unfold Oper.wp
  rw [run_call (f := f) rfl hv hcal, Oper.upon_enter]
  simp only [List.map_cons, List.append_nil, hmv]
  have hglob := hG.glob _ hs.below
  rcases hals with ⟨h1, _, h3, h4⟩ | ⟨b, cap, cur, h1, h2, h3, h4, h5, h6, h7⟩
  · have hnil : l = [] := List.eq_nil_of_length_eq_zero (by omega)
    rw [h4]
    refine ((h0 hnil).2 w hglob).mono ?_
    rintro e w' ⟨rfl, hbel⟩
    have hs' := hs.ext hbel
    have hst : s = s.setOwn k g (some ⟨T, sz, l.map enc, kd⟩) := by
      have : s.own = (s.setOwn k g (some ⟨T, sz, l.map enc, kd⟩)).own := by
        funext r
        by_cases hr : r = k
        · subst hr; rw [setOwn_same, ho]
        · rw [setOwn_ne hr]
      cases s
      simp only [St.setOwn] at this ⊢
      rw [← this]
    have hKs := h [] (h0 hnil).1 (by rw [hnil])
    rw [hnil] at hst
    rw [← hst] at hKs
    refine ⟨_, ⟨γ, hs'.put (d := some d) hN ?_⟩, hKs⟩
    cases ro with
    | none => exact .tup [] [] rfl fun i c v e => by simp at e
    | some n =>
      have hn := hro n rfl
      rw [hnil] at hn
      have hn0 : n = 0 := by simpa using hn
      subst hn0
      refine .als (by simp [envOf, ho]) fun _ l2 hl2 => ?_
      simp only [envOf, ho, Option.map_some, Option.some.injEq] at hl2
      subst hl2
      exact .inl ⟨h1, rfl, rfl, rfl⟩
  · subst hm
    rw [h2]
    simp only [Nat.zero_mul]
    have h3 : w.heap[b]? = some (.cells cur T (0, 0)) := h3
    have hz : (0 + cap) * sz = cap * sz := by rw [Nat.zero_add]
    have hcs : cur.size = cap * sz := by rw [← hz]; exact h6
    have hle : l.length * sz ≤ cur.size := by rw [hcs]; exact Nat.mul_le_mul_right _ h4
    obtain ⟨cur0, g1, _, _, g4, g5⟩ := hs.site_at ho h1 hsz
    have g1 : w.heap[b]? = some (.cells cur0 T (0, 0)) := g1
    rw [h3] at g1
    simp only [Option.some.injEq, Obj.cells.injEq, and_true] at g1
    subst g1
    have hflat : cur.toList.take (l.length * sz) = flatV enc l := by
      apply List.ext_getElem?
      intro q
      by_cases hq : q < l.length * sz
      · have hqi : q / sz < l.length := (Nat.div_lt_iff_lt_mul hsz).2 hq
        have hqj : q % sz < sz := Nat.mod_lt _ hsz
        have hqe : q / sz * sz + q % sz = q := by rw [Nat.mul_comm]; exact Nat.div_add_mod q sz
        have hx1 : l[q / sz]? = some l[q / sz] := List.getElem?_eq_getElem hqi
        have hx2 : (enc l[q / sz])[q % sz]? = some ((enc l[q / sz])[q % sz]'(by rw [hlen]; exact hqj)) := List.getElem?_eq_getElem _
        obtain ⟨v, e1, _, e3⟩ := g5 (q / sz) (q % sz) (enc l[q / sz]) _ (by rw [List.getElem?_map, hx1]; rfl) hx2
        have hpv := List.all_eq_true.1 (hpl l[q / sz]) _ (List.mem_of_getElem? hx2)
        have hv := plain_val hpv (e3.rep envOf_okfok)
        have := flatV_at hlen l (q / sz) (q % sz) _ _ hx1 hx2
        rw [hqe] at this e1
        rw [this, List.getElem?_take, if_pos hq, Array.getElem?_toList, e1, hv]
      · rw [List.getElem?_take, if_neg hq, List.getElem?_eq_none (by rw [flatV_len hlen]; omega)]
    refine (hcall w b cap cur h3 h4 hle hflat hglob).mono ?_
    rintro e w' ⟨l', cur', hQ, hl', rfl, hchg, hcz, hfl⟩
    have hsite : SiteOk (envOf C γ (s.setOwn k g (some ⟨T, sz, l'.map enc, kd⟩)) (w.setRow b cur')) (some b) ⟨T, sz, l'.map enc, kd⟩ := by
      refine ⟨(fun e => by cases e), (fun b' _ hz => by simp only at hz; omega), (fun b' _ hz => by simp only at hz; omega), fun b' hb' _ => ?_⟩
      simp at hb'; subst hb'
      refine ⟨cur', setRow_heap w b cur cur' T (0, 0) h3, hsz, by simp only [List.length_map]; rw [hl', hcz]; exact hle, fun row hr => ?_, fun i j row pv e1 e2 => ?_⟩
      · simp only [List.mem_map] at hr
        obtain ⟨y, _, rfl⟩ := hr
        exact hlen y
      · simp only [List.getElem?_map, Option.map_eq_some_iff] at e1
        obtain ⟨y, hy, rfl⟩ := e1
        have hpv := List.all_eq_true.1 (hpl y) _ (List.mem_of_getElem? e2)
        have := take_at hfl (flatV_at hlen l' i j y pv hy e2)
        exact ⟨scv pv, by rw [← Array.getElem?_toList]; exact this, (plain_drep hpv w (fun _ => True)).2, plain_krep hpv⟩
    have hsim := chg_sim (c' := ⟨T, sz, l'.map enc, kd⟩) hs ho h1 h3 hcz hchg rfl rfl (by simp [hl']) hsite
    refine ⟨_, ⟨γ, hsim.put (d := some d) hN ?_⟩, h l' hQ hl'⟩
    cases ro with
    | none => exact .tup [] [] rfl fun i c v e => by simp at e
    | some n =>
      have hn := hro n rfl
      refine .als (by simp [envOf, setOwn_same]) fun _ l2 hl2 => ?_
      simp only [envOf, setOwn_same, Option.map_some, Option.some.injEq] at hl2
      subst hl2
      exact .inr ⟨b, cap, cur', h1, by simp [roV], hchg.at_, by omega, h5, by rw [hcz]; exact h6, by simp; omega⟩
end
end Go.Pv


set_option maxHeartbeats 2000000
namespace Go.Pv
attribute [local irreducible] PWP POps PQuiet PSem XThen XBlock RetPost InlPost
open Go.Proofs Go.RowKit Go.Sort
theorem Sim.cutS {C : Ctx} {γ : Nat → Option Nat} {s : St} {a : Act} {w : World} (h : Sim C γ s a w) {k g n : Nat} {c : Cont} (ho : s.own k = (g, some c)) (hz : 0 < c.sz) : Sim C γ (s.setOwn k (g + 1) (some ⟨c.ty, c.sz, c.rows.take n, c.kind⟩)) a w := by
  have hown : ∀ k' c'', ((s.setOwn k (g + 1) (some ⟨c.ty, c.sz, c.rows.take n, c.kind⟩)).own k').2 = some c'' → ∃ c3, (s.own k').2 = some c3 := by
    intro k' c'' hc
    by_cases hk : k' = k
    · subst hk; exact ⟨c, by rw [ho]⟩
    · rw [setOwn_ne hk] at hc; exact ⟨c'', hc⟩
  have hok : ∀ b', okOf C γ s w b' → okOf C γ (s.setOwn k (g + 1) (some ⟨c.ty, c.sz, c.rows.take n, c.kind⟩)) w b' := by
    rintro b' ⟨f1, f2, f3⟩
    exact ⟨f1, f2, fun k' c'' hc => let ⟨c3, hc3⟩ := hown k' c'' hc; f3 k' c3 hc3⟩
  have hle : (envOf C γ s w).Le (envOf C γ (s.setOwn k (g + 1) (some ⟨c.ty, c.sz, c.rows.take n, c.kind⟩)) w) := by
    refine ⟨hok, fun b' hb' => ⟨hb'.1, hok b' hb'.2⟩, fun b' hb' => hb'.2, fun b' _ => rfl, fun k' => ?_, fun k' l' hg hl => ?_, fun k' l' b' cur'' _ hl hb' hh' => ⟨cur'', hh', rfl⟩⟩
    · show (s.own k').1 ≤ ((s.setOwn k (g + 1) _).own k').1
      by_cases hk : k' = k
      · subst hk; rw [setOwn_same, ho]; exact Nat.le_succ _
      · rw [setOwn_ne hk]; exact Nat.le_refl _
    · by_cases hk : k' = k
      · subst hk
        have : ((s.setOwn k' (g + 1) (some ⟨c.ty, c.sz, c.rows.take n, c.kind⟩)).own k').1 = (s.own k').1 := hg
        rw [setOwn_same, ho] at this
        simp at this
      · simp only [envOf, setOwn_ne hk] at hl
        exact ⟨l', hl, rfl, rfl, rfl, Nat.le_refl _⟩
  refine ⟨h.defers, h.size, fun r => (h.regs r).mono hle, fun k' c'' hc => ?_, fun k1 k2 c1 c2 b' e1 e2 e3 e4 => ?_, fun k' c'' b' e1 e2 => ?_, h.below, h.top, fun c v hk => (h.kept c v hk).mono hle⟩
  · by_cases hk : k' = k
    · subst hk
      rw [setOwn_same] at hc
      simp at hc; subst hc
      have hs := h.sites k' c (by rw [ho])
      refine ⟨fun hb => by simp [hs.emp hb], (fun b' _ hz' => by simp only at hz'; omega), (fun b' _ hz' => by simp only at hz'; omega), fun b' hb' _ => ?_⟩
      obtain ⟨cur, h1, h2, h3, h4, h5⟩ := hs.at_ b' hb' hz
      refine ⟨cur, h1, h2, ?_, fun row hr => h4 row (List.mem_of_mem_take hr), fun i j row pv e1 e2 => ?_⟩
      · simp only [List.length_take]
        exact Nat.le_trans (Nat.mul_le_mul_right _ (Nat.min_le_right _ _)) h3
      · simp only [List.getElem?_take] at e1
        split at e1
        · obtain ⟨v, f1, f2, f3⟩ := h5 i j row pv e1 e2
          exact ⟨v, f1, f2, f3.mono hle⟩
        · cases e1
    · rw [setOwn_ne hk] at hc
      exact (h.sites k' c'' hc).mono hle fun b' hb' => rfl
  · obtain ⟨d1, f1⟩ := hown k1 c1 e1
    obtain ⟨d2, f2⟩ := hown k2 c2 e2
    exact h.inj k1 k2 d1 d2 b' f1 f2 e3 e4
  · obtain ⟨d1, f1⟩ := hown k' c'' e1
    exact h.base k' d1 b' f1 e2
theorem Ghost.cut {s : St} {k g t n sz kd : Nat} {T : TypeId} {rows : List (List PV)} (ho : s.own k = (g, some ⟨T, sz, rows, kd⟩)) (hr : s.reg t = .als k g 0 n) (hn : n ≤ rows.length) (hz : Nat.blt 0 sz = true) :
    Ghost s ((s.setOwn k (g + 1) (some ⟨T, sz, rows.take n, kd⟩)).putR t (.als k (g + 1) 0 n)) := by
  intro C a w hX ⟨γ, h⟩
  have hz : 0 < sz := by simpa using hz
  have h' := h.cutS (n := n) ho hz
  have hals := h.als_at (by rw [← hr]; exact h.regs t) ho
  refine ⟨γ, h'.defers, h'.size, fun r => ?_, h'.sites, h'.inj, h'.base, h'.below, h'.top, h'.kept⟩
  show Rep (envOf C γ (s.setOwn k (g + 1) (some ⟨T, sz, rows.take n, kd⟩)) w) (bif Nat.beq r t then _ else _) _
  by_cases hrt : r = t
  · subst hrt
    rw [Nat.beq_refl, cond_true]
    refine .als (by simp [envOf, setOwn_same]) fun _ l hl => ?_
    simp only [envOf, setOwn_same, Option.map_some, Option.some.injEq] at hl
    subst hl
    rcases hals with ⟨h1, h2, h3, h4⟩ | ⟨b, cap, cur, h1, h2, h3, h4, h5, h6, h7⟩
    · exact .inl ⟨h1, h2, h3, h4⟩
    · exact .inr ⟨b, cap, cur, h1, h2, h3, h4, h5, h6, by simp; omega⟩
  · rw [nbeq_ne hrt, cond_false]
    exact h'.regs r
def sortS (l : List Str) : List Str := l.mergeSort fun x y => decide (x ≤ y)
def padS (l : List Str) : List Str := Lib.compact l ++ List.replicate (l.length - (Lib.compact l).length) []
theorem eS_plain (x : Str) : (eS x).all plain1 = true := rfl
theorem holds_cells {w : World} {b : Nat} {T : TypeId} {cur : Array Value} {l : List Str} (hh : w.heap[b]? = some (.cells cur T (0, 0))) (hc : cur.toList.take (l.length * 1) = flatV eS l) : Holds encStr w b 0 l.toArray := fun j hj => by
  have hj' : j < l.length := by simpa using hj
  have hx : l[j]? = some l[j] := List.getElem?_eq_getElem hj'
  have h1 := take_at hc (flatV_at (sz := 1) (fun _ => rfl) l j 0 l[j] (.str l[j]) hx rfl)
  rw [Nat.mul_one, Nat.add_zero] at h1
  refine ⟨?_, frozen_of_row w b _ cur T hh⟩
  rw [cell_of_cells hh, Nat.zero_add, ← Array.getElem?_toList, h1]
  simp [hj', scv]
theorem flat_strs (l : List Str) : flatV eS l = l.map encStr := by
  induction l with
  | nil => rfl
  | cons x l ih => rw [flatV, List.flatMap_cons, List.map_cons, ← ih]; rfl
theorem call129 : callable Tryz.prog 129 := ⟨_, Go.Proofs.Tryz.func129, by decide, rfl⟩
theorem call130 : callable Tryz.prog 130 := ⟨_, Go.Proofs.Tryz.func130, by decide, rfl⟩
section
variable {C : Ctx} {s : St} {d k g m kd : Nat} {ty : TypeId} {pos : String} {af : Array Edge} {x : Operand} {tys : Array TypeId} {K : St → Prop}
set_option maxRecDepth 20000 in
theorem sort_sm (l : List Str) (hl : l.length ≤ 1000000) (hx : s.ev x = .als k g 0 m) (hm : m = l.length) (ho : s.own k = (g, some ⟨9, 1, l.map eS, kd⟩))
    (h : K ((s.setOwn k g (some ⟨9, 1, (sortS l).map eS, kd⟩)).putR d (.tup []))) : Sm Tryz.prog lay.get s ⟨some d, .call ⟨.value (.func 129), #[x], tys⟩, ty, pos, af, none⟩ K := by
  refine sm_inplace (enc := eS) (l := l) (sz := 1) (more := []) (mv := []) none (fun l' => l' = sortS l) eS_plain (fun _ => rfl) (by decide) rfl hx hm ho rfl call129 (fun n h => by cases h) (fun hl0 => ?_) (fun w b cap cur hh h1 h2 hc hg => ?_) (fun l' hQ _ => ?_)
  · subst hl0
    refine ⟨by simp [sortS], fun w _ => (Tryz.slices_Sort_string_none none 0 w).mono ?_⟩
    rintro e w' ⟨rfl, rfl⟩
    exact ⟨rfl, Below.refl _ _⟩
  · have hb : b < w.heap.size := (Array.getElem?_eq_some_iff.1 hh).1
    refine (Tryz.slices_Sort_string b 0 cap l w (holds_cells hh hc) hb (by omega)).mono ?_
    rintro e w' ⟨rfl, n, os, hw⟩
    have hlen : (sortS l).length = l.length := by simp [sortS]
    have hchg := chg_put (T := 9) hh hw
    refine ⟨sortS l, _, rfl, hlen, rfl, hchg, putCells_size _ _ _ _, ?_⟩
    have := putCells_take encStr (sortS l).toArray cur (by simp [hlen]; omega)
    rw [List.size_toArray, hlen] at this
    rw [Nat.mul_one, flat_strs]
    exact this
  · subst hQ; exact h
theorem compact_len (l : List Str) : (Lib.compact l).length ≤ l.length := by
  rw [Lib.compact, Lib.compactUpTo, List.length_map]
  exact Nat.le_trans (List.length_filter_le _ _) (by simp)
theorem padS_len (l : List Str) : (padS l).length = l.length := by
  have := compact_len l
  simp [padS]; omega
set_option maxRecDepth 20000 in
theorem compact_sm (l : List Str) (hl : l.length ≤ 1000000) (hx : s.ev x = .als k g 0 m) (hm : m = l.length) (ho : s.own k = (g, some ⟨9, 1, l.map eS, kd⟩))
    (h : K ((s.setOwn k g (some ⟨9, 1, (padS l).map eS, kd⟩)).putR d (.als k g 0 (Lib.compact l).length))) : Sm Tryz.prog lay.get s ⟨some d, .call ⟨.value (.func 130), #[x], tys⟩, ty, pos, af, none⟩ K := by
  refine sm_inplace (enc := eS) (l := l) (sz := 1) (more := []) (mv := []) (some (Lib.compact l).length) (fun l' => l' = padS l) eS_plain (fun _ => rfl) (by decide) rfl hx hm ho rfl call130 (fun n h => by cases h; exact compact_len l) (fun hl0 => ?_) (fun w b cap cur hh h1 h2 hc hg => ?_) (fun l' hQ _ => ?_)
  · subst hl0
    refine ⟨rfl, fun w _ => (Tryz.slices_Compact_string_empty none 0 w).mono ?_⟩
    rintro e w' ⟨rfl, rfl⟩
    exact ⟨rfl, Below.refl _ _⟩
  · refine (Tryz.slices_Compact_string b 0 cap l w (holds_cells hh hc) (by omega) h1).mono ?_
    rintro e w' ⟨rfl, q, hw⟩
    have hchg := chg_put (T := 9) hh (hw.trans (Go.Sort.grow_empty _).symm)
    refine ⟨padS l, _, rfl, padS_len l, rfl, hchg, putCells_size _ _ _ _, ?_⟩
    have := putCells_take encStr (padS l).toArray cur (by simp [padS_len]; omega)
    rw [List.size_toArray, padS_len] at this
    rw [Nat.mul_one, flat_strs]
    exact this
  · subst hQ; exact h
end
end Go.Pv


set_option maxHeartbeats 2000000
namespace Go.Pv
attribute [local irreducible] PWP POps PQuiet PSem XThen XBlock RetPost InlPost
open Go.Proofs
def eMp (t : Tb) : List PV := [.mapd (t.map eTb)]
def allK (ts : List Tb) : List Str := ts.flatMap tkeys
def keysP (ts : List Tb) : List Str := Lib.compact (sortS (allK ts))
theorem sortS_perm {a b : List Str} (h : a.Perm b) : sortS a = sortS b := by
  have tr : ∀ a b c : Str, decide (a ≤ b) = true → decide (b ≤ c) = true → decide (a ≤ c) = true := fun a b c h1 h2 => by
    simp only [decide_eq_true_eq] at *; exact List.le_trans h1 h2
  have tot : ∀ a b : Str, (decide (a ≤ b) || decide (b ≤ a)) = true := fun a b => by
    simp only [Bool.or_eq_true, decide_eq_true_eq]; exact List.le_total a b
  refine List.Perm.eq_of_pairwise (le := fun x y : Str => decide (x ≤ y) = true) ?_ (List.pairwise_mergeSort tr tot a) (List.pairwise_mergeSort tr tot b) ((List.mergeSort_perm a _).trans (h.trans (List.mergeSort_perm b _).symm))
  intro x y _ _ h1 h2
  simp only [decide_eq_true_eq] at h1 h2
  exact List.le_antisymm h1 h2
theorem allK_succ {ts : List Tb} {k : Nat} {t : Tb} (h : ts[k]? = some t) : allK (ts.take (k + 1)) = allK (ts.take k) ++ tkeys t := by
  rw [allK, take_snoc h, List.flatMap_append]; simp [allK]
theorem allK_le (ts : List Tb) (k : Nat) : (allK (ts.take k)).length ≤ (allK ts).length := by
  have : allK ts = allK (ts.take k) ++ allK (ts.drop k) := by rw [allK, allK, allK, ← List.flatMap_append, List.take_append_drop]
  rw [this, List.length_append]; omega
theorem cons_erase {α : Type} : ∀ {l : List α} {i : Nat} {e : α}, l[i]? = some e → (e :: l.eraseIdx i).Perm l
  | [], _, _, h => by simp at h
  | x :: l, 0, e, h => by simp at h; subst h; exact .refl _
  | x :: l, i + 1, e, h => by
    rw [List.eraseIdx_cons_succ]
    exact (List.Perm.swap x e _).trans ((cons_erase (by simpa using h)).cons x)
theorem perm_pick {α β : Type} {f : α → β} {acc : List β} {rem : List α} {i : Nat} {e : α} (h : rem[i]? = some e) : (acc ++ [f e] ++ (rem.eraseIdx i).map f).Perm (acc ++ rem.map f) := by
  rw [List.append_assoc]
  refine List.Perm.append_left acc ?_
  show (f e :: (rem.eraseIdx i).map f).Perm _
  rw [← List.map_cons]
  refine List.Perm.map f ?_
  exact cons_erase h
set_option maxRecDepth 20000 in
theorem keys_ret (ts : List Tb) (hn : ts.length ≤ 100) (hb : (allK ts).length ≤ 1000000) : Ret Tryz.prog .fresh 83 [.sl (ts.map eMp)] (.sl ((keysP ts).map eS)) := by
  have hll : ((ts.map eMp).length : Int) = ts.length := by simp
  refine Ret.of_pwp layOk mixed Go.Proofs.Tryz.func83 rfl (by decide) rfl rfl ?_
  ((repeat (first | refine ps_nil ?_ | refine pq_nil ?_ | refine x_norm ?_ | refine pw_seq ?_)); refine pw_region ?_)
  refine ps_v rfl trivial ?_
  ((repeat (first | refine ps_nil ?_ | refine pq_nil ?_ | refine x_norm ?_ | refine pw_seq ?_)); refine pw_region ?_)
  (first | refine ps_run (o_nilm 9 1 0 rfl rfl ?_) | refine ps_run (o_nila 9 1 0 rfl rfl ?_))
  repeat (refine stp rfl ?_ ?_;·repeat' constructor)
  rw [hll]
  refine pw_loop (fun q : Nat × List Str => q.1 ≤ ts.length ∧ q.2.Perm (allK (ts.take q.1))) (fun q => [(3, .als 3 (1 + q.2.length) 0 (q.2.map eS).length), (7, .sl (ts.map eMp)), (8, I ts.length), (9, I q.1)])
    (fun q => [(3, 1 + q.2.length, ⟨9, 1, q.2.map eS, 0⟩)]) (fun q => ts.length - q.1) (0, []) ⟨Nat.zero_le _, .refl _⟩ ⟨rfl, rfl, rfl, rfl, rfl, trivial⟩ ?_
  rintro ⟨k, acc⟩ s ⟨hk, hp⟩
  dsimp only at hk hp ⊢
  repeat (refine stp rfl ?_ ?_;·repeat' constructor)
  refine pw_cond rfl (fun h => ?_) (fun h => ?_)
  · have hlt : k < ts.length := by have := of_decide_eq_true h; omega
    clear h
    obtain ⟨t, ht⟩ := get_lt hlt
    have hle := allK_le ts (k + 1)
    repeat (refine stp rfl ?_ ?_;·repeat' constructor)
    apply qst;exact rfl;exact rfl;exact q_idxm rfl rfl rfl rfl rfl (by omega) ht rfl
    repeat (refine stp rfl ?_ ?_;·repeat' constructor)
    refine ps_run (o_range rfl rfl rfl rfl ?_)
    repeat (refine stp rfl ?_ ?_;·repeat' constructor)
    refine pw_loop (fun q : PV × Tb × List Str => (q.2.2 ++ q.2.1.map (·.1)).Perm (allK (ts.take (k + 1)))) (fun q => [(3, .als 3 (1 + q.2.2.length) 0 (q.2.2.map eS).length), (7, .sl (ts.map eMp)), (8, I ts.length), (9, I k), (14, .mi 14 ((s.own 14).1 + 1))])
      (fun q => [(3, 1 + q.2.2.length, ⟨9, 1, q.2.2.map eS, 0⟩), (14, (s.own 14).1 + 1, ⟨152, 0, [q.1 :: q.2.1.map (fun e => PV.agg (eTb e))], 3⟩)]) (fun q => q.2.1.length) (.nil, t, acc) ?_
      ⟨rfl, rfl, rfl, rfl, rfl, rfl, ?_, trivial⟩ ?_
    · show (acc ++ t.map (·.1)).Perm _
      rw [allK_succ ht]
      exact List.Perm.append_right _ hp
    · show ((s.own 14).1 + 1, some (Cont.mk 152 0 [PV.nil :: (t.map eTb).map PV.agg] 3)) = _
      rw [List.map_map]; rfl
    rintro ⟨last, rem, acc'⟩ s' hrem
    dsimp only at hrem ⊢
    have hlen := hrem.length_eq
    rw [List.length_append, List.length_map] at hlen
    ((repeat (first | refine ps_nil ?_ | refine pq_nil ?_ | refine x_norm ?_ | refine pw_seq ?_)); refine pw_region ?_)
    refine ps_run (o_next rfl rfl (fun h0 => ?_) (fun i ck cv hi => ?_))
    · have hnil : rem = [] := by simpa using h0
      subst hnil
      rw [List.map_nil, List.append_nil] at hrem
      repeat (refine stp rfl ?_ ?_;·repeat' constructor)
      refine ⟨(k + 1, acc'), ⟨hlt, hrem⟩, ?_, rfl, rfl, rfl, i64_next (by omega) (by omega), rfl, trivial⟩
      show ts.length - (k + 1) < ts.length - k
      omega
    · obtain ⟨e, hei, hee⟩ : ∃ e, rem[i]? = some e ∧ eTb e = [ck, cv] := by
        rw [List.getElem?_map] at hi
        cases hq : rem[i]? with
        | none => rw [hq] at hi; simp at hi
        | some e => rw [hq] at hi; simp at hi; exact ⟨e, rfl, hi⟩
      have h1 : ck = .str e.1 := by simp [eTb] at hee; exact hee.1.symm
      have h2 : cv = eTV e.2 := by simp [eTb] at hee; exact hee.2.symm
      subst h1; subst h2
      have hlen' := (List.getElem?_eq_some_iff.1 hei).1
      repeat (refine stp rfl ?_ ?_;·repeat' constructor)
      refine ps_q (q_entry rfl rfl) ?_
      repeat (refine stp rfl ?_ ?_;·repeat' constructor)
      apply qst;exact rfl;exact rfl;exact q_slit rfl rfl rfl rfl rfl rfl rfl rfl rfl rfl (by repeat' constructor) rfl
      repeat (refine stp rfl ?_ ?_;·repeat' constructor)
      refine ps_run (o_app 0 rfl rfl rfl rfl rfl rfl rfl rfl rfl rfl rfl (by repeat' constructor) (by intro row hr; first | (simp at hr; subst hr; rfl) | simp at hr) rfl rfl (by simp; omega) (by simp; omega) ?_)
      repeat (refine stp rfl ?_ ?_;·repeat' constructor)
      refine ⟨(.agg (eTb e), rem.eraseIdx i, acc' ++ [e.1]), ?_, ?_, ?_, rfl, rfl, rfl, rfl, ?_, ?_, trivial⟩
      · exact (perm_pick (f := fun e : Str × TV => e.1) hei).trans hrem
      · show (rem.eraseIdx i).length < rem.length
        rw [List.length_eraseIdx, if_pos hlen']; omega
      · exact als_snoc eS 3 1 acc' e.1
      · exact cont_snoc eS 1 9 1 0 acc' e.1
      · refine Eq.trans (b := ((s.own 14).1 + 1, some (Cont.mk 152 0 [PV.agg (eTb e) :: (rem.map (fun e => PV.agg (eTb e))).eraseIdx i] 3))) rfl ?_
        rw [← Go.ChangeMaps.map_eraseIdx]
  · have hge : k = ts.length := by have := of_decide_eq_false h; omega
    subst hge
    clear h
    rw [List.take_length] at hp
    have hs : sortS acc = sortS (allK ts) := sortS_perm hp
    have hal : acc.length ≤ 1000000 := by rw [hp.length_eq]; exact hb
    have hsl : (sortS acc).length ≤ 1000000 := by rw [sortS, List.length_mergeSort]; exact hal
    repeat (first | refine pw_exit ?_ | refine pw_skip ?_ | refine x_norm ?_ | refine x_exit ?_ | refine xb_norm ?_ | refine xb_here ?_ | refine xb_away rfl ?_)
    ((repeat (first | refine x_norm ?_ | refine pw_seq ?_)); refine pw_regionS 1 ?_)
    refine ps_v rfl trivial ?_
    refine ps_nil ?_
    refine psem_sm rfl (sort_sm acc hal rfl (by simp) rfl ?_)
    refine psem_ops ?_
    refine ps_nil ?_
    repeat (first | refine pw_exit ?_ | refine pw_skip ?_ | refine x_norm ?_ | refine x_exit ?_ | refine xb_norm ?_ | refine xb_here ?_ | refine xb_away rfl ?_)
    ((repeat (first | refine x_norm ?_ | refine pw_seq ?_)); refine pw_regionS 1 ?_)
    refine ps_v rfl trivial ?_
    refine ps_nil ?_
    refine psem_sm rfl (compact_sm (sortS acc) hsl rfl (by simp [sortS]) rfl ?_)
    refine psem_ops ?_
    refine ps_v rfl trivial ?_
    refine ps_nil ?_
    refine x_norm ?_
    refine pw_ghost (Ghost.cut (k := 3) (t := 2) (rows := (padS (sortS acc)).map eS) rfl rfl (by rw [List.length_map, padS_len]; exact compact_len _) rfl) ?_
    have hc : ((padS (sortS acc)).map eS).take (Lib.compact (sortS acc)).length = (keysP ts).map eS := by
      rw [← List.map_take, padS, List.take_left, hs]; rfl
    rw [hc]
    repeat (refine stp rfl ?_ ?_;·repeat' constructor)
    exact end1f rfl rfl rfl ⟨rfl, rfl, by rw [List.length_map, keysP, ← hs]⟩ rfl
end Go.Pv


namespace Go.Proofs
open Go.Shelf
def Tryz.sortSet_ren : Go.Shelf.Ren := ⟨fun | 6 => 131 | 15 => 166 | 14 => 167 | 28 => 197 | 29 => 198 | 20 => 199 | 21 => 200 | 22 => 201 | 23 => 202 | 24 => 203 | 25 => 204 | 26 => 205 | 27 => 206 | 46 => 225 | 47 => 220 | 48 => 221 | 49 => 226 | 50 => 227 | 57 => 233 | n => n, fun | 22 => 56 | 24 => 149 | 25 => 202 | 3 => 3 | 39 => 227 | 0 => 0 | 53 => 252 | 55 => 237 | 4 => 4 | 46 => 246 | 45 => 245 | 50 => 126 | 5 => 5 | 9 => 9 | 66 => 276 | 70 => 123 | 76 => 286 | 77 => 287 | n => n, fun | n => n⟩
theorem Tryz.sortSet : Go.Proofs.SlLaysF0.n6 Tryz.prog Tryz.sortSet_ren := {
  mixed := by kernel_rfl
  f6 := ⟨Tryz.f131.name, by decide, Tryz.func131.trans (congrArg some (by kernel_rfl))⟩
  f14 := ⟨Tryz.f167.name, by decide, Tryz.func167.trans (congrArg some (by kernel_rfl))⟩
  f15 := Tryz.func166.trans (congrArg some (by kernel_rfl))
  f20 := ⟨Tryz.f199.name, by decide, Tryz.func199.trans (congrArg some (by kernel_rfl))⟩
  f21 := ⟨Tryz.f200.name, by decide, Tryz.func200.trans (congrArg some (by kernel_rfl))⟩
  f22 := ⟨Tryz.f201.name, by decide, Tryz.func201.trans (congrArg some (by kernel_rfl))⟩
  f23 := ⟨Tryz.f202.name, by decide, Tryz.func202.trans (congrArg some (by kernel_rfl))⟩
  f24 := ⟨Tryz.f203.name, by decide, Tryz.func203.trans (congrArg some (by kernel_rfl))⟩
  f25 := ⟨Tryz.f204.name, by decide, Tryz.func204.trans (congrArg some (by kernel_rfl))⟩
  f26 := ⟨Tryz.f205.name, by decide, Tryz.func205.trans (congrArg some (by kernel_rfl))⟩
  f27 := ⟨Tryz.f206.name, by decide, Tryz.func206.trans (congrArg some (by kernel_rfl))⟩
  f28 := Tryz.func197.trans (congrArg some (by kernel_rfl))
  f29 := Tryz.func198.trans (congrArg some (by kernel_rfl))
  f46 := ⟨Tryz.f225.name, by decide, Tryz.func225.trans (congrArg some (by kernel_rfl))⟩
  f47 := Tryz.func220.trans (congrArg some (by kernel_rfl))
  f48 := Tryz.func221.trans (congrArg some (by kernel_rfl))
  f49 := ⟨Tryz.f226.name, by decide, Tryz.func226.trans (congrArg some (by kernel_rfl))⟩
  f50 := ⟨Tryz.f227.name, by decide, Tryz.func227.trans (congrArg some (by kernel_rfl))⟩
  f57 := ⟨Tryz.f233.name, by decide, Tryz.func233.trans (congrArg some (by kernel_rfl))⟩
  t0 := Tryz.underlying0
  a0 := Tryz.isAgg0
  z0 := Tryz.sizeOf0
  v0 := Tryz.zeroValue0
  t3 := Tryz.underlying3
  a3 := Tryz.isAgg3
  z3 := Tryz.sizeOf3
  v3 := Tryz.zeroValue3
  t4 := Tryz.underlying4
  a4 := Tryz.isAgg4
  z4 := Tryz.sizeOf4
  v4 := Tryz.zeroValue4
  t5 := Tryz.underlying5
  a5 := Tryz.isAgg5
  z5 := Tryz.sizeOf5
  v5 := Tryz.zeroValue5
  t9 := Tryz.underlying9
  a9 := Tryz.isAgg9
  z9 := Tryz.sizeOf9
  v9 := Tryz.zeroValue9
  t22 := Tryz.underlying56
  a22 := Tryz.isAgg56
  z22 := Tryz.sizeOf56
  v22 := Tryz.zeroValue56
  t25 := Tryz.underlying202
  a25 := Tryz.isAgg202
  z25 := Tryz.sizeOf202
  v25 := Tryz.zeroValue202
  t39 := Tryz.underlying227
  a39 := Tryz.isAgg227
  z39 := Tryz.sizeOf227
  v39 := Tryz.zeroValue227
  t45 := Tryz.underlying245
  a45 := Tryz.isAgg245
  z45 := Tryz.sizeOf245
  v45 := Tryz.zeroValue245
  t46 := Tryz.underlying246
  a46 := Tryz.isAgg246
  z46 := Tryz.sizeOf246
  v46 := Tryz.zeroValue246
  t50 := Tryz.underlying126
  a50 := Tryz.isAgg126
  z50 := Tryz.sizeOf126
  v50 := Tryz.zeroValue126
  t53 := Tryz.underlying252
  a53 := Tryz.isAgg252
  z53 := Tryz.sizeOf252
  v53 := Tryz.zeroValue252
  t55 := Tryz.underlying237
  a55 := Tryz.isAgg237
  z55 := Tryz.sizeOf237
  v55 := Tryz.zeroValue237
  t66 := Tryz.underlying276
  a66 := Tryz.isAgg276
  z66 := Tryz.sizeOf276
  v66 := Tryz.zeroValue276
  t70 := Tryz.underlying123
  a70 := Tryz.isAgg123
  z70 := Tryz.sizeOf123
  v70 := Tryz.zeroValue123
  t76 := Tryz.underlying286
  a76 := Tryz.isAgg286
  z76 := Tryz.sizeOf286
  v76 := Tryz.zeroValue286
  t77 := Tryz.underlying287
  a77 := Tryz.isAgg287
  z77 := Tryz.sizeOf287
  v77 := Tryz.zeroValue287 }
end Go.Proofs


set_option maxHeartbeats 2000000
namespace Go.Pv
attribute [local irreducible] PWP POps PQuiet PSem XThen XBlock RetPost InlPost
open Go.Proofs Go.RowKit Go.Sort
def encSet (x : SSet) : List Value := (eSet x).map scv
def keyCmp (x y : SSet) : Int := Lib.compareBytes x.key y.key
theorem cmp_lt : ∀ (a b : Str), (Lib.compareBytes a b < 0) ↔ a < b
  | [], [] => by simp [Lib.compareBytes]
  | [], _ :: _ => by simp [Lib.compareBytes]
  | _ :: _, [] => by simp [Lib.compareBytes]
  | a :: l, b :: m => by
    rw [Lib.compareBytes, List.cons_lt_cons_iff, ← cmp_lt l m]
    by_cases h1 : a < b
    · simp [h1]
    · by_cases h2 : b < a
      · rw [if_neg h1, if_pos h2]
        have hne : ¬ a = b := fun e => by subst e; exact h1 h2
        simp [h1, hne]
      · rw [if_neg h1, if_neg h2]
        have he : a = b := UInt8.le_antisymm (UInt8.not_lt.1 h2) (UInt8.not_lt.1 h1)
        simp [he]
theorem ltOf_key (x y : SSet) : ltOf keyCmp x y = decide (x.key < y.key) := by
  rw [ltOf, keyCmp, decide_eq_decide]
  exact cmp_lt _ _
theorem swo_key : SWO (ltOf keyCmp) where
  irrefl x := by rw [ltOf_key]; simp
  trans x y z h1 h2 := by rw [ltOf_key] at *; simp only [decide_eq_true_eq] at *; exact List.lt_trans h1 h2
  ntrans x y z h1 h2 := by rw [ltOf_key] at *; simp only [decide_eq_false_iff_not, List.not_lt] at *; exact List.le_trans h2 h1
set_option maxHeartbeats 1000000 in
theorem cmp_clo (x y : SSet) (W : World) : Calls Tryz.prog 132 #[.agg #[.string ⟨x.key.toArray⟩, .string ⟨x.value.toArray⟩], .agg #[.string ⟨y.key.toArray⟩, .string ⟨y.value.toArray⟩]] W fun e w' => e = .returned (.int .i64 (keyCmp x y)) ∧ ∃ q os', w' = grow (W.drewN q) os' := by
  have hcon : ∀ W', Calls Tryz.prog 133 #[.string ⟨x.key.toArray⟩, .string ⟨y.key.toArray⟩] W' fun e w' => e = .returned (.int .i64 (keyCmp x y)) ∧ w' = W' := fun W' => Tryz.strings_Compare ⟨x.key.toArray⟩ ⟨y.key.toArray⟩ W'
  generalize keyCmp x y = r at hcon ⊢
  go_enter Tryz.func132, Tryz.ntmps132
  go_wp2_with (go_at_call 133; refine (hcon _).mono ?_; rintro e w' ⟨rfl, rfl⟩)
  go_ret
  exact ⟨rfl, 0, _, by rw [alloc_eq_grow, alloc_eq_grow, grow_grow]; rfl⟩
theorem cmpLays_key (blk off size : Nat) (w : World) : CmpLays Tryz.prog 132 #[] encSet 2 keyCmp blk off size w := fun _ _ _ _ x y => cmp_clo x y _
end Go.Pv


set_option maxHeartbeats 2000000
namespace Go.Pv
attribute [local irreducible] PWP POps PQuiet PSem XThen XBlock RetPost InlPost
open Go.Proofs Go.RowKit Go.Sort
theorem flatK_eq (l : List SSet) : (flatK encSet 2 l.toArray).toList = flatV eSet l := by
  apply List.ext_getElem?
  intro q
  have hsz : (flatK encSet 2 l.toArray).toList.length = l.length * 2 := by simp
  have hfl : (flatV eSet l).length = l.length * 2 := flatV_len (enc := eSet) (sz := 2) (fun _ => rfl) l
  by_cases hq : q < l.length * 2
  · have hqi : q / 2 < l.length := by omega
    have hqj : q % 2 < 2 := by omega
    have hx : l[q / 2]? = some l[q / 2] := List.getElem?_eq_getElem hqi
    have hc : (eSet l[q / 2])[q % 2]? = some ((eSet l[q / 2])[q % 2]'hqj) := List.getElem?_eq_getElem _
    have h1 := flatV_at (sz := 2) (fun _ => rfl) l (q / 2) (q % 2) _ _ hx hc
    rw [show q / 2 * 2 + q % 2 = q by omega] at h1
    rw [h1, List.getElem?_eq_getElem (by rw [hsz]; exact hq)]
    congr 1
    have h2 := get_flatK encSet 2 l.toArray q (by simpa using hq)
    rw [getElem!_pos (flatK encSet 2 l.toArray) q (by simpa using hq)] at h2
    rw [Array.getElem_toList, h2]
    have h3 : l.toArray[q / 2]! = l[q / 2] := by rw [getElem!_pos _ _ (by simpa using hqi)]; simp
    have hqe : q % 2 < (encSet l[q / 2]).length := hqj
    rw [h3, getElem!_pos (encSet l[q / 2]) (q % 2) hqe]
    simp only [encSet, List.getElem_map]
    rfl
  · rw [List.getElem?_eq_none (by omega), List.getElem?_eq_none (by omega)]
theorem holds_sets {w : World} {b : Nat} {T : TypeId} {cur : Array Value} {l : List SSet} (hh : w.heap[b]? = some (.cells cur T (0, 0))) (hc : cur.toList.take (l.length * 2) = flatV eSet l) : HoldsK encSet 2 w b 0 l.toArray := fun j hj => by
  have hj' : j < l.length * 2 := by simpa using hj
  have hx : (flatV eSet l)[j]? = some ((flatV eSet l)[j]'(by rw [flatV_len (enc := eSet) (sz := 2) (fun _ => rfl)]; exact hj')) := List.getElem?_eq_getElem _
  have h1 := take_at hc hx
  refine ⟨?_, frozen_of_row w b _ cur T hh⟩
  rw [cell_of_cells hh, Nat.zero_add, ← Array.getElem?_toList, h1, getElem!_pos (flatK encSet 2 l.toArray) j hj]
  congr 1
  have := flatK_eq l
  rw [← Array.getElem_toList]
  simp only [this]
  rfl
theorem call131 : callable Tryz.prog 131 := ⟨_, Go.Proofs.Tryz.func131, by decide, rfl⟩
theorem eSet_plain (x : SSet) : (eSet x).all plain1 = true := rfl
def ordS (l : List SSet) : Prop := l.Pairwise fun a b => a.key ≤ b.key
section
variable {s : St} {d k g m kd : Nat} {ty : TypeId} {pos : String} {af : Array Edge} {x : Operand} {tys : Array TypeId} {K : St → Prop}
set_option maxRecDepth 20000 in
theorem sortF_sm (l : List SSet) (hl : l.length ≤ 1000000) (hx : s.ev x = .als k g 0 m) (hm : m = l.length) (ho : s.own k = (g, some ⟨149, 2, l.map eSet, kd⟩))
    (h : ∀ l' : List SSet, l'.Perm l → ordS l' → K ((s.setOwn k g (some ⟨149, 2, l'.map eSet, kd⟩)).putR d (.tup []))) : Sm Tryz.prog lay.get s ⟨some d, .call ⟨.value (.func 131), #[x, .func 132], tys⟩, ty, pos, af, none⟩ K := by
  refine sm_inplace (enc := eSet) (l := l) (sz := 2) (more := [.func 132]) (mv := [132]) none (fun l' => l'.Perm l ∧ ordS l') eSet_plain (fun _ => rfl) (by decide) rfl hx hm ho rfl call131 (fun n h => by cases h) (fun hl0 => ?_) (fun w b cap cur hh h1 h2 hc hg => ?_) (fun l' hQ _ => h l' hQ.1 hQ.2)
  · subst hl0
    refine ⟨⟨.refl _, .nil⟩, fun w _ => (AnyF.slices_SortFunc_none Tryz.sortSet none 0 (.func (.func 132) #[] #[]) w).mono ?_⟩
    rintro e w' ⟨rfl, rfl⟩
    exact ⟨rfl, Below.refl _ _⟩
  · have hb : b < w.heap.size := (Array.getElem?_eq_some_iff.1 hh).1
    have eg : ∀ args w, (callFunc 132 args).run Tryz.prog w = .ok (.enter 132 args) w := enters_of Tryz.func132 (by kernel_rfl) rfl
    have hcon := AnyQ.slices_SortFunc Tryz.sortSet 2 Tryz.isAgg149 Tryz.sizeOf149 encSet (fun _ => rfl) (fun x v hv => by simp [encSet, eSet, scv] at hv; rcases hv with rfl | rfl <;> rfl) keyCmp swo_key 132 #[] b 0 cap l.toArray w eg (cmpLays_key b 0 l.toArray.size w) (holds_sets hh hc) hb (by simp; omega)
    refine hcon.mono ?_
    rintro e w' ⟨rfl, d', n, os, hp, hs, hw⟩
    have hlen : d'.toList.length = l.length := by simpa using hp.1
    have hd : d'.size = l.length := by simpa using hlen
    have hchg := chg_put (T := 149) (e := id) hh hw
    refine ⟨d'.toList, _, ⟨?_, ?_⟩, hlen, rfl, hchg, putCells_size _ _ _ _, ?_⟩
    · have := hp.2.2
      rw [show l.toArray.size = l.length from rfl, Array.extract_eq_self_of_le (by omega : d'.size ≤ l.length), Array.extract_eq_self_of_le (by simp : l.toArray.size ≤ l.length)] at this
      simpa using this
    · refine List.pairwise_iff_getElem.2 fun i j hi hj hij => ?_
      have := hs i j (Nat.zero_le _) hij (by simp at hj ⊢; omega)
      rw [ltOf_key, decide_eq_false_iff_not, List.not_lt] at this
      rw [getElem!_pos _ _ (by simpa using hi), getElem!_pos _ _ (by simpa using hj)] at this
      simpa using this
    · have := putCells_take id (flatK encSet 2 d') cur (by simp; omega)
      have hd2 : d'.toList.toArray = d' := rfl
      rw [size_flatK, hd, ← hd2, flatK_eq, List.map_id] at this
      rw [hd2] at this
      exact this
end
end Go.Pv


set_option maxHeartbeats 2000000
namespace Go.Pv
attribute [local irreducible] PWP POps PQuiet PSem XThen XBlock RetPost InlPost
open Go.Proofs
def toS (e : Str × TV) : SSet := ⟨e.1, e.2.1⟩
def selT (t : Tb) : List SSet := (t.filter (·.2.2)).map toS
def listP (t : Tb) : List SSet := (selT t).mergeSort fun a b => decide (a.key ≤ b.key)
theorem ordS_uniq {a b : List SSet} (h : a.Perm b) (hn : (b.map (·.key)).Nodup) (h1 : ordS a) (h2 : ordS b) : a = b := by
  refine List.Perm.eq_of_pairwise (le := fun x y : SSet => x.key ≤ y.key) ?_ h1 h2 h
  intro x y hx hy h3 h4
  have hk := List.le_antisymm h3 h4
  have hx' := h.mem_iff.1 hx
  obtain ⟨i, hi, rfl⟩ := List.getElem_of_mem hx'
  obtain ⟨j, hj, rfl⟩ := List.getElem_of_mem hy
  have q1 : i < (b.map (·.key)).length := by simp; omega
  have q2 : j < (b.map (·.key)).length := by simp; omega
  have := (List.getElem_inj (h₀ := q1) (h₁ := q2) hn).1 (by simpa using hk)
  subst this; rfl
theorem listP_ord (t : Tb) : ordS (listP t) := by
  have tr : ∀ a b c : SSet, decide (a.key ≤ b.key) = true → decide (b.key ≤ c.key) = true → decide (a.key ≤ c.key) = true := fun a b c h1 h2 => by
    simp only [decide_eq_true_eq] at *; exact List.le_trans h1 h2
  have tot : ∀ a b : SSet, (decide (a.key ≤ b.key) || decide (b.key ≤ a.key)) = true := fun a b => by
    simp only [Bool.or_eq_true, decide_eq_true_eq]; exact List.le_total a.key b.key
  exact (List.pairwise_mergeSort tr tot (selT t)).imp fun h => by simpa using h
theorem listP_perm (t : Tb) : (listP t).Perm (selT t) := List.mergeSort_perm _ _
theorem selT_keys {t : Tb} (h : (tkeys t).Nodup) : ((selT t).map (·.key)).Nodup := by
  have : (selT t).map (·.key) = (t.filter (·.2.2)).map (·.1) := by rw [selT, List.map_map]; rfl
  rw [this]
  exact List.Nodup.sublist (List.Sublist.map _ List.filter_sublist) h
theorem listP_uniq {t : Tb} {l : List SSet} (h : (tkeys t).Nodup) (hp : l.Perm (selT t)) (ho : ordS l) : l = listP t := by
  refine ordS_uniq (hp.trans (listP_perm t).symm) ?_ ho (listP_ord t)
  exact ((listP_perm t).map _).nodup_iff.2 (selT_keys h)
theorem selT_len (t : Tb) : (selT t).length ≤ t.length := by rw [selT, List.length_map]; exact List.length_filter_le _ _
theorem selT_pick {acc : List SSet} {rem : Tb} {i : Nat} {e : Str × TV} (h : rem[i]? = some e) : ((if e.2.2 then acc ++ [toS e] else acc) ++ selT (rem.eraseIdx i)).Perm (acc ++ selT rem) := by
  have hp := cons_erase h
  have h2 : (selT (e :: rem.eraseIdx i)).Perm (selT rem) := (hp.filter _).map _
  have h3 : selT (e :: rem.eraseIdx i) = (if e.2.2 then [toS e] else []) ++ selT (rem.eraseIdx i) := by
    rw [selT, List.filter_cons]
    cases e.2.2 <;> rfl
  rw [h3] at h2
  have h4 := List.Perm.append_left acc h2
  cases he : e.2.2 with
  | true => rw [he] at h4; simpa using h4
  | false => rw [he] at h4; simpa using h4
set_option maxRecDepth 20000 in
theorem list_ret (t : Tb) (ht : (tkeys t).Nodup) (hl : t.length ≤ 1000000) : Ret Tryz.prog .fresh 84 [.mapd (t.map eTb)] (.sl ((listP t).map eSet)) := by
  have hsl := selT_len t
  refine Ret.of_pwp layOk mixed Go.Proofs.Tryz.func84 rfl (by decide) rfl rfl ?_
  ((repeat (first | refine ps_nil ?_ | refine pq_nil ?_ | refine x_norm ?_ | refine pw_seq ?_)); refine pw_region ?_)
  refine ps_v rfl trivial ?_
  ((repeat (first | refine ps_nil ?_ | refine pq_nil ?_ | refine x_norm ?_ | refine pw_seq ?_)); refine pw_region ?_)
  (first | refine ps_run (o_nilm 149 2 0 rfl rfl ?_) | refine ps_run (o_nila 149 2 0 rfl rfl ?_))
  repeat (refine stp rfl ?_ ?_;·repeat' constructor)
  refine ps_run (o_range rfl rfl rfl rfl ?_)
  repeat (refine stp rfl ?_ ?_;·repeat' constructor)
  refine pw_loop (fun q : PV × Tb × List SSet => (q.2.2 ++ selT q.2.1).Perm (selT t)) (fun q => [(3, .als 3 (1 + q.2.2.length) 0 (q.2.2.map eSet).length), (7, .mi 7 1)])
    (fun q => [(3, 1 + q.2.2.length, ⟨149, 2, q.2.2.map eSet, 0⟩), (7, 1, ⟨152, 0, [q.1 :: q.2.1.map (fun e => PV.agg (eTb e))], 3⟩)]) (fun q => q.2.1.length) (.nil, t, []) (.refl _)
    ⟨rfl, rfl, rfl, ?_, trivial⟩ ?_
  · show (1, some (Cont.mk 152 0 [PV.nil :: (t.map eTb).map PV.agg] 3)) = _
    rw [List.map_map]; rfl
  rintro ⟨last, rem, acc⟩ s' hrem
  dsimp only at hrem ⊢
  have hlen := hrem.length_eq
  rw [List.length_append] at hlen
  ((repeat (first | refine ps_nil ?_ | refine pq_nil ?_ | refine x_norm ?_ | refine pw_seq ?_)); refine pw_region ?_)
  refine ps_run (o_next rfl rfl (fun h0 => ?_) (fun i ck cv hi => ?_))
  · have hnil : rem = [] := by simpa using h0
    subst hnil
    rw [show selT [] = [] from rfl, List.append_nil] at hrem
    have hal : acc.length ≤ 1000000 := by have := hrem.length_eq; omega
    iterate 8 (refine stp rfl ?_ ?_;·repeat' constructor)
    repeat (first | refine pw_exit ?_ | refine pw_skip ?_ | refine x_norm ?_ | refine x_exit ?_ | refine xb_norm ?_ | refine xb_here ?_ | refine xb_away rfl ?_)
    ((repeat (first | refine x_norm ?_ | refine pw_seq ?_)); refine pw_regionS 1 ?_)
    refine ps_v rfl trivial ?_
    refine ps_nil ?_
    refine psem_sm rfl (sortF_sm acc hal rfl (by simp) rfl (fun l' hp' ho' => ?_))
    have he : l' = listP t := listP_uniq ht (hp'.trans hrem) ho'
    have hl' := hp'.length_eq
    refine psem_ops ?_
    repeat (refine stp rfl ?_ ?_;·repeat' constructor)
    exact end1f rfl rfl rfl ⟨rfl, rfl, by rw [List.length_map, List.length_map, hl']⟩ (by rw [he])
  · obtain ⟨e, hei, hee⟩ : ∃ e, rem[i]? = some e ∧ eTb e = [ck, cv] := by
      rw [List.getElem?_map] at hi
      cases hq : rem[i]? with
      | none => rw [hq] at hi; simp at hi
      | some e => rw [hq] at hi; simp at hi; exact ⟨e, rfl, hi⟩
    have h1 : ck = .str e.1 := by simp [eTb] at hee; exact hee.1.symm
    have h2 : cv = .agg [.str e.2.1, .bool e.2.2] := by simp [eTb] at hee; exact hee.2.symm
    subst h1; subst h2
    have hpk := (selT_pick (acc := acc) hei).trans hrem
    have hlen' := (List.getElem?_eq_some_iff.1 hei).1
    repeat (refine stp rfl ?_ ?_;·repeat' constructor)
    refine ps_q (q_entry rfl rfl) ?_
    repeat (refine stp rfl ?_ ?_;·repeat' constructor)
    refine pw_cond rfl (fun h => ?_) (fun h => ?_)
    · repeat (refine stp rfl ?_ ?_;·repeat' constructor)
      apply qst;exact rfl;exact rfl;exact q_slit rfl rfl rfl rfl rfl rfl rfl rfl rfl rfl (by repeat' constructor) rfl
      repeat (refine stp rfl ?_ ?_;·repeat' constructor)
      refine ps_run (o_app 0 rfl rfl rfl rfl rfl rfl rfl rfl rfl rfl rfl (by repeat' constructor) (by intro row hr; first | (simp at hr; subst hr; rfl) | simp at hr) rfl rfl (by simp; omega) (by simp; omega) ?_)
      repeat (refine stp rfl ?_ ?_;·repeat' constructor)
      rw [h] at hpk
      refine ⟨(.agg (eTb e), rem.eraseIdx i, acc ++ [toS e]), hpk, ?_, ?_, rfl, ?_, ?_, trivial⟩
      · show (rem.eraseIdx i).length < rem.length
        rw [List.length_eraseIdx, if_pos hlen']; omega
      · exact als_snoc eSet 3 1 acc (toS e)
      · exact cont_snoc eSet 1 149 2 0 acc (toS e)
      · refine Eq.trans (b := (1, some (Cont.mk 152 0 [PV.agg (eTb e) :: (rem.map (fun e => PV.agg (eTb e))).eraseIdx i] 3))) rfl ?_
        rw [← Go.ChangeMaps.map_eraseIdx]
    · repeat (refine stp rfl ?_ ?_;·repeat' constructor)
      rw [h] at hpk
      refine ⟨(.agg (eTb e), rem.eraseIdx i, acc), hpk, ?_, rfl, rfl, rfl, ?_, trivial⟩
      · show (rem.eraseIdx i).length < rem.length
        rw [List.length_eraseIdx, if_pos hlen']; omega
      · refine Eq.trans (b := (1, some (Cont.mk 152 0 [PV.agg (eTb e) :: (rem.map (fun e => PV.agg (eTb e))).eraseIdx i] 3))) rfl ?_
        rw [← Go.ChangeMaps.map_eraseIdx]
end Go.Pv

