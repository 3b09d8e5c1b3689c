/- Texts of one hand, gathered: LaT, LaU, LaV, LaW, Shelf, LaY, LaZ, LbA, LbB, LbC, LbD, LbE, LbF, LbG, LbH, LdB, LdC, LdD, LdE, LdF, LdG, LdH, LeA, LdI, LdJ, LdK, LfA, PvRg, PvBa, PvBb, PvBd, LfB, LfC. -/
import Derived.Test.YtakfiahnhjnndaaGreatDoorCu4
import Derived.Shelf.Strings.Builder1
import Derived.Shelf.Strings.Builder2
import Derived.Shelf.Strings.OnBuilder
import Derived.Shelf.Small.Bits
import Derived.Shelf.Small.Strs
import Derived.Shelf.Strings.BuilderF
import Derived.Shelf.Strings.BuilderK
import Derived.Shelf.Strings.Builder2Cap
import Derived.Shelf.Strconv.Atoi
import Derived.Shelf.Strconv.Itoa0
import Derived.Shelf.Strconv.Itoa1
import Derived.Shelf.LaysM
import Derived.Shelf.Strconv.Itoa2
import Derived.Shelf.Strconv.Itoa3
import Derived.Shelf.Strconv.AtoiErrFast
import Derived.Shelf.Strconv.ParseIntEmpty
import Derived.Shelf.Strconv.AtoiFail
import Derived.Shelf.Strconv.Clone
import Derived.Shelf.Strconv.SyntaxError
import Derived.Shelf.LaysC
import Derived.Shelf.Strconv.ToError
import Derived.Shelf.Strconv.Lower
import Derived.Shelf.Strconv.ParseUint10
import Derived.Shelf.Strconv.ParseUint10Empty
import Derived.Shelf.Strconv.ParseUint10Any
import Derived.Shelf.Strconv.ParseInt10
import Derived.Shelf.Strconv.AtoiLong
import Derived.Shelf.Strconv.AtoiInnerAll
import Derived.Shelf.Strconv.RangeError
import Derived.Shelf.Strconv.ToErrorRange
import Derived.Shelf.Strconv.AtoiAll
import Derived.Shelf.Strings.Search1
import Derived.Shelf.Strings.Search2
import Derived.Shelf.Strings.Search3
import Derived.Shelf.Strings.Cut
import Derived.Shelf.Strings.Count
import Derived.Shelf.Strings.Shaped
import Derived.Shelf.Sort.Plain
import Derived.Shelf.Strings.Prefix
import Derived.Shelf.Strings.Split
import Derived.Shelf.Strings.SplitShaped
import Derived.Shelf.Unicode.DecodeSlow
import Derived.Shelf.Strings.BuilderCap
import Derived.Shelf.Slices.Turned
import Derived.Shelf.Slices.CompactS
import Derived.Shelf.Slices.Cells
import Derived.Shelf.Slices.In.SortNone
import Derived.Test.YtakfiahnhjnndaaGreatDoorProg
import Derived.Lib.AppendIntMem
import Derived.Lib.SplitLaws
set_option linter.unusedSectionVars false
set_option linter.unusedSimpArgs false
set_option linter.unusedVariables false
set_option linter.unnecessarySimpa false
set_option maxHeartbeats 2000000
namespace Go.Pv
attribute [local irreducible] PWP POps PQuiet PSem XThen XBlock RetPost InlPost
open Go.Proofs
def invF (l : List SPost) (n : Int) : Nat → Int
  | 0 => 0
  | k + 1 => if invF l n k = 0 then (if (decide (n < (k : Int) + 1) && ivcB l (entL l n).order k && sgdB l n k 0) = true then (k : Int) + 1 else 0) else invF l n k
theorem covIn_at {l : List SPost} {o : Str} {i : Nat} {M : List (Int × Int)} {n : Int} (h1 : (entL l n).op = 3) (h2 : (entL l n).order = o) (h3 : liveB l n = true) (h4 : 1 ≤ n) : ∀ m : Nat,
    aget (covIn l o i M m) n = if n ≤ m ∧ aget M n = 0 ∧ sgdB l n i 0 = true then (i : Int) + 1 else aget M n
  | 0 => by rw [covIn, if_neg (by omega)]
  | m + 1 => by
    have ih := covIn_at (l := l) (o := o) (i := i) (M := M) h1 h2 h3 h4 m
    rw [covIn]
    by_cases hn : n = (m : Int) + 1
    · subst hn
      rw [if_neg (by omega)] at ih
      have ht : tstB l o i ((m : Int) + 1) (covIn l o i M m) = (decide (aget M ((m : Int) + 1) = 0) && sgdB l ((m : Int) + 1) i 0) := by
        rw [tstB, ih, h1, h2, h3]; simp
      rw [ht]
      by_cases hc : aget M ((m : Int) + 1) = 0 ∧ sgdB l ((m : Int) + 1) i 0 = true
      · rw [if_pos (by simp [hc.1, hc.2]), aget_aput, if_pos rfl, if_pos ⟨by omega, hc.1, hc.2⟩]
      · rw [if_neg (by simpa using hc), ih, if_neg (fun h => hc h.2)]
    · have hle : (n ≤ ((m + 1 : Nat) : Int)) ↔ n ≤ m := by omega
      have : aget (if tstB l o i ((m : Int) + 1) (covIn l o i M m) = true then aput ((m : Int) + 1) ((i : Int) + 1) (covIn l o i M m) else covIn l o i M m) n = aget (covIn l o i M m) n := by
        split
        · rw [aget_aput, if_neg (fun e => hn e.symm)]
        · rfl
      rw [this, ih]
      simp only [hle]
theorem covOut_at {l : List SPost} {o : Str} {n : Int} (h1 : (entL l n).op = 3) (h2 : (entL l n).order = o) (h3 : liveB l n = true) (h4 : 1 ≤ n) : ∀ k : Nat, aget (covOut l o k) n = invF l n k
  | 0 => rfl
  | k + 1 => by
    have ih := covOut_at h1 h2 h3 h4 k
    rw [covOut, invF, h2]
    by_cases hi : ivcB l o k = true
    · rw [if_pos hi, covIn_at h1 h2 h3 h4, ih, hi]
      by_cases hz : invF l n k = 0
      · rw [if_pos hz, hz]
        by_cases hc : n ≤ k ∧ sgdB l n k 0 = true
        · rw [if_pos ⟨hc.1, rfl, hc.2⟩, if_pos (by simp [hc.2]; omega)]
        · rw [if_neg (fun h => hc ⟨h.1, h.2.2⟩), if_neg (by intro h; simp at h; exact hc ⟨by omega, h.2⟩)]
      · rw [if_neg hz, if_neg (fun h => hz h.2.1)]
    · rw [if_neg hi, ih]
      split
      · rename_i hz
        rw [hz, if_neg (by simp [hi])]
      · rfl
section
variable {L : Lay} {s : St} {fn : Func} {r : PV}
theorem endc2f {t1 t2 : Nat} {T : TypeId} {v d : PV} {A C1 : Prop} {b1 : Bool} {k2 : IntKind} {n2 : Int} (h : fn.results.toList = [.cell t1 T, .tmp t2]) (hq : qv L s (.load T (.tmp t1)) = some (v, A)) (ha : A) (h2 : s.reg t2 = .int k2 n2) (r1 : res s 4 v = some (d, C1, ⟨b1, true⟩)) (c1 : C1)
    (hd : PV.tup [d, .int k2 n2] = r) : RetPost L fn .fresh r .ret s := by
  unfold RetPost
  refine ⟨[v, s.reg t2], A ∧ True ∧ True, .tup [d, .int k2 n2], C1 ∧ True ∧ True, (⟨b1, true⟩ : Fl).and ((⟨true, true⟩ : Fl).and ⟨true, true⟩), ?_, ⟨ha, trivial, trivial⟩, ?_, ⟨c1, trivial, trivial⟩, rfl, hd⟩
  · rw [h]
    show (match rv L s (.cell t1 T) with | some (v, A) => (match rvs L s [.tmp t2] with | some (vs, B) => some (v :: vs, A ∧ B) | none => none) | none => none) = _
    rw [show rv L s (.cell t1 T) = some (v, A) from hq]; rfl
  · show (match resL (res s 4) [v, s.reg t2] with | some (ds, C1, b) => some (PV.tup ds, C1, b) | none => none) = _
    rw [h2]
    have q : ∀ (k : IntKind) (n : Int), res s 4 (.int k n) = some (.int k n, True, ⟨true, true⟩) := fun k n => rfl
    simp only [resL, r1, q]
end
theorem end_ret (l : List SPost) (hl : l.length ≤ 400) : Ret Tryz.prog .shared 111 [.dref (eBook l) 0] (I (l.length + 1)) := by
  have hll : ((l.map ePost).length : Int) = l.length := by simp
  refine Ret.of_pwp layOk mixed Go.Proofs.Tryz.func111 rfl (by decide) rfl rfl ?_
  repeat (refine stp rfl ?_ ?_;·repeat' constructor)
  exact end1i rfl rfl (by rw [hll, wrap_i64 (by omega) (by omega)])
end Go.Pv


set_option maxHeartbeats 2000000
namespace Go.Pv
attribute [local irreducible] PWP POps PQuiet PSem XThen XBlock RetPost InlPost
open Go.Proofs
end Go.Pv


set_option maxHeartbeats 2000000
namespace Go.Pv
attribute [local irreducible] PWP POps PQuiet PSem XThen XBlock RetPost InlPost
open Go.Proofs
def longB (p : SPost) : Bool := decide (40 < (p.order.length : Int)) || decide (40 < (p.item.length : Int)) || decide (40 < (p.ship.length : Int)) || decide (40 < (p.who.length : Int))
theorem long_ret (p : SPost) : Ret Tryz.prog .shared 10 [.agg (ePost p)] (.bool (longB p)) := by
  rw [longB]
  generalize h1 : decide (40 < (p.order.length : Int)) = b1
  generalize h2 : decide (40 < (p.item.length : Int)) = b2
  generalize h3 : decide (40 < (p.ship.length : Int)) = b3
  generalize h4 : decide (40 < (p.who.length : Int)) = b4
  refine Ret.of_pwp layOk mixed Go.Proofs.Tryz.func10 rfl (by decide) rfl rfl ?_
  repeat (refine stp rfl ?_ ?_;·repeat' constructor)
  rw [h1]
  cases b1 with
  | true =>
    repeat (refine stp rfl ?_ ?_;·repeat' constructor)
    exact end1b rfl rfl rfl
  | false =>
  repeat (refine stp rfl ?_ ?_;·repeat' constructor)
  rw [h2]
  cases b2 with
  | true =>
    repeat (refine stp rfl ?_ ?_;·repeat' constructor)
    exact end1b rfl rfl rfl
  | false =>
  repeat (refine stp rfl ?_ ?_;·repeat' constructor)
  rw [h3]
  cases b3 with
  | true =>
    repeat (refine stp rfl ?_ ?_;·repeat' constructor)
    exact end1b rfl rfl rfl
  | false =>
  repeat (refine stp rfl ?_ ?_;·repeat' constructor)
  rw [h4]
  cases b4 with
  | true =>
    repeat (refine stp rfl ?_ ?_;·repeat' constructor)
    exact end1b rfl rfl rfl
  | false =>
    repeat (refine stp rfl ?_ ?_;·repeat' constructor)
    exact end1b rfl rfl rfl
def manyB (l : List SPost) : Bool := decide (40 < l.length) || l.any longB
theorem many_ret (l : List SPost) : Ret Tryz.prog .shared 19 [.sl (l.map ePost)] (.bool (manyB l)) := by
  have hll : ((l.map ePost).length : Int) = l.length := by simp
  rw [manyB]
  refine Ret.of_pwp layOk mixed Go.Proofs.Tryz.func19 rfl (by decide) rfl rfl ?_
  repeat (refine stp rfl ?_ ?_;·repeat' constructor)
  rw [hll]
  refine pw_cond rfl (fun h => ?_) (fun h => ?_)
  · have := of_decide_eq_true h
    repeat (refine stp rfl ?_ ?_;·repeat' constructor)
    exact end1b rfl rfl (by rw [decide_eq_true (by omega)]; rfl)
  have h40 := of_decide_eq_false h
  clear h
  rw [decide_eq_false (show ¬ 40 < l.length by omega), Bool.false_or]
  repeat (refine stp rfl ?_ ?_;·repeat' constructor)
  refine pw_loop (Clear l longB) (fun k => [(0, .sl (l.map ePost)), (3, I k)]) (fun _ => []) (fun k => l.length - k) 0 .zero ⟨rfl, rfl, trivial⟩ ?_
  intro k s hk
  repeat (refine stp rfl ?_ ?_;·repeat' constructor)
  rw [hll]
  refine pw_cond rfl (fun h => ?_) (fun h => ?_)
  · have hlt : k < l.length := by have := of_decide_eq_true h; omega
    clear h
    obtain ⟨x, hx⟩ := get_lt hlt
    have hc := long_ret x
    generalize hb : longB x = b at hc
    repeat (refine stp rfl ?_ ?_;·repeat' constructor)
    apply qst;exact rfl;exact rfl;exact q_idxm rfl rfl rfl rfl rfl (by omega) hx rfl
    repeat (refine stp rfl ?_ ?_;·repeat' constructor)
    apply qst;exact rfl;exact rfl;exact q_callP rfl (hc) rfl (by repeat' constructor) rfl rfl
    cases b with
    | true =>
      repeat (refine stp rfl ?_ ?_;·repeat' constructor)
      exact end1b rfl rfl (by rw [any_of hx hb])
    | false =>
      repeat (refine stp rfl ?_ ?_;·repeat' constructor)
      refine ⟨k + 1, hk.succ hx hb, by omega, rfl, ?_, trivial⟩
      exact i64_next (by omega) (by omega)
  · have hf : ¬ k < l.length := by have := of_decide_eq_false h; omega
    repeat (refine stp rfl ?_ ?_;·repeat' constructor)
    exact end1b rfl rfl (by rw [hk.any hf])
def accR : List SPost → List SPost → List SPost
  | m, [] => m
  | m, p :: l => if refusalR m p = 0 then accR (m ++ [cleanP p]) l else accR m l
theorem accR_acc : ∀ {l m : List SPost}, Acc m → Acc (accR m l)
  | [], m, h => h
  | p :: l, m, h => by
    rw [accR]
    split
    · rename_i hr; exact accR_acc (h.snoc hr)
    · exact accR_acc h
theorem accR_snoc : ∀ (l m : List SPost) (p : SPost), accR m (l ++ [p]) = if refusalR (accR m l) p = 0 then accR m l ++ [cleanP p] else accR m l
  | [], m, p => rfl
  | q :: l, m, p => by
    rw [List.cons_append, accR, accR]
    split <;> exact accR_snoc l _ p
end Go.Pv


set_option maxHeartbeats 2000000
namespace Go.Pv
attribute [local irreducible] PWP POps PQuiet PSem XThen XBlock RetPost InlPost
open Go.Proofs
theorem clean_again {p : SPost} (h : inside p.op 0 8 = true) : cleanP (cleanP p) = cleanP p ∧ checkE (cleanP p) = checkE p ∧ ∀ l, refE l (cleanP p) = refE l p := by
  obtain ⟨op, day, o, i, s, w, a, r, ro⟩ := p
  rcases op_cases h with rfl | rfl | rfl | rfl | rfl | rfl | rfl | rfl | rfl <;> exact ⟨rfl, rfl, fun l => rfl⟩
theorem refusal_again {l : List SPost} {p : SPost} (h : refusalR l p = 0) : refusalR l (cleanP p) = 0 := by
  have h1 := refusalR_zero h
  obtain ⟨_, e2, e3⟩ := clean_again (checkE_op h1.1).1
  rw [refusalR, e2, (clean_op p).2, e3]
  rw [refusalR] at h
  exact h
theorem Acc.at_ {l : List SPost} (h : Acc l) : ∀ (j : Nat) p, l[j]? = some p → refusalR (l.take j) p = 0 ∧ cleanP p = p := by
  induction h with
  | nil => intro j p h; simp at h
  | snoc hl hr ih =>
    rename_i l q
    intro j p hp
    rcases snoc_get hp with ⟨hj, hp⟩ | ⟨rfl, rfl⟩
    · have := ih j p hp
      rw [List.take_append_of_le_length (by omega)]
      exact this
    · rw [List.take_left']
      · exact ⟨refusal_again hr, (clean_again (checkE_op (refusalR_zero hr).1).1).1⟩
      · rfl
theorem Acc.lod {l : List SPost} (h : Acc l) : lodN l = l.length ∧ lodE l = 0 ∧ lodL l = l := by
  have ht : ∀ j, (l.take j).map cleanP = l.take j := fun j => by
    have : ∀ (m : List SPost), (∀ p, p ∈ m → cleanP p = p) → m.map cleanP = m := fun m hm => by
      induction m with
      | nil => rfl
      | cons a m ih => rw [List.map_cons, hm a (by simp), ih fun p hp => hm p (by simp [hp])]
    refine this _ fun p hp => ?_
    obtain ⟨i, hi, rfl⟩ := List.getElem_of_mem (List.mem_of_mem_take hp)
    exact (h.at_ i _ (List.getElem?_eq_getElem hi)).2
  have hf : ∀ (j : Nat) b, l[j]? = some b → lodF l j b = 0 := fun j b hb => by
    rw [lodF, ht]; exact (h.at_ j b hb).1
  have h1 : lodN l = l.length := fstN_none hf
  refine ⟨h1, fstE_none hf, ?_⟩
  rw [lodL, h1, ht, List.take_length]
set_option maxRecDepth 20000 in
theorem loaded_ret (l : List SPost) (hl : l.length ≤ 400) : Ret Tryz.prog .shared 20 [.sl (l.map ePost)] (.tup [.dref (eBook (accR [] l)) 0, .sl ((accR [] l).map ePost)]) := by
  have hll : ((l.map ePost).length : Int) = l.length := by simp
  refine Ret.of_pwp layOk mixed Go.Proofs.Tryz.func20 rfl (by decide) rfl rfl ?_
  ((repeat (first | refine ps_nil ?_ | refine pq_nil ?_ | refine x_norm ?_ | refine pw_seq ?_)); refine pw_region ?_)
  refine ps_v rfl trivial ?_
  refine ps_v rfl trivial ?_
  ((repeat (first | refine ps_nil ?_ | refine pq_nil ?_ | refine x_norm ?_ | refine pw_seq ?_)); refine pw_region ?_)
  refine ps_v rfl trivial ?_
  refine ps_nil ?_
  refine x_norm ?_
  refine pw_ghost (Ghost.nilreg (k := 4) (t := 4) 23 9 0 rfl rfl) ?_
  repeat (refine stp rfl ?_ ?_;·repeat' constructor)
  refine pw_loop (fun k => k ≤ l.length) (fun k => [(0, .sl (l.map ePost)), (4, .als 4 (1 + (accR [] (l.take k)).length) 0 ((accR [] (l.take k)).map ePost).length), (5, I k)]) (fun k => [(4, 1 + (accR [] (l.take k)).length, ⟨23, 9, (accR [] (l.take k)).map ePost, 0⟩)]) (fun k => l.length - k) 0 (Nat.zero_le _) ⟨rfl, rfl, rfl, rfl, trivial⟩ ?_
  intro k s hk
  have hk : k ≤ l.length := hk
  repeat (refine stp rfl ?_ ?_;·repeat' constructor)
  rw [hll]
  refine pw_cond rfl (fun h => ?_) (fun h => ?_)
  · have hlt : k < l.length := by have := of_decide_eq_true h; omega
    clear h
    obtain ⟨x, hx⟩ := get_lt hlt
    have hs := accR_snoc (l.take k) [] x
    rw [← take_snoc hx] at hs
    have hacc := (accR_acc (l := l.take k) Acc.nil).ok.wf
    have hr := refusal_ref (accR [] (l.take k)) hacc x
    have hal : (accR [] (l.take k)).length ≤ 400 := hacc.len
    generalize accR [] (l.take k) = m at *
    repeat (refine stp rfl ?_ ?_;·repeat' constructor)
    apply qst;exact rfl;exact rfl;exact q_idxm rfl rfl rfl rfl rfl (by omega) hx rfl
    repeat (refine stp rfl ?_ ?_;·repeat' constructor)
    apply qst;exact rfl;exact rfl;exact q_callP rfl (hr) rfl (by repeat' constructor) rfl rfl
    repeat (refine stp rfl ?_ ?_;·repeat' constructor)
    refine pw_cond rfl (fun h => ?_) (fun h => ?_)
    · have h0 := of_decide_eq_true h
      have hc := clean_ref x (checkE_op (refusalR_zero h0).1).1
      rw [if_pos h0] at hs
      repeat (refine stp rfl ?_ ?_;·repeat' constructor)
      apply qst;exact rfl;exact rfl;exact q_idxm rfl rfl rfl rfl rfl (by omega) hx rfl
      repeat (refine stp rfl ?_ ?_;·repeat' constructor)
      apply qst;exact rfl;exact rfl;exact q_call rfl (hc) rfl (by repeat' constructor) rfl
      repeat (refine stp rfl ?_ ?_;·repeat' constructor)
      apply qst;exact rfl;exact rfl;exact q_slit rfl rfl rfl rfl rfl rfl rfl rfl rfl rfl (by repeat' constructor) rfl
      repeat (refine stp rfl ?_ ?_;·repeat' constructor)
      refine ps_run (o_app 0 rfl rfl rfl rfl rfl rfl rfl rfl rfl rfl rfl (by repeat' constructor) (by intro row hr; first | (simp at hr; subst hr; rfl) | simp at hr) rfl rfl (by simp; omega) (by simp; omega) ?_)
      repeat (refine stp rfl ?_ ?_;·repeat' constructor)
      refine ⟨k + 1, hlt, by omega, rfl, ?_, i64_next (by omega) (by omega), ?_, trivial⟩
      · rw [hs]; exact als_snoc ePost 4 1 m (cleanP x)
      · rw [hs]; exact cont_snoc ePost 1 23 9 0 m (cleanP x)
    · have h0 := of_decide_eq_false h
      rw [if_neg h0] at hs
      repeat (refine stp rfl ?_ ?_;·repeat' constructor)
      exact ⟨k + 1, hlt, by omega, rfl, by rw [hs]; rfl, i64_next (by omega) (by omega), by rw [hs]; rfl, trivial⟩
  · have hz : k = l.length := by have := of_decide_eq_false h; omega
    subst hz
    clear h
    rw [List.take_length]
    have hacc := accR_acc (l := l) Acc.nil
    have hml : ((((accR [] l).map ePost).length : Nat) : Int) = (accR [] l).length := by simp
    have hlen := hacc.ok.wf.len
    have hld := load_ret (accR [] l) (by omega)
    obtain ⟨e1, e2, e3⟩ := hacc.lod
    rw [e1, e2, e3] at hld
    generalize accR [] l = m at *
    repeat (refine stp rfl ?_ ?_;·repeat' constructor)
    apply qst;exact rfl;exact rfl;exact q_callF rfl (hld) rfl (by repeat' constructor) rfl
    repeat (refine stp rfl ?_ ?_;·repeat' constructor)
    rw [hml]
    refine pw_cond rfl (fun h => ?_) (fun h => ?_)
    · exact absurd (rfl : (m.length : Int) = m.length) (of_decide_eq_false (by simpa only [Bool.not_eq_true'] using h))
    · repeat (refine stp rfl ?_ ?_;·repeat' constructor)
      exact end2 rfl rfl rfl rfl rfl trivial (by repeat' constructor) rfl
end Go.Pv


namespace Go.Proofs
open Go.Shelf
def Tryz.lays169_ren : Go.Shelf.Ren := ⟨fun | 169 => 79 | n => n, fun | 70 => 139 | 9 => 9 | 0 => 0 | 72 => 141 | 37 => 54 | 127 => 196 | 3 => 3 | 5 => 5 | n => n, fun | n => n⟩
theorem Tryz.lays169 : Go.Proofs.Lays.n169 Tryz.prog Tryz.lays169_ren := {
  mixed := by kernel_rfl
  f169 := Tryz.func79.trans (congrArg some (by kernel_rfl))
  t0 := Tryz.underlying0
  a0 := Tryz.isAgg0
  z0 := Tryz.sizeOf0
  v0 := Tryz.zeroValue0
  t3 := Tryz.underlying3
  a3 := Tryz.isAgg3
  z3 := Tryz.sizeOf3
  v3 := Tryz.zeroValue3
  t9 := Tryz.underlying9
  a9 := Tryz.isAgg9
  z9 := Tryz.sizeOf9
  v9 := Tryz.zeroValue9
  t37 := Tryz.underlying54
  a37 := Tryz.isAgg54
  z37 := Tryz.sizeOf54
  v37 := Tryz.zeroValue54
  t70 := Tryz.underlying139
  a70 := Tryz.isAgg139
  z70 := Tryz.sizeOf139
  v70 := Tryz.zeroValue139
  t72 := Tryz.underlying141
  a72 := Tryz.isAgg141
  z72 := Tryz.sizeOf141
  v72 := Tryz.zeroValue141
  t127 := Tryz.underlying196
  a127 := Tryz.isAgg196
  z127 := Tryz.sizeOf196
  v127 := Tryz.zeroValue196 }
theorem Tryz.Builder_Extra_169 : Builder.Extra Tryz.prog Tryz.lays169_ren := {
  sizeBuilder := by kernel_rfl
  liesBuilder := by kernel_rfl
  t5 := Tryz.underlying5
  a5 := Tryz.isAgg5
  z5 := Tryz.sizeOf5
  v5 := Tryz.zeroValue5
  infoByte := by kernel_rfl
  cellsByte := by kernel_rfl
  sizeByte := by kernel_rfl
  neB5 := by decide }
def Tryz.lays156_ren : Go.Shelf.Ren := ⟨fun | 156 => 115 | 165 => 152 | 166 => 78 | 169 => 79 | 240 => 128 | 241 => 178 | 276 => 164 | 277 => 215 | n => n, fun | 31 => 58 | 9 => 9 | 3 => 3 | 4 => 4 | 0 => 0 | 20 => 20 | 72 => 141 | 76 => 116 | 70 => 139 | 37 => 54 | 75 => 115 | 127 => 196 | 164 => 223 | 5 => 5 | 80 => 48 | n => n, fun | n => n⟩
theorem Tryz.lays156 : Go.Proofs.Lays.n156 Tryz.prog Tryz.lays156_ren := {
  mixed := by kernel_rfl
  f156 := Tryz.func115.trans (congrArg some (by kernel_rfl))
  f165 := Tryz.func152.trans (congrArg some (by kernel_rfl))
  f166 := Tryz.func78.trans (congrArg some (by kernel_rfl))
  f169 := Tryz.func79.trans (congrArg some (by kernel_rfl))
  f240 := Tryz.func128.trans (congrArg some (by kernel_rfl))
  f241 := Tryz.func178.trans (congrArg some (by kernel_rfl))
  f276 := Tryz.func164.trans (congrArg some (by kernel_rfl))
  f277 := Tryz.func215.trans (congrArg some (by kernel_rfl))
  t0 := Tryz.underlying0
  a0 := Tryz.isAgg0
  z0 := Tryz.sizeOf0
  v0 := Tryz.zeroValue0
  t3 := Tryz.underlying3
  a3 := Tryz.isAgg3
  z3 := Tryz.sizeOf3
  v3 := Tryz.zeroValue3
  t4 := Tryz.underlying4
  a4 := Tryz.isAgg4
  z4 := Tryz.sizeOf4
  v4 := Tryz.zeroValue4
  t9 := Tryz.underlying9
  a9 := Tryz.isAgg9
  z9 := Tryz.sizeOf9
  v9 := Tryz.zeroValue9
  t20 := Tryz.underlying20
  a20 := Tryz.isAgg20
  z20 := Tryz.sizeOf20
  v20 := Tryz.zeroValue20
  t31 := Tryz.underlying58
  a31 := Tryz.isAgg58
  z31 := Tryz.sizeOf58
  v31 := Tryz.zeroValue58
  t37 := Tryz.underlying54
  a37 := Tryz.isAgg54
  z37 := Tryz.sizeOf54
  v37 := Tryz.zeroValue54
  t70 := Tryz.underlying139
  a70 := Tryz.isAgg139
  z70 := Tryz.sizeOf139
  v70 := Tryz.zeroValue139
  t72 := Tryz.underlying141
  a72 := Tryz.isAgg141
  z72 := Tryz.sizeOf141
  v72 := Tryz.zeroValue141
  t75 := Tryz.underlying115
  a75 := Tryz.isAgg115
  z75 := Tryz.sizeOf115
  v75 := Tryz.zeroValue115
  t76 := Tryz.underlying116
  a76 := Tryz.isAgg116
  z76 := Tryz.sizeOf116
  v76 := Tryz.zeroValue116
  t127 := Tryz.underlying196
  a127 := Tryz.isAgg196
  z127 := Tryz.sizeOf196
  v127 := Tryz.zeroValue196
  t164 := Tryz.underlying223
  a164 := Tryz.isAgg223
  z164 := Tryz.sizeOf223
  v164 := Tryz.zeroValue223 }
theorem Tryz.Builder_Extra_156 : Builder.Extra Tryz.prog Tryz.lays156_ren := {
  sizeBuilder := by kernel_rfl
  liesBuilder := by kernel_rfl
  t5 := Tryz.underlying5
  a5 := Tryz.isAgg5
  z5 := Tryz.sizeOf5
  v5 := Tryz.zeroValue5
  infoByte := by kernel_rfl
  cellsByte := by kernel_rfl
  sizeByte := by kernel_rfl
  neB5 := by decide }
open Go.RowKit in
theorem Tryz.strings_Join_none (a : Option Addr) (c : Nat) (sep : ByteArray) (w : World) :
    Calls Tryz.prog 115 #[.slice a 0 c, .string sep] w fun e w' => e = .returned (.string ⟨#[]⟩) ∧ w' = w := Any.strings_Join_none Tryz.lays156 Tryz.Builder_Extra_156 a c sep w
open Go.RowKit in
theorem Tryz.strings_Join (bk o c : Nat) (xs : List ByteArray) (sep : ByteArray) (w : World) (hcells : ∀ (j : Nat) x, xs[j]? = some x → w.cell? ⟨bk, o + j, none⟩ = some (.string x)) (hbk : bk < w.heap.size) (hN : xs.length ≤ 140737488355328) (hcap : xs.length ≤ c) (hlen : (Lib.join (xs.map (·.data.toList)) sep.data.toList).length ≤ 140737488355328) :
    Calls Tryz.prog 115 #[.slice (some ⟨bk, o, none⟩) xs.length c, .string sep] w fun e w' => e = .returned (.string ⟨(Lib.join (xs.map (·.data.toList)) sep.data.toList).toArray⟩) ∧ Below w.heap.size w w' := Any.strings_Join Tryz.lays156 Tryz.Builder_Extra_156 bk o c xs sep w hcells hbk hN hcap hlen
def Tryz.laysM171_ren : Go.Shelf.Ren := ⟨fun | 171 => 89 | 243 => 136 | 246 => 170 | 283 => 208 | 284 => 209 | 285 => 210 | 286 => 211 | 129 => 198 | 317 => 228 | 318 => 229 | 319 => 230 | 320 => 231 | 337 => 234 | 338 => 235 | n => n, fun | 3 => 3 | 9 => 9 | 2 => 2 | 4 => 4 | 171 => 259 | 0 => 0 | 53 => 237 | 37 => 54 | 5 => 5 | 173 => 261 | 212 => 284 | 51 => 252 | 20 => 20 | 213 => 285 | 46 => 227 | 232 => 290 | 233 => 291 | n => n, fun | 17 => 5 | 18 => 6 | 19 => 7 | n => n⟩
theorem Tryz.laysM171 : Go.Proofs.LaysM.n171 Tryz.prog Tryz.laysM171_ren := {
  mixed := by kernel_rfl
  f129 := Tryz.func198.trans (congrArg some (by kernel_rfl))
  f171 := Tryz.func89.trans (congrArg some (by kernel_rfl))
  f243 := Tryz.func136.trans (congrArg some (by kernel_rfl))
  f246 := Tryz.func170.trans (congrArg some (by kernel_rfl))
  f283 := Tryz.func208.trans (congrArg some (by kernel_rfl))
  f284 := Tryz.func209.trans (congrArg some (by kernel_rfl))
  f285 := Tryz.func210.trans (congrArg some (by kernel_rfl))
  f286 := Tryz.func211.trans (congrArg some (by kernel_rfl))
  f317 := Tryz.func228.trans (congrArg some (by kernel_rfl))
  f318 := Tryz.func229.trans (congrArg some (by kernel_rfl))
  f319 := Tryz.func230.trans (congrArg some (by kernel_rfl))
  f320 := Tryz.func231.trans (congrArg some (by kernel_rfl))
  f337 := Tryz.func234.trans (congrArg some (by kernel_rfl))
  f338 := Tryz.func235.trans (congrArg some (by kernel_rfl))
  t0 := Tryz.underlying0
  a0 := Tryz.isAgg0
  z0 := Tryz.sizeOf0
  v0 := Tryz.zeroValue0
  t2 := Tryz.underlying2
  a2 := Tryz.isAgg2
  z2 := Tryz.sizeOf2
  v2 := Tryz.zeroValue2
  t3 := Tryz.underlying3
  a3 := Tryz.isAgg3
  z3 := Tryz.sizeOf3
  v3 := Tryz.zeroValue3
  t4 := Tryz.underlying4
  a4 := Tryz.isAgg4
  z4 := Tryz.sizeOf4
  v4 := Tryz.zeroValue4
  t5 := Tryz.underlying5
  a5 := Tryz.isAgg5
  z5 := Tryz.sizeOf5
  v5 := Tryz.zeroValue5
  t9 := Tryz.underlying9
  a9 := Tryz.isAgg9
  z9 := Tryz.sizeOf9
  v9 := Tryz.zeroValue9
  t20 := Tryz.underlying20
  a20 := Tryz.isAgg20
  z20 := Tryz.sizeOf20
  v20 := Tryz.zeroValue20
  t37 := Tryz.underlying54
  a37 := Tryz.isAgg54
  z37 := Tryz.sizeOf54
  v37 := Tryz.zeroValue54
  t46 := Tryz.underlying227
  a46 := Tryz.isAgg227
  z46 := Tryz.sizeOf227
  v46 := Tryz.zeroValue227
  t51 := Tryz.underlying252
  a51 := Tryz.isAgg252
  z51 := Tryz.sizeOf252
  v51 := Tryz.zeroValue252
  t53 := Tryz.underlying237
  a53 := Tryz.isAgg237
  z53 := Tryz.sizeOf237
  v53 := Tryz.zeroValue237
  t171 := Tryz.underlying259
  a171 := Tryz.isAgg259
  z171 := Tryz.sizeOf259
  v171 := Tryz.zeroValue259
  t173 := Tryz.underlying261
  a173 := Tryz.isAgg261
  z173 := Tryz.sizeOf261
  v173 := Tryz.zeroValue261
  t212 := Tryz.underlying284
  a212 := Tryz.isAgg284
  z212 := Tryz.sizeOf284
  v212 := Tryz.zeroValue284
  t213 := Tryz.underlying285
  a213 := Tryz.isAgg285
  z213 := Tryz.sizeOf285
  t232 := Tryz.underlying290
  a232 := Tryz.isAgg290
  z232 := Tryz.sizeOf290
  v232 := Tryz.zeroValue290
  t233 := Tryz.underlying291
  a233 := Tryz.isAgg291
  z233 := Tryz.sizeOf291
  v233 := Tryz.zeroValue291
  g17 := by kernel_rfl
  g18 := by kernel_rfl
  g19 := by kernel_rfl
  i0 := by kernel_rfl
  i2 := by kernel_rfl
  i3 := by kernel_rfl
  i4 := by kernel_rfl
  i5 := by kernel_rfl
  i9 := by kernel_rfl
  i20 := by kernel_rfl
  i37 := by kernel_rfl
  i46 := by kernel_rfl
  i51 := by kernel_rfl
  i53 := by kernel_rfl
  i171 := by kernel_rfl
  i173 := by kernel_rfl
  i212 := by kernel_rfl
  i232 := by kernel_rfl
  i233 := by kernel_rfl
  m17 := by kernel_rfl
  m18 := by kernel_rfl
  m19 := by kernel_rfl }
open Go.RowKit Go.Sort Go.Lib in
theorem Tryz.strconv_Itoa (n : Int) (h0 : -9223372036854775808 ≤ n) (h1 : n ≤ 9223372036854775807) (w : World) (htab : Lib.TabIs Tryz.prog w "internal/strconv.uint64pow10" .u64 Lib.pow10Tab) :
    Calls Tryz.prog 89 #[.int .i64 n] w fun e w' => e = .returned (.string ⟨(Lib.itoa n).toArray⟩) ∧ ∃ k os, w' = grow (w.drewN k) os := Any.strconv_Itoa Tryz.laysM171 n h0 h1 w htab
def Tryz.laysC172_ren : Go.Shelf.Ren := ⟨fun | 172 => 62 | 244 => 117 | 245 => 118 | 247 => 156 | 279 => 157 | 280 => 158 | 281 => 159 | 282 => 160 | 287 => 181 | 316 => 182 | 171 => 89 | 205 => 183 | 321 => 216 | 322 => 217 | 243 => 136 | 246 => 170 | 283 => 208 | 284 => 209 | 285 => 210 | 286 => 211 | 129 => 198 | 317 => 228 | 318 => 229 | 319 => 230 | 320 => 231 | 337 => 234 | 338 => 235 | n => n, fun | 9 => 9 | 3 => 3 | 75 => 115 | 76 => 116 | 4 => 4 | 5 => 5 | 167 => 215 | 37 => 54 | 0 => 0 | 85 => 216 | 2 => 2 | 168 => 218 | 53 => 237 | 175 => 238 | 46 => 227 | 210 => 241 | 127 => 196 | 145 => 269 | 143 => 267 | 21 => 21 | 171 => 259 | 173 => 261 | 212 => 284 | 51 => 252 | 20 => 20 | 213 => 285 | 232 => 290 | 233 => 291 | 80 => 48 | n => n, fun | 15 => 0 | 16 => 1 | 17 => 5 | 18 => 6 | 19 => 7 | n => n⟩
theorem Tryz.laysC172 : Go.Proofs.LaysC.n172 Tryz.prog Tryz.laysC172_ren := {
  mixed := by kernel_rfl
  f129 := Tryz.func198.trans (congrArg some (by kernel_rfl))
  f171 := Tryz.func89.trans (congrArg some (by kernel_rfl))
  f172 := Tryz.func62.trans (congrArg some (by kernel_rfl))
  f205 := Tryz.func183.trans (congrArg some (by kernel_rfl))
  f243 := Tryz.func136.trans (congrArg some (by kernel_rfl))
  f244 := Tryz.func117.trans (congrArg some (by kernel_rfl))
  f245 := Tryz.func118.trans (congrArg some (by kernel_rfl))
  f246 := Tryz.func170.trans (congrArg some (by kernel_rfl))
  f247 := Tryz.func156.trans (congrArg some (by kernel_rfl))
  f279 := Tryz.func157.trans (congrArg some (by kernel_rfl))
  f280 := Tryz.func158.trans (congrArg some (by kernel_rfl))
  f281 := Tryz.func159.trans (congrArg some (by kernel_rfl))
  f282 := Tryz.func160.trans (congrArg some (by kernel_rfl))
  f283 := Tryz.func208.trans (congrArg some (by kernel_rfl))
  f284 := Tryz.func209.trans (congrArg some (by kernel_rfl))
  f285 := Tryz.func210.trans (congrArg some (by kernel_rfl))
  f286 := Tryz.func211.trans (congrArg some (by kernel_rfl))
  f287 := Tryz.func181.trans (congrArg some (by kernel_rfl))
  f316 := Tryz.func182.trans (congrArg some (by kernel_rfl))
  f317 := Tryz.func228.trans (congrArg some (by kernel_rfl))
  f318 := Tryz.func229.trans (congrArg some (by kernel_rfl))
  f319 := Tryz.func230.trans (congrArg some (by kernel_rfl))
  f320 := Tryz.func231.trans (congrArg some (by kernel_rfl))
  f321 := Tryz.func216.trans (congrArg some (by kernel_rfl))
  f322 := Tryz.func217.trans (congrArg some (by kernel_rfl))
  f337 := Tryz.func234.trans (congrArg some (by kernel_rfl))
  f338 := Tryz.func235.trans (congrArg some (by kernel_rfl))
  t0 := Tryz.underlying0
  a0 := Tryz.isAgg0
  z0 := Tryz.sizeOf0
  v0 := Tryz.zeroValue0
  t2 := Tryz.underlying2
  a2 := Tryz.isAgg2
  z2 := Tryz.sizeOf2
  v2 := Tryz.zeroValue2
  t3 := Tryz.underlying3
  a3 := Tryz.isAgg3
  z3 := Tryz.sizeOf3
  v3 := Tryz.zeroValue3
  t4 := Tryz.underlying4
  a4 := Tryz.isAgg4
  z4 := Tryz.sizeOf4
  v4 := Tryz.zeroValue4
  t5 := Tryz.underlying5
  a5 := Tryz.isAgg5
  z5 := Tryz.sizeOf5
  v5 := Tryz.zeroValue5
  t9 := Tryz.underlying9
  a9 := Tryz.isAgg9
  z9 := Tryz.sizeOf9
  v9 := Tryz.zeroValue9
  t20 := Tryz.underlying20
  a20 := Tryz.isAgg20
  z20 := Tryz.sizeOf20
  v20 := Tryz.zeroValue20
  t21 := Tryz.underlying21
  a21 := Tryz.isAgg21
  z21 := Tryz.sizeOf21
  v21 := Tryz.zeroValue21
  t37 := Tryz.underlying54
  a37 := Tryz.isAgg54
  z37 := Tryz.sizeOf54
  v37 := Tryz.zeroValue54
  t46 := Tryz.underlying227
  a46 := Tryz.isAgg227
  z46 := Tryz.sizeOf227
  v46 := Tryz.zeroValue227
  t51 := Tryz.underlying252
  a51 := Tryz.isAgg252
  z51 := Tryz.sizeOf252
  v51 := Tryz.zeroValue252
  t53 := Tryz.underlying237
  a53 := Tryz.isAgg237
  z53 := Tryz.sizeOf237
  v53 := Tryz.zeroValue237
  t75 := Tryz.underlying115
  a75 := Tryz.isAgg115
  z75 := Tryz.sizeOf115
  v75 := Tryz.zeroValue115
  t76 := Tryz.underlying116
  a76 := Tryz.isAgg116
  z76 := Tryz.sizeOf116
  v76 := Tryz.zeroValue116
  t85 := Tryz.underlying216
  a85 := Tryz.isAgg216
  z85 := Tryz.sizeOf216
  v85 := Tryz.zeroValue216
  t127 := Tryz.underlying196
  a127 := Tryz.isAgg196
  z127 := Tryz.sizeOf196
  v127 := Tryz.zeroValue196
  t143 := Tryz.underlying267
  a143 := Tryz.isAgg267
  z143 := Tryz.sizeOf267
  v143 := Tryz.zeroValue267
  t145 := Tryz.underlying269
  a145 := Tryz.isAgg269
  z145 := Tryz.sizeOf269
  v145 := Tryz.zeroValue269
  t167 := Tryz.underlying215
  a167 := Tryz.isAgg215
  z167 := Tryz.sizeOf215
  v167 := Tryz.zeroValue215
  t168 := Tryz.underlying218
  a168 := Tryz.isAgg218
  z168 := Tryz.sizeOf218
  v168 := Tryz.zeroValue218
  t171 := Tryz.underlying259
  a171 := Tryz.isAgg259
  z171 := Tryz.sizeOf259
  v171 := Tryz.zeroValue259
  t173 := Tryz.underlying261
  a173 := Tryz.isAgg261
  z173 := Tryz.sizeOf261
  v173 := Tryz.zeroValue261
  t175 := Tryz.underlying238
  a175 := Tryz.isAgg238
  z175 := Tryz.sizeOf238
  v175 := Tryz.zeroValue238
  t210 := Tryz.underlying241
  a210 := Tryz.isAgg241
  z210 := Tryz.sizeOf241
  v210 := Tryz.zeroValue241
  t212 := Tryz.underlying284
  a212 := Tryz.isAgg284
  z212 := Tryz.sizeOf284
  v212 := Tryz.zeroValue284
  t213 := Tryz.underlying285
  a213 := Tryz.isAgg285
  z213 := Tryz.sizeOf285
  t232 := Tryz.underlying290
  a232 := Tryz.isAgg290
  z232 := Tryz.sizeOf290
  v232 := Tryz.zeroValue290
  t233 := Tryz.underlying291
  a233 := Tryz.isAgg291
  z233 := Tryz.sizeOf291
  v233 := Tryz.zeroValue291
  g15 := by kernel_rfl
  g16 := by kernel_rfl
  g17 := by kernel_rfl
  g18 := by kernel_rfl
  g19 := by kernel_rfl
  t80 := Tryz.underlying48
  a80 := Tryz.isAgg48
  z80 := Tryz.sizeOf48
  v80 := Tryz.zeroValue48
  i0 := by kernel_rfl
  i2 := by kernel_rfl
  i3 := by kernel_rfl
  i4 := by kernel_rfl
  i5 := by kernel_rfl
  i9 := by kernel_rfl
  i20 := by kernel_rfl
  i21 := by kernel_rfl
  i37 := by kernel_rfl
  i46 := by kernel_rfl
  i51 := by kernel_rfl
  i53 := by kernel_rfl
  i75 := by kernel_rfl
  i76 := by kernel_rfl
  i80 := by kernel_rfl
  i85 := by kernel_rfl
  i127 := by kernel_rfl
  i143 := by kernel_rfl
  i145 := by kernel_rfl
  i167 := by kernel_rfl
  i168 := by kernel_rfl
  i171 := by kernel_rfl
  i173 := by kernel_rfl
  i175 := by kernel_rfl
  i210 := by kernel_rfl
  i212 := by kernel_rfl
  i232 := by kernel_rfl
  i233 := by kernel_rfl
  m15 := by kernel_rfl
  m16 := by kernel_rfl
  m17 := by kernel_rfl
  m18 := by kernel_rfl
  m19 := by kernel_rfl
  c0 := by kernel_rfl
  c2 := by kernel_rfl
  c3 := by kernel_rfl
  c4 := by kernel_rfl
  c5 := by kernel_rfl
  c9 := by kernel_rfl
  c20 := by kernel_rfl
  c21 := by kernel_rfl
  c37 := by kernel_rfl
  c46 := by kernel_rfl
  c51 := by kernel_rfl
  c53 := by kernel_rfl
  c75 := by kernel_rfl
  c76 := by kernel_rfl
  c80 := by kernel_rfl
  c85 := by kernel_rfl
  c127 := by kernel_rfl
  c143 := by kernel_rfl
  c145 := by kernel_rfl
  c167 := by kernel_rfl
  c168 := by kernel_rfl
  c171 := by kernel_rfl
  c173 := by kernel_rfl
  c175 := by kernel_rfl
  c210 := by kernel_rfl
  c212 := by kernel_rfl
  c213 := by kernel_rfl
  c232 := by kernel_rfl
  c233 := by kernel_rfl }
open Go.RowKit in
theorem Tryz.strconv_Atoi_ok (s : ByteArray) (hmax : s.size ≤ 9223372036854775806) (v : Int) (h : Lib.atoiAll s.data.toList = .ok v) (w : World) :
    Calls Tryz.prog 62 #[.string s] w fun e w' => e = .returned (.tuple #[.int .i64 v, .nilIface]) ∧ (w' = w ∨ ∃ t, w' = Lib.bytesWorld w 5 t) := Any.strconv_Atoi_ok Tryz.laysC172 s hmax v h w
open Go.RowKit in
theorem Tryz.strconv_Atoi_syntax (s : ByteArray) (hlim : s.size ≤ 281474976710656) (h : Lib.atoiAll s.data.toList = Lib.atoiAll []) (ev : Value) (w : World) (hv : w.cell? ⟨0, 0, none⟩ = some ev) (hev : ev = .nilIface ∨ ∃ te pe, ev = .iface te pe) :
    Calls Tryz.prog 62 #[.string s] w fun e w' => ∃ N, e = .returned (.tuple #[.int .i64 (0), .iface 218 (.pointer (some ⟨N, 0, none⟩))]) ∧ w.heap.size ≤ N ∧ w'.heap[N]? = some (.cells #[.string ⟨#[65, 116, 111, 105]⟩, .string s, ev] 241 (0, 0)) ∧ Below w.heap.size w w' := Any.strconv_Atoi_syntax Tryz.laysC172 s hlim h ev w hv hev
open Go.RowKit in
theorem Tryz.strconv_Atoi_range (s : ByteArray) (hlim : s.size ≤ 281474976710656) (h : Lib.atoiAll s.data.toList = .range) (ev : Value) (w : World) (hv : w.cell? ⟨1, 0, none⟩ = some ev) (hev : ev = .nilIface ∨ ∃ te pe, ev = .iface te pe) :
    Calls Tryz.prog 62 #[.string s] w fun e w' => ∃ N, e = .returned (.tuple #[.int .i64 (Lib.atoiSat s.data.toList), .iface 218 (.pointer (some ⟨N, 0, none⟩))]) ∧ w.heap.size ≤ N ∧ w'.heap[N]? = some (.cells #[.string ⟨#[65, 116, 111, 105]⟩, .string s, ev] 241 (0, 0)) ∧ Below w.heap.size w w' := Any.strconv_Atoi_range Tryz.laysC172 s hlim h ev w hv hev
def Tryz.lays143_ren : Go.Shelf.Ren := ⟨fun | 143 => 155 | 219 => 163 | 217 => 176 | 225 => 185 | 224 => 186 | 267 => 187 | 266 => 214 | 314 => 218 | n => n, fun | 9 => 9 | 3 => 3 | 4 => 4 | 5 => 5 | 46 => 227 | 146 => 274 | 51 => 252 | n => n, fun | 1 => 2 | n => n⟩
theorem Tryz.lays143 : Go.Proofs.Lays.n143 Tryz.prog Tryz.lays143_ren := {
  mixed := by kernel_rfl
  f143 := Tryz.func155.trans (congrArg some (by kernel_rfl))
  f217 := Tryz.func176.trans (congrArg some (by kernel_rfl))
  f219 := Tryz.func163.trans (congrArg some (by kernel_rfl))
  f224 := Tryz.func186.trans (congrArg some (by kernel_rfl))
  f225 := Tryz.func185.trans (congrArg some (by kernel_rfl))
  f266 := Tryz.func214.trans (congrArg some (by kernel_rfl))
  f267 := Tryz.func187.trans (congrArg some (by kernel_rfl))
  f314 := Tryz.func218.trans (congrArg some (by kernel_rfl))
  t3 := Tryz.underlying3
  a3 := Tryz.isAgg3
  z3 := Tryz.sizeOf3
  v3 := Tryz.zeroValue3
  t4 := Tryz.underlying4
  a4 := Tryz.isAgg4
  z4 := Tryz.sizeOf4
  v4 := Tryz.zeroValue4
  t5 := Tryz.underlying5
  a5 := Tryz.isAgg5
  z5 := Tryz.sizeOf5
  v5 := Tryz.zeroValue5
  t9 := Tryz.underlying9
  a9 := Tryz.isAgg9
  z9 := Tryz.sizeOf9
  v9 := Tryz.zeroValue9
  t46 := Tryz.underlying227
  a46 := Tryz.isAgg227
  z46 := Tryz.sizeOf227
  v46 := Tryz.zeroValue227
  t51 := Tryz.underlying252
  a51 := Tryz.isAgg252
  z51 := Tryz.sizeOf252
  v51 := Tryz.zeroValue252
  t146 := Tryz.underlying274
  a146 := Tryz.isAgg274
  z146 := Tryz.sizeOf274
  v146 := Tryz.zeroValue274
  g1 := by kernel_rfl }
open Go.RowKit Go.Lib in
theorem Tryz.strings_Index_one (s : ByteArray) (c : UInt8) (w : World) :
    Calls Tryz.prog 155 #[.string s, .string ⟨#[c]⟩] w fun e w' => e = .returned (.int .i64 (Lib.indexByte s.data.toList c)) ∧ w' = w := Any.strings_Index_one Tryz.lays143 s c w
def Tryz.lays145_ren : Go.Shelf.Ren := ⟨fun | 145 => 75 | 220 => 126 | 219 => 163 | 217 => 176 | 225 => 185 | 224 => 186 | 267 => 187 | 266 => 214 | 314 => 218 | n => n, fun | 9 => 9 | 4 => 4 | 59 => 135 | 3 => 3 | 5 => 5 | 46 => 227 | 146 => 274 | 51 => 252 | n => n, fun | 1 => 2 | n => n⟩
theorem Tryz.lays145 : Go.Proofs.Lays.n145 Tryz.prog Tryz.lays145_ren := {
  mixed := by kernel_rfl
  f145 := Tryz.func75.trans (congrArg some (by kernel_rfl))
  f217 := Tryz.func176.trans (congrArg some (by kernel_rfl))
  f219 := Tryz.func163.trans (congrArg some (by kernel_rfl))
  f220 := Tryz.func126.trans (congrArg some (by kernel_rfl))
  f224 := Tryz.func186.trans (congrArg some (by kernel_rfl))
  f225 := Tryz.func185.trans (congrArg some (by kernel_rfl))
  f266 := Tryz.func214.trans (congrArg some (by kernel_rfl))
  f267 := Tryz.func187.trans (congrArg some (by kernel_rfl))
  f314 := Tryz.func218.trans (congrArg some (by kernel_rfl))
  t3 := Tryz.underlying3
  a3 := Tryz.isAgg3
  z3 := Tryz.sizeOf3
  v3 := Tryz.zeroValue3
  t4 := Tryz.underlying4
  a4 := Tryz.isAgg4
  z4 := Tryz.sizeOf4
  v4 := Tryz.zeroValue4
  t5 := Tryz.underlying5
  a5 := Tryz.isAgg5
  z5 := Tryz.sizeOf5
  v5 := Tryz.zeroValue5
  t9 := Tryz.underlying9
  a9 := Tryz.isAgg9
  z9 := Tryz.sizeOf9
  v9 := Tryz.zeroValue9
  t46 := Tryz.underlying227
  a46 := Tryz.isAgg227
  z46 := Tryz.sizeOf227
  v46 := Tryz.zeroValue227
  t51 := Tryz.underlying252
  a51 := Tryz.isAgg252
  z51 := Tryz.sizeOf252
  v51 := Tryz.zeroValue252
  t59 := Tryz.underlying135
  a59 := Tryz.isAgg135
  z59 := Tryz.sizeOf135
  v59 := Tryz.zeroValue135
  t146 := Tryz.underlying274
  a146 := Tryz.isAgg274
  z146 := Tryz.sizeOf274
  v146 := Tryz.zeroValue274
  g1 := by kernel_rfl }
open Go.RowKit Go.Lib in
theorem Tryz.strings_Cut (s sep : ByteArray) (m : Int) (w : World) (hs : s.size < 4294967281) (hm : w.cell? ⟨2, 0, none⟩ = some (.int .i64 m)) :
    Calls Tryz.prog 75 #[.string s, .string sep] w fun e w' => e = .returned (.tuple #[.string ⟨(Lib.cut s.data.toList sep.data.toList).1.toArray⟩, .string ⟨(Lib.cut s.data.toList sep.data.toList).2.1.toArray⟩, .bool (Lib.cut s.data.toList sep.data.toList).2.2]) ∧ ∃ n, w' = w.drewN n := Any.strings_Cut Tryz.lays145 s sep m w hs hm
def Tryz.lays138_ren : Go.Shelf.Ren := ⟨fun | 138 => 154 | 195 => 179 | 218 => 180 | 143 => 155 | 219 => 163 | 217 => 176 | 225 => 185 | 224 => 186 | 267 => 187 | 266 => 214 | 314 => 218 | n => n, fun | 9 => 9 | 3 => 3 | 4 => 4 | 5 => 5 | 0 => 0 | 46 => 227 | 146 => 274 | 51 => 252 | n => n, fun | 1 => 2 | n => n⟩
theorem Tryz.lays138 : Go.Proofs.Lays.n138 Tryz.prog Tryz.lays138_ren := {
  mixed := by kernel_rfl
  f138 := Tryz.func154.trans (congrArg some (by kernel_rfl))
  f143 := Tryz.func155.trans (congrArg some (by kernel_rfl))
  f195 := Tryz.func179.trans (congrArg some (by kernel_rfl))
  f217 := Tryz.func176.trans (congrArg some (by kernel_rfl))
  f218 := Tryz.func180.trans (congrArg some (by kernel_rfl))
  f219 := Tryz.func163.trans (congrArg some (by kernel_rfl))
  f224 := Tryz.func186.trans (congrArg some (by kernel_rfl))
  f225 := Tryz.func185.trans (congrArg some (by kernel_rfl))
  f266 := Tryz.func214.trans (congrArg some (by kernel_rfl))
  f267 := Tryz.func187.trans (congrArg some (by kernel_rfl))
  f314 := Tryz.func218.trans (congrArg some (by kernel_rfl))
  t0 := Tryz.underlying0
  a0 := Tryz.isAgg0
  z0 := Tryz.sizeOf0
  v0 := Tryz.zeroValue0
  t3 := Tryz.underlying3
  a3 := Tryz.isAgg3
  z3 := Tryz.sizeOf3
  v3 := Tryz.zeroValue3
  t4 := Tryz.underlying4
  a4 := Tryz.isAgg4
  z4 := Tryz.sizeOf4
  v4 := Tryz.zeroValue4
  t5 := Tryz.underlying5
  a5 := Tryz.isAgg5
  z5 := Tryz.sizeOf5
  v5 := Tryz.zeroValue5
  t9 := Tryz.underlying9
  a9 := Tryz.isAgg9
  z9 := Tryz.sizeOf9
  v9 := Tryz.zeroValue9
  t46 := Tryz.underlying227
  a46 := Tryz.isAgg227
  z46 := Tryz.sizeOf227
  v46 := Tryz.zeroValue227
  t51 := Tryz.underlying252
  a51 := Tryz.isAgg252
  z51 := Tryz.sizeOf252
  v51 := Tryz.zeroValue252
  t146 := Tryz.underlying274
  a146 := Tryz.isAgg274
  z146 := Tryz.sizeOf274
  v146 := Tryz.zeroValue274
  g1 := by kernel_rfl }
open Go.RowKit Go.Lib in
theorem Tryz.strings_Count_one (s : ByteArray) (c : UInt8) (w : World) :
    Calls Tryz.prog 154 #[.string s, .string ⟨#[c]⟩] w fun e w' => e = .returned (.int .i64 (Lib.countByte s.data.toList c)) ∧ w' = w := Any.strings_Count_one Tryz.lays138 s c w
def Tryz.lays221_ren : Go.Shelf.Ren := ⟨fun | 221 => 116 | 268 => 153 | 138 => 154 | 143 => 155 | 195 => 179 | 197 => 162 | 218 => 180 | 219 => 163 | 260 => 184 | 217 => 176 | 225 => 185 | 224 => 186 | 267 => 187 | 266 => 214 | 314 => 218 | n => n, fun | 9 => 9 | 3 => 3 | 31 => 58 | 4 => 4 | 0 => 0 | 105 => 221 | 21 => 21 | 5 => 5 | 46 => 227 | 119 => 270 | 139 => 273 | 138 => 272 | 146 => 274 | 51 => 252 | n => n, fun | 1 => 2 | 3 => 3 | 4 => 4 | n => n⟩
theorem Tryz.lays221 : Go.Proofs.Lays.n221 Tryz.prog Tryz.lays221_ren := {
  mixed := by kernel_rfl
  f138 := Tryz.func154.trans (congrArg some (by kernel_rfl))
  f143 := Tryz.func155.trans (congrArg some (by kernel_rfl))
  f195 := Tryz.func179.trans (congrArg some (by kernel_rfl))
  f197 := Tryz.func162.trans (congrArg some (by kernel_rfl))
  f217 := Tryz.func176.trans (congrArg some (by kernel_rfl))
  f218 := Tryz.func180.trans (congrArg some (by kernel_rfl))
  f219 := Tryz.func163.trans (congrArg some (by kernel_rfl))
  f221 := Tryz.func116.trans (congrArg some (by kernel_rfl))
  f224 := Tryz.func186.trans (congrArg some (by kernel_rfl))
  f225 := Tryz.func185.trans (congrArg some (by kernel_rfl))
  f260 := Tryz.func184.trans (congrArg some (by kernel_rfl))
  f266 := Tryz.func214.trans (congrArg some (by kernel_rfl))
  f267 := Tryz.func187.trans (congrArg some (by kernel_rfl))
  f268 := Tryz.func153.trans (congrArg some (by kernel_rfl))
  f314 := Tryz.func218.trans (congrArg some (by kernel_rfl))
  t0 := Tryz.underlying0
  a0 := Tryz.isAgg0
  z0 := Tryz.sizeOf0
  v0 := Tryz.zeroValue0
  t3 := Tryz.underlying3
  a3 := Tryz.isAgg3
  z3 := Tryz.sizeOf3
  v3 := Tryz.zeroValue3
  t4 := Tryz.underlying4
  a4 := Tryz.isAgg4
  z4 := Tryz.sizeOf4
  v4 := Tryz.zeroValue4
  t5 := Tryz.underlying5
  a5 := Tryz.isAgg5
  z5 := Tryz.sizeOf5
  v5 := Tryz.zeroValue5
  t9 := Tryz.underlying9
  a9 := Tryz.isAgg9
  z9 := Tryz.sizeOf9
  v9 := Tryz.zeroValue9
  t21 := Tryz.underlying21
  a21 := Tryz.isAgg21
  z21 := Tryz.sizeOf21
  v21 := Tryz.zeroValue21
  t31 := Tryz.underlying58
  a31 := Tryz.isAgg58
  z31 := Tryz.sizeOf58
  v31 := Tryz.zeroValue58
  t46 := Tryz.underlying227
  a46 := Tryz.isAgg227
  z46 := Tryz.sizeOf227
  v46 := Tryz.zeroValue227
  t51 := Tryz.underlying252
  a51 := Tryz.isAgg252
  z51 := Tryz.sizeOf252
  v51 := Tryz.zeroValue252
  t105 := Tryz.underlying221
  a105 := Tryz.isAgg221
  z105 := Tryz.sizeOf221
  v105 := Tryz.zeroValue221
  t119 := Tryz.underlying270
  a119 := Tryz.isAgg270
  z119 := Tryz.sizeOf270
  t138 := Tryz.underlying272
  a138 := Tryz.isAgg272
  z138 := Tryz.sizeOf272
  v138 := Tryz.zeroValue272
  t139 := Tryz.underlying273
  a139 := Tryz.isAgg273
  z139 := Tryz.sizeOf273
  v139 := Tryz.zeroValue273
  t146 := Tryz.underlying274
  a146 := Tryz.isAgg274
  z146 := Tryz.sizeOf274
  v146 := Tryz.zeroValue274
  g1 := by kernel_rfl
  g3 := by kernel_rfl
  g4 := by kernel_rfl }
end Go.Proofs


set_option maxHeartbeats 2000000
namespace Go.Pv
attribute [local irreducible] PWP POps PQuiet PSem XThen XBlock RetPost InlPost
open Go.Proofs Go.RowKit
theorem itoa_ret (n : Int) (h0 : -9223372036854775808 ≤ n) (h1 : n ≤ 9223372036854775807) : Ret Tryz.prog .shared 89 [I n] (.str (Lib.itoa n)) := by
  refine ⟨⟨_, Go.Proofs.Tryz.func89, by decide, rfl⟩, fun w X args hg hX hl hargs => ?_⟩
  match args, hl with
  | [v], _ =>
    have hv := hargs 0 _ v rfl rfl
    cases hv
    have hg := pow_of hg
    refine (Go.Proofs.Tryz.strconv_Itoa n h0 h1 w hg).mono ?_
    rintro e w' ⟨rfl, k, os, rfl⟩
    exact ⟨_, rfl, Lib.below_grow w.heap.size w (Nat.le_refl _) k os, .str _⟩
theorem join_ret (xs : List Str) (sep : Str) (hN : xs.length ≤ 140737488355328) (hlen : (Lib.join xs sep).length ≤ 140737488355328) : Ret Tryz.prog .shared 115 [.sl (xs.map eS), .str sep] (.str (Lib.join xs sep)) := by
  refine ⟨⟨_, Go.Proofs.Tryz.func115, by decide, rfl⟩, fun w X args hg hX hl hargs => ?_⟩
  match args, hl with
  | [v, u], _ =>
    have hv := hargs 0 _ v rfl rfl
    have hu := hargs 1 _ u rfl rfl
    cases hu
    generalize hr : xs.map eS = rows at hv
    cases hv with
    | sl0 a cap =>
      have : xs = [] := by simpa using hr
      subst this
      refine (Go.Proofs.Tryz.strings_Join_none a cap ⟨sep.toArray⟩ w).mono ?_
      rintro e w' ⟨rfl, rfl⟩
      exact ⟨_, rfl, Below.refl _ _, .str _⟩
    | sl rows b off cap sz vals hb hs hcap hrow hcell hrep =>
      subst hr
      rw [List.length_map] at hcap ⊢
      have hsz : xs ≠ [] → sz = 1 := fun hne => by
        cases xs with
        | nil => exact absurd rfl hne
        | cons x xs => exact (hrow (eS x) (by simp)).symm
      have hmap : (xs.map fun s => (⟨s.toArray⟩ : ByteArray)).map (·.data.toList) = xs := by
        rw [List.map_map]
        exact (List.map_congr_left fun s _ => by simp).trans (List.map_id xs)
      have h := Go.Proofs.Tryz.strings_Join b off cap (xs.map fun s => ⟨s.toArray⟩) ⟨sep.toArray⟩ w (fun j x hx => by
        rw [List.getElem?_map, Option.map_eq_some_iff] at hx
        obtain ⟨s, hs, rfl⟩ := hx
        have hne : xs ≠ [] := fun e => by rw [e] at hs; simp at hs
        have h1 := hcell j 0 (eS s) (.str s) (by rw [List.getElem?_map, hs]; rfl) rfl
        have h2 := hrep j 0 (eS s) (.str s) (by rw [List.getElem?_map, hs]; rfl) rfl
        have h3 : vals j 0 = .string ⟨s.toArray⟩ := (Rep.d (E := ⟨w, _, fun _ => False, fun _ => 0, fun _ => none⟩) h2).str_inv
        rw [h3, hsz hne, Nat.mul_one, Nat.add_zero] at h1
        exact h1.1) hb.1 (by simpa using hN) (by simpa using hcap) (by rw [hmap]; simpa using hlen)
      rw [hmap, List.length_map] at h
      refine h.mono ?_
      rintro e w' ⟨rfl, hbel⟩
      exact ⟨_, rfl, hbel, .str _⟩
end Go.Pv


set_option maxHeartbeats 2000000
namespace Go.Pv
attribute [local irreducible] PWP POps PQuiet PSem XThen XBlock RetPost InlPost
open Go.Proofs
def wordOf (op : Int) : Str := ([[111, 114, 100, 101, 114], [105, 116, 101, 109], [103, 114, 111, 119, 116, 104], [99, 104, 97, 114, 103, 101], [115, 105, 103, 110], [97, 109, 101, 110, 100], [105, 110, 118, 111, 105, 99, 101], [112, 97, 121], [119, 105, 116, 104, 100, 114, 97, 119]] : List Str).getD op.toNat []
def wordL : List Str := [[111, 114, 100, 101, 114], [105, 116, 101, 109], [103, 114, 111, 119, 116, 104], [99, 104, 97, 114, 103, 101], [115, 105, 103, 110], [97, 109, 101, 110, 100], [105, 110, 118, 111, 105, 99, 101], [112, 97, 121], [119, 105, 116, 104, 100, 114, 97, 119]]
theorem words_ret : Ret Tryz.prog .fresh 64 [] (.sl (wordL.map eS)) := by
  refine Ret.of_pwp layOk mixed Go.Proofs.Tryz.func64 rfl (by decide) rfl rfl ?_
  repeat (refine stp rfl ?_ ?_;·repeat' constructor)
  apply qst;exact rfl;exact rfl;exact q_slit rfl rfl rfl rfl rfl rfl rfl rfl rfl rfl (by repeat' constructor) rfl
  repeat (refine stp rfl ?_ ?_;·repeat' constructor)
  exact end1f rfl rfl rfl trivial rfl
def Fd.out (p : SPost) (f : Fd) : Str := match f with
  | .o | .i | .s | .w => f.txt p
  | .a _ _ | .r _ _ | .l _ _ => Lib.itoa (f.num p)
def outL (p : SPost) (k : Nat) : List Str := [Lib.itoa p.day, wordOf p.op] ++ ((fdsOf p.op).take k).map (Fd.out p)
def textP (p : SPost) : Str := Lib.join (outL p (fdsOf p.op).length) [32]
theorem nDigits_le : ∀ (u : Nat), Lib.nDigits u ≤ u + 1 := fun u => by
  induction u using Nat.strongRecOn with
  | _ u ih =>
    by_cases h : u < 10
    · rw [Lib.nDigits_small h]; omega
    · rw [Lib.nDigits_big h]
      have := ih (u / 10) (by omega)
      omega
theorem itoa_len {n : Int} (h0 : -1000000000 ≤ n) (h1 : n ≤ 1000000000) : (Lib.itoa n).length ≤ 1000000010 := by
  rw [Lib.itoa]
  split
  · rw [List.length_cons, Lib.decDigits_length]
    have := nDigits_le n.natAbs
    omega
  · rw [Lib.decDigits_length]
    have := nDigits_le n.toNat
    omega
theorem lens_le {xs : List Str} {c : Nat} (h : ∀ x, x ∈ xs → x.length ≤ c) : Lib.lens xs ≤ xs.length * c := by
  unfold Lib.lens
  induction xs with
  | nil => simp
  | cons x xs ih =>
    have h1 := h x (by simp)
    have := ih fun y hy => h y (by simp [hy])
    simp only [List.map_cons, List.sum_cons, List.length_cons, Nat.add_mul, Nat.one_mul]
    omega
theorem fdsOf_lim {op : Int} {f : Fd} (h : f ∈ fdsOf op) (hi : inside op 0 8 = true) : match f with
    | .a lo hi | .r lo hi | .l lo hi => -1000000000 ≤ lo ∧ hi ≤ 1000000000
    | _ => True := by
  rcases op_cases hi with rfl | rfl | rfl | rfl | rfl | rfl | rfl | rfl | rfl <;> clear hi <;> simp [fdsOf] at h <;> rcases h with rfl | rfl | rfl | rfl <;> simp
def Fd.fine (p : SPost) (f : Fd) : Prop := match f with
    | .a _ _ | .r _ _ | .l _ _ => -1000000000 ≤ f.num p ∧ f.num p ≤ 1000000000
    | _ => (f.txt p).length ≤ 12
theorem num_lim {p : SPost} (hc : checkE p = 0) {k : Nat} {f : Fd} (hf : (fdsOf p.op)[k]? = some f) : f.fine p := by
  have h1 := checkE_op hc
  have he := fstE_zero h1.2.2 k f hf
  have hl := fdsOf_lim (List.mem_of_getElem? hf) h1.1
  have nm : ∀ s : Str, (if isName s = true then (0 : Int) else 4) = 0 → s.length ≤ 12 := fun s h => by
    by_cases hn : isName s = true
    · simp only [isName, Bool.and_eq_true, decide_eq_true_eq] at hn; omega
    · rw [if_neg hn] at h; omega
  have nb : ∀ n lo hi : Int, (if inside n lo hi = true then (0 : Int) else 2) = 0 → lo ≤ n ∧ n ≤ hi := fun n lo hi h => by
    by_cases hn : inside n lo hi = true
    · simpa [inside] using hn
    · rw [if_neg hn] at h; omega
  cases f with
  | o => exact nm _ he
  | i => exact nm _ he
  | s => exact nm _ he
  | w => exact nm _ he
  | a lo hi => have := nb _ _ _ he; have hl : _ ∧ _ := hl; exact ⟨by omega, by omega⟩
  | r lo hi => have := nb _ _ _ he; have hl : _ ∧ _ := hl; exact ⟨by omega, by omega⟩
  | l lo hi => have := nb _ _ _ he; have hl : _ ∧ _ := hl; exact ⟨by omega, by omega⟩
theorem textP_len {p : SPost} (hc : checkE p = 0) : (textP p).length ≤ 140737488355328 := by
  have h1 := checkE_op hc
  have hfl := fdsOf_len p.op
  have hd : (Lib.itoa p.day).length ≤ 1000000010 := by
    have := h1.2.1
    simp only [inside, Bool.and_eq_true, decide_eq_true_eq] at this
    exact itoa_len (by omega) (by omega)
  have hw : (wordOf p.op).length ≤ 1000000010 := by
    rcases op_cases h1.1 with h | h | h | h | h | h | h | h | h <;> rw [h] <;> decide
  have hall : ∀ x, x ∈ outL p (fdsOf p.op).length → x.length ≤ 1000000010 := by
    intro x hx
    rw [outL, List.take_length] at hx
    simp only [List.cons_append, List.nil_append, List.mem_cons, List.mem_map] at hx
    rcases hx with rfl | rfl | ⟨f, hf, rfl⟩
    · exact hd
    · exact hw
    · obtain ⟨k, hk, hfe⟩ := List.getElem_of_mem hf
      have := num_lim hc (k := k) (f := f) (by rw [← hfe]; exact List.getElem?_eq_getElem hk)
      cases f
      case a => exact itoa_len this.1 this.2
      case r => exact itoa_len this.1 this.2
      case l => exact itoa_len this.1 this.2
      all_goals (have h' : (_ : Nat) ≤ 12 := this; exact Nat.le_trans h' (by omega))
  have hll : (outL p (fdsOf p.op).length).length = 2 + (fdsOf p.op).length := by simp [outL]; omega
  have hs := lens_le hall
  rw [textP]
  generalize hL : outL p (fdsOf p.op).length = L at *
  cases L with
  | nil => simp [Lib.join_nil]
  | cons x r =>
    rw [Lib.join_length]
    simp only [List.length_cons, List.length_nil] at *
    omega
end Go.Pv


set_option maxHeartbeats 2000000
namespace Go.Pv
attribute [local irreducible] PWP POps PQuiet PSem XThen XBlock RetPost InlPost
open Go.Proofs
theorem outL_succ (p : SPost) {k : Nat} {f : Fd} (h : (fdsOf p.op)[k]? = some f) : outL p (k + 1) = outL p k ++ [f.out p] := by
  rw [outL, outL, take_snoc h, List.map_append]; simp
set_option maxRecDepth 20000 in
theorem written_ret (p : SPost) (hc : checkE p = 0) : Ret Tryz.prog .shared 56 [.agg (ePost p)] (.str (textP p)) := by
  have h1 := checkE_op hc
  have hfl := fdsOf_len p.op
  have htl : ((fdsOf p.op).map Fd.tm).length = (fdsOf p.op).length := List.length_map _
  have hday := h1.2.1
  simp only [inside, Bool.and_eq_true, decide_eq_true_eq] at hday
  have hit := itoa_ret p.day (by omega) (by omega)
  have hop := op_cases h1.1
  have hop0 : 0 ≤ p.op := by omega
  have hw : wordL[p.op.toNat]? = some (wordOf p.op) := by
    rcases hop with h | h | h | h | h | h | h | h | h <;> rw [h] <;> rfl
  have hj := join_ret (outL p (fdsOf p.op).length) [32] (by simp [outL]; omega) (textP_len hc)
  have hlims := fun (k : Nat) (f : Fd) (h : (fdsOf p.op)[k]? = some f) => num_lim hc h
  have houts := fun (k : Nat) (f : Fd) (h : (fdsOf p.op)[k]? = some f) => outL_succ p h
  rw [textP]
  have ho0 : outL p 0 = [Lib.itoa p.day, wordOf p.op] := rfl
  clear hop h1 hday hc
  generalize Lib.itoa p.day = dy at *
  generalize wordOf p.op = wd at *
  refine Ret.of_pwp layOk mixed Go.Proofs.Tryz.func56 rfl (by decide) rfl rfl ?_
  ((repeat (first | refine ps_nil ?_ | refine pq_nil ?_ | refine x_norm ?_ | refine pw_seq ?_)); refine pw_region ?_)
  refine ps_run (o_box rfl rfl rfl (by repeat' constructor) rfl ?_)
  repeat (refine stp rfl ?_ ?_;·repeat' constructor)
  refine pw_draw 8 [6, 7, 8, 9, 10, 11, 12, 13] (by decide +kernel) ?_
  repeat (refine stp rfl ?_ ?_;·repeat' constructor)
  apply qst;exact rfl;exact rfl;exact q_callP rfl (hit) rfl (by repeat' constructor) rfl rfl
  repeat (refine stp rfl ?_ ?_;·repeat' constructor)
  apply qst;exact rfl;exact rfl;exact q_callF rfl (words_ret) rfl (by repeat' constructor) rfl
  repeat (refine stp rfl ?_ ?_;·repeat' constructor)
  apply qst;exact rfl;exact rfl;exact q_idxmF rfl rfl rfl rfl rfl (by omega) hw rfl
  repeat (refine stp rfl ?_ ?_;·repeat' constructor)
  refine ps_run (o_slit 0 rfl rfl rfl rfl rfl rfl rfl rfl rfl rfl rfl (by repeat' constructor) rfl ?_)
  refine ps_v rfl trivial ?_
  refine ps_nil ?_
  ((repeat (first | refine x_norm ?_ | refine pw_seq ?_)); refine pw_regionS 0 ?_)
  refine ps_nil ?_
  refine psem_sm rfl (sm_callP ((fdsOf p.op).map Fd.tm) (fun b off => fields_tm b off p.op) rfl rfl rfl rfl rfl rfl (fdsOf_tm_ok p.op) rfl ?_)
  refine psem_ops ?_
  rw [htl]
  repeat (refine stp rfl ?_ ?_;·repeat' constructor)
  have hrow : ∀ (k : Nat) (f : Fd), (fdsOf p.op)[k]? = some f → (((fdsOf p.op).map Fd.tm).map fun r => r.map (TC.inst fun o => PV.ptr 1 1 0 o))[0 + (k : Int).toNat]? = some (f.tm.map (TC.inst fun o => PV.ptr 1 1 0 o)) := fun k f h => by
    rw [List.getElem?_map, List.getElem?_map, Int.toNat_natCast, Nat.zero_add, h]; rfl
  generalize (((fdsOf p.op).map Fd.tm).map fun r => r.map (TC.inst fun o => PV.ptr 1 1 0 o)) = rows at hrow
  generalize fdsOf p.op = fs at *
  refine pw_loop (fun k => k ≤ fs.length) (fun k => [(1, .ptr 1 1 0 0), (3, .als 14 (1 + k) 0 ((outL p k).map eS).length), (15, .als 15 1 0 fs.length), (16, I fs.length), (17, I k)]) (fun k => [(1, 1, ⟨23, 9, [ePost p], 2⟩), (14, 1 + k, ⟨9, 1, (outL p k).map eS, 0⟩), (15, 1, ⟨125, 4, rows, 2⟩)]) (fun k => fs.length - k) 0 (Nat.zero_le _) ⟨rfl, by rw [ho0]; rfl, rfl, rfl, rfl, rfl, by rw [ho0]; rfl, rfl, trivial⟩ ?_
  intro k s hk
  have hk : k ≤ fs.length := hk
  repeat (refine stp rfl ?_ ?_;·repeat' constructor)
  refine pw_cond rfl (fun h => ?_) (fun h => ?_)
  · have hlt : k < fs.length := by have := of_decide_eq_true h; omega
    clear h
    obtain ⟨f, hf⟩ := get_lt hlt
    have hr := hrow k f hf
    have hlim := hlims k f hf
    have hs := houts k f hf
    have hol : (outL p k).length ≤ 10 := by rw [outL]; simp; omega
    clear hrow hlims houts hj
    cases f
    case o =>
      repeat (refine stp rfl ?_ ?_;·repeat' constructor)
      apply qst;exact rfl;exact rfl;exact q_idxA rfl rfl rfl rfl rfl rfl rfl (by omega) (by omega)
      apply qst;exact rfl;exact rfl;exact q_ldp rfl rfl rfl hr rfl
      repeat (refine stp rfl ?_ ?_;·repeat' constructor)
      apply qst;exact rfl;exact rfl;exact q_slit rfl rfl rfl rfl rfl rfl rfl rfl rfl rfl (by repeat' constructor) rfl
      repeat (refine stp rfl ?_ ?_;·repeat' constructor)
      refine ps_run (o_app 0 rfl rfl rfl rfl rfl rfl rfl rfl rfl rfl rfl (by repeat' constructor) (by intro row hr; first | (simp at hr; subst hr; rfl) | simp at hr) rfl rfl (by simp; omega) (by simp; omega) ?_)
      repeat (refine stp rfl ?_ ?_;·repeat' constructor)
      refine ⟨k + 1, hlt, by omega, rfl, ?_, rfl, rfl, i64_next (by omega) (by omega), rfl, ?_, rfl, trivial⟩
      · rw [hs, List.map_append]; rfl
      · rw [hs, List.map_append]; rfl
    case i =>
      repeat (refine stp rfl ?_ ?_;·repeat' constructor)
      apply qst;exact rfl;exact rfl;exact q_idxA rfl rfl rfl rfl rfl rfl rfl (by omega) (by omega)
      apply qst;exact rfl;exact rfl;exact q_ldp rfl rfl rfl hr rfl
      repeat (refine stp rfl ?_ ?_;·repeat' constructor)
      apply qst;exact rfl;exact rfl;exact q_slit rfl rfl rfl rfl rfl rfl rfl rfl rfl rfl (by repeat' constructor) rfl
      repeat (refine stp rfl ?_ ?_;·repeat' constructor)
      refine ps_run (o_app 0 rfl rfl rfl rfl rfl rfl rfl rfl rfl rfl rfl (by repeat' constructor) (by intro row hr; first | (simp at hr; subst hr; rfl) | simp at hr) rfl rfl (by simp; omega) (by simp; omega) ?_)
      repeat (refine stp rfl ?_ ?_;·repeat' constructor)
      refine ⟨k + 1, hlt, by omega, rfl, ?_, rfl, rfl, i64_next (by omega) (by omega), rfl, ?_, rfl, trivial⟩
      · rw [hs, List.map_append]; rfl
      · rw [hs, List.map_append]; rfl
    case s =>
      repeat (refine stp rfl ?_ ?_;·repeat' constructor)
      apply qst;exact rfl;exact rfl;exact q_idxA rfl rfl rfl rfl rfl rfl rfl (by omega) (by omega)
      apply qst;exact rfl;exact rfl;exact q_ldp rfl rfl rfl hr rfl
      repeat (refine stp rfl ?_ ?_;·repeat' constructor)
      apply qst;exact rfl;exact rfl;exact q_slit rfl rfl rfl rfl rfl rfl rfl rfl rfl rfl (by repeat' constructor) rfl
      repeat (refine stp rfl ?_ ?_;·repeat' constructor)
      refine ps_run (o_app 0 rfl rfl rfl rfl rfl rfl rfl rfl rfl rfl rfl (by repeat' constructor) (by intro row hr; first | (simp at hr; subst hr; rfl) | simp at hr) rfl rfl (by simp; omega) (by simp; omega) ?_)
      repeat (refine stp rfl ?_ ?_;·repeat' constructor)
      refine ⟨k + 1, hlt, by omega, rfl, ?_, rfl, rfl, i64_next (by omega) (by omega), rfl, ?_, rfl, trivial⟩
      · rw [hs, List.map_append]; rfl
      · rw [hs, List.map_append]; rfl
    case w =>
      repeat (refine stp rfl ?_ ?_;·repeat' constructor)
      apply qst;exact rfl;exact rfl;exact q_idxA rfl rfl rfl rfl rfl rfl rfl (by omega) (by omega)
      apply qst;exact rfl;exact rfl;exact q_ldp rfl rfl rfl hr rfl
      repeat (refine stp rfl ?_ ?_;·repeat' constructor)
      apply qst;exact rfl;exact rfl;exact q_slit rfl rfl rfl rfl rfl rfl rfl rfl rfl rfl (by repeat' constructor) rfl
      repeat (refine stp rfl ?_ ?_;·repeat' constructor)
      refine ps_run (o_app 0 rfl rfl rfl rfl rfl rfl rfl rfl rfl rfl rfl (by repeat' constructor) (by intro row hr; first | (simp at hr; subst hr; rfl) | simp at hr) rfl rfl (by simp; omega) (by simp; omega) ?_)
      repeat (refine stp rfl ?_ ?_;·repeat' constructor)
      refine ⟨k + 1, hlt, by omega, rfl, ?_, rfl, rfl, i64_next (by omega) (by omega), rfl, ?_, rfl, trivial⟩
      · rw [hs, List.map_append]; rfl
      · rw [hs, List.map_append]; rfl
    case a lo hi =>
      have hi := itoa_ret _ (Int.le_trans (by decide) hlim.1) (Int.le_trans hlim.2 (by decide))
      repeat (refine stp rfl ?_ ?_;·repeat' constructor)
      apply qst;exact rfl;exact rfl;exact q_idxA rfl rfl rfl rfl rfl rfl rfl (by omega) (by omega)
      apply qst;exact rfl;exact rfl;exact q_ldp rfl rfl rfl hr rfl
      repeat (refine stp rfl ?_ ?_;·repeat' constructor)
      apply qst;exact rfl;exact rfl;exact q_callP rfl (hi) rfl (by repeat' constructor) rfl rfl
      repeat (refine stp rfl ?_ ?_;·repeat' constructor)
      apply qst;exact rfl;exact rfl;exact q_slit rfl rfl rfl rfl rfl rfl rfl rfl rfl rfl (by repeat' constructor) rfl
      repeat (refine stp rfl ?_ ?_;·repeat' constructor)
      refine ps_run (o_app 0 rfl rfl rfl rfl rfl rfl rfl rfl rfl rfl rfl (by repeat' constructor) (by intro row hr; first | (simp at hr; subst hr; rfl) | simp at hr) rfl rfl (by simp; omega) (by simp; omega) ?_)
      repeat (refine stp rfl ?_ ?_;·repeat' constructor)
      refine ⟨k + 1, hlt, by omega, rfl, ?_, rfl, rfl, i64_next (by omega) (by omega), rfl, ?_, rfl, trivial⟩
      · rw [hs, List.map_append]; rfl
      · rw [hs, List.map_append]; rfl
    case r lo hi =>
      have hi := itoa_ret _ (Int.le_trans (by decide) hlim.1) (Int.le_trans hlim.2 (by decide))
      repeat (refine stp rfl ?_ ?_;·repeat' constructor)
      apply qst;exact rfl;exact rfl;exact q_idxA rfl rfl rfl rfl rfl rfl rfl (by omega) (by omega)
      apply qst;exact rfl;exact rfl;exact q_ldp rfl rfl rfl hr rfl
      repeat (refine stp rfl ?_ ?_;·repeat' constructor)
      apply qst;exact rfl;exact rfl;exact q_callP rfl (hi) rfl (by repeat' constructor) rfl rfl
      repeat (refine stp rfl ?_ ?_;·repeat' constructor)
      apply qst;exact rfl;exact rfl;exact q_slit rfl rfl rfl rfl rfl rfl rfl rfl rfl rfl (by repeat' constructor) rfl
      repeat (refine stp rfl ?_ ?_;·repeat' constructor)
      refine ps_run (o_app 0 rfl rfl rfl rfl rfl rfl rfl rfl rfl rfl rfl (by repeat' constructor) (by intro row hr; first | (simp at hr; subst hr; rfl) | simp at hr) rfl rfl (by simp; omega) (by simp; omega) ?_)
      repeat (refine stp rfl ?_ ?_;·repeat' constructor)
      refine ⟨k + 1, hlt, by omega, rfl, ?_, rfl, rfl, i64_next (by omega) (by omega), rfl, ?_, rfl, trivial⟩
      · rw [hs, List.map_append]; rfl
      · rw [hs, List.map_append]; rfl
    case l lo hi =>
      have hi := itoa_ret _ (Int.le_trans (by decide) hlim.1) (Int.le_trans hlim.2 (by decide))
      repeat (refine stp rfl ?_ ?_;·repeat' constructor)
      apply qst;exact rfl;exact rfl;exact q_idxA rfl rfl rfl rfl rfl rfl rfl (by omega) (by omega)
      apply qst;exact rfl;exact rfl;exact q_ldp rfl rfl rfl hr rfl
      repeat (refine stp rfl ?_ ?_;·repeat' constructor)
      apply qst;exact rfl;exact rfl;exact q_callP rfl (hi) rfl (by repeat' constructor) rfl rfl
      repeat (refine stp rfl ?_ ?_;·repeat' constructor)
      apply qst;exact rfl;exact rfl;exact q_slit rfl rfl rfl rfl rfl rfl rfl rfl rfl rfl (by repeat' constructor) rfl
      repeat (refine stp rfl ?_ ?_;·repeat' constructor)
      refine ps_run (o_app 0 rfl rfl rfl rfl rfl rfl rfl rfl rfl rfl rfl (by repeat' constructor) (by intro row hr; first | (simp at hr; subst hr; rfl) | simp at hr) rfl rfl (by simp; omega) (by simp; omega) ?_)
      repeat (refine stp rfl ?_ ?_;·repeat' constructor)
      refine ⟨k + 1, hlt, by omega, rfl, ?_, rfl, rfl, i64_next (by omega) (by omega), rfl, ?_, rfl, trivial⟩
      · rw [hs, List.map_append]; rfl
      · rw [hs, List.map_append]; rfl
  · have hz : k = fs.length := by have := of_decide_eq_false h; omega
    subst hz
    repeat (refine stp rfl ?_ ?_;·repeat' constructor)
    apply qst;exact rfl;exact rfl;exact q_callP rfl (hj) rfl (by repeat' constructor) rfl rfl
    repeat (refine stp rfl ?_ ?_;·repeat' constructor)
    exact end1 rfl rfl rfl trivial rfl
theorem format_ret (p : SPost) (hc : checkE p = 0) : Ret Tryz.prog .shared 12 [.agg (ePost p)] (.tup [.str (textP p), I 0]) := by
  have h1 := checkPost_ret p
  have h2 := written_ret p hc
  rw [hc] at h1
  refine Ret.of_pwp layOk mixed Go.Proofs.Tryz.func12 rfl (by decide) rfl rfl ?_
  repeat (refine stp rfl ?_ ?_;·repeat' constructor)
  apply qst;exact rfl;exact rfl;exact q_callP rfl (h1) rfl (by repeat' constructor) rfl rfl
  repeat (refine stp rfl ?_ ?_;·repeat' constructor)
  apply qst;exact rfl;exact rfl;exact q_callP rfl (h2) rfl (by repeat' constructor) rfl rfl
  repeat (refine stp rfl ?_ ?_;·repeat' constructor)
  exact end2 rfl rfl rfl rfl rfl trivial trivial rfl
end Go.Pv


set_option maxHeartbeats 2000000
namespace Go.Pv
attribute [local irreducible] PWP POps PQuiet PSem XThen XBlock RetPost InlPost
open Go.Proofs
def valF (l : List SPost) (n : Int) (b : Nat) : Int := if 0 < latF l n b then (entL l (latF l n b)).amount else (entL l n).amount
theorem value_ret (l : List SPost) (hO : Ok l) (n : Int) (b : Nat) (hn : 1 ≤ n) (hnb : n ≤ b) (hb : b ≤ l.length) : Ret Tryz.prog .shared 145 [.dref (eBook l) 0, I n, I (b + 1)] (I (valF l n b)) := by
  have hl := hO.wf.len
  have hlt := latest_ret l hO n b hn hnb hb
  have hlb := latF_bounds l n b
  have he := entry_ret l n hn (by omega) hl
  have he2 := fun h => entry_ret l (latF l n b) h (by omega) hl
  rw [valF]
  generalize latF l n b = m at *
  refine Ret.of_pwp layOk mixed Go.Proofs.Tryz.func145 rfl (by decide) rfl rfl ?_
  repeat (refine stp rfl ?_ ?_;·repeat' constructor)
  apply qst;exact rfl;exact rfl;exact q_callP rfl (hlt) rfl (by repeat' constructor) rfl rfl
  repeat (refine stp rfl ?_ ?_;·repeat' constructor)
  refine pw_cond rfl (fun h => ?_) (fun h => ?_)
  · have h0 := of_decide_eq_true h
    have he2 := he2 (by omega)
    rw [if_pos h0]
    repeat (refine stp rfl ?_ ?_;·repeat' constructor)
    apply qst;exact rfl;exact rfl;exact q_call rfl (he2) rfl (by repeat' constructor) rfl
    repeat (refine stp rfl ?_ ?_;·repeat' constructor)
    exact end1i rfl rfl rfl
  · have h0 := of_decide_eq_false h
    rw [if_neg h0]
    repeat (refine stp rfl ?_ ?_;·repeat' constructor)
    apply qst;exact rfl;exact rfl;exact q_call rfl (he) rfl (by repeat' constructor) rfl
    repeat (refine stp rfl ?_ ?_;·repeat' constructor)
    exact end1i rfl rfl rfl
def exO : Str := [79, 49]
def exI : Str := [115, 104, 97, 102, 116]
def exL : List SPost := [⟨0, 0, exO, [], [73, 100, 97], [], 0, 0, 0⟩, ⟨1, 0, exO, exI, [], [], 5000, 0, 0⟩, ⟨3, 1, exO, exI, [], [97, 110, 110], 3000, 0, 0⟩, ⟨4, 1, [], [], [], [98, 111, 98], 0, 3, 0⟩, ⟨6, 3, exO, [], [], [], 0, 0, 0⟩]
theorem example_ret : Ret Tryz.prog .fresh 54 [] (.sl (exL.map ePost)) := by
  refine Ret.of_pwp layOk mixed Go.Proofs.Tryz.func54 rfl (by decide) rfl rfl ?_
  repeat (refine stp rfl ?_ ?_;·repeat' constructor)
  apply qst;exact rfl;exact rfl;exact q_slit rfl rfl rfl rfl rfl rfl rfl rfl rfl rfl (by repeat' constructor) rfl
  repeat (refine stp rfl ?_ ?_;·repeat' constructor)
  exact end1f rfl rfl rfl trivial rfl
theorem exL_acc : Acc exL := by
  have h : ∀ (l : List SPost) (p : SPost), Acc l → cleanP p = p → refusalR l p = 0 → Acc (l ++ [p]) := fun l p h1 h2 h3 => by have := h1.snoc h3; rwa [h2] at this
  have a0 : Acc ([] ++ [(⟨0, 0, exO, [], [73, 100, 97], [], 0, 0, 0⟩ : SPost)]) := h _ _ Acc.nil (by decide) (by decide)
  have a1 := h _ ⟨1, 0, exO, exI, [], [], 5000, 0, 0⟩ a0 (by decide) (by decide)
  have a2 := h _ ⟨3, 1, exO, exI, [], [97, 110, 110], 3000, 0, 0⟩ a1 (by decide) (by decide)
  have a3 := h _ ⟨4, 1, [], [], [], [98, 111, 98], 0, 3, 0⟩ a2 (by decide) (by decide)
  exact h _ ⟨6, 3, exO, [], [], [], 0, 0, 0⟩ a3 (by decide) (by decide)
theorem exText : textP ⟨3, 1, exO, exI, [], [97, 110, 110], 3000, 0, 0⟩ = [49, 32, 99, 104, 97, 114, 103, 101, 32, 79, 49, 32, 115, 104, 97, 102, 116, 32, 97, 110, 110, 32, 51, 48, 48, 48] := by decide +kernel
end Go.Pv


set_option maxHeartbeats 2000000
namespace Go.Pv
attribute [local irreducible] PWP POps PQuiet PSem XThen XBlock RetPost InlPost
open Go.Proofs
structure SAcct where
  item : Str
  est : Int
  gro : Int
  chg : Int
  sig : Int
  bil : Int
  ovr : Int
  deriving DecidableEq, Inhabited
def eAcct (a : SAcct) : List PV := [.str a.item, I a.est, I a.gro, I a.chg, I a.sig, I a.bil, I a.ovr]
def sget : List (Str × Int) → Str → Int
  | [], _ => 0
  | (d, c) :: m, k => if d = k then c else sget m k
def sput (k : Str) (v : Int) : List (Str × Int) → List (Str × Int)
  | [] => [(k, v)]
  | (d, c) :: m => if d = k then (d, v) :: m else (d, c) :: sput k v m
def eSV (e : Str × Int) : List PV := [.str e.1, I e.2]
theorem mval_sv (d : Str) : ∀ m : List (Str × Int), mval (I 0) (.str d) (m.map eSV) = I (sget m d)
  | [] => rfl
  | (e, c) :: m => by
    rw [List.map_cons, mval_cons, mval_sv d m]
    have : mhd (.str d) (eSV (e, c)) = decide (e = d) := rfl
    rw [this, sget]
    by_cases h : e = d
    · rw [if_pos h, decide_eq_true h]; rfl
    · rw [if_neg h, decide_eq_false h]; rfl
theorem mput_sv (d : Str) (v : Int) : ∀ m : List (Str × Int), mput (.str d) (I v) (m.map eSV) = (sput d v m).map eSV
  | [] => rfl
  | (e, c) :: m => by
    rw [List.map_cons, mput_cons, mput_sv d v m]
    have : mhd (.str d) (eSV (e, c)) = decide (e = d) := rfl
    rw [this, sput]
    by_cases h : e = d
    · rw [if_pos h, decide_eq_true h]; rfl
    · rw [if_neg h, decide_eq_false h]; rfl
theorem keyed_sv (m : List (Str × Int)) : keyed .str (m.map eSV) = true := by
  induction m with
  | nil => rfl
  | cons e m ih => rw [List.map_cons]; exact ih
theorem keyedG_sv (m : List (Str × Int)) : keyedG .str none (m.map eSV) = true := by
  induction m with
  | nil => rfl
  | cons e m ih => rw [List.map_cons]; exact ih
theorem sget_sput (k : Str) (v : Int) (d : Str) : ∀ m : List (Str × Int), sget (sput k v m) d = if k = d then v else sget m d
  | [] => rfl
  | (e, c) :: m => by
    have ih := sget_sput k v d m
    simp only [sput, sget]
    by_cases h : e = k
    · subst h
      rw [if_pos rfl, sget]
      by_cases h2 : e = d
      · rw [if_pos h2, if_pos h2]
      · rw [if_neg h2, if_neg h2, if_neg h2]
    · rw [if_neg h, sget, ih]
      by_cases h2 : e = d
      · subst h2; rw [if_pos rfl, if_neg (fun e => h e.symm), if_pos rfl]
      · rw [if_neg h2, if_neg h2]
def Lim (n : Int) : Prop := -1000000000 ≤ n ∧ n ≤ 1000000000
theorem clean_amount {p : SPost} (hc : checkE p = 0) : Lim (cleanP p).amount := by
  have key : ∀ (fs : List Fd) (o : SPost), Lim o.amount → (∀ f, f ∈ fs → f.fine p) → Lim (fs.foldl (fun o f => f.set p o) o).amount := by
    intro fs
    induction fs with
    | nil => intro o ho _; exact ho
    | cons f fs ih =>
      intro o ho hf
      rw [List.foldl_cons]
      refine ih _ ?_ fun g hg => hf g (by simp [hg])
      have := hf f (by simp)
      cases f <;> first | exact ho | exact this
  refine key _ _ (show Lim 0 from ⟨by decide, by decide⟩) fun f hf => ?_
  obtain ⟨k, hk, hfe⟩ := List.getElem_of_mem hf
  exact num_lim hc (k := k) (f := f) (by rw [← hfe]; exact List.getElem?_eq_getElem hk)
theorem Acc.amt {l : List SPost} (h : Acc l) : ∀ (j : Nat) p, l[j]? = some p → Lim p.amount := by
  induction h with
  | nil => intro j p h; simp at h
  | snoc _ hr ih =>
    intro j p hp
    rcases snoc_get hp with ⟨_, hp⟩ | ⟨_, rfl⟩
    · exact ih j p hp
    · exact clean_amount (refusalR_zero hr).1
theorem valF_lim {l : List SPost} (h : Acc l) (n : Int) (b : Nat) (hn : 1 ≤ n) (hnb : n ≤ b) (hb : b ≤ l.length) : Lim (valF l n b) := by
  have hlb := latF_bounds l n b
  rw [valF]
  split
  · exact h.amt _ _ (entL_at (by omega) (by omega))
  · exact h.amt _ _ (entL_at hn (by omega))
def accI (o : Str) (l : List SPost) (n : Int) : Bool := decide ((entL l n).order = o) && liveB l n
def billF (l : List SPost) (n : Int) : Int := if 0 < invF l n l.length then valF l n (invF l n l.length - 1).toNat else 0
def accS (l : List SPost) (o : Str) (n : Int) (M : List SAcct × List (Str × Int)) : List SAcct × List (Str × Int) :=
  if accI o l n = false then M
  else if (entL l n).op = 1 then (M.1 ++ [⟨(entL l n).item, valF l n l.length, 0, 0, 0, 0, 0⟩], sput (entL l n).item M.1.length M.2)
  else if (entL l n).op = 2 then
    (if sgdB l n l.length 1 = true then (M.1.modify (sget M.2 (entL l n).item).toNat (fun a => { a with gro := a.gro + valF l n l.length }), M.2) else M)
  else if (entL l n).op = 3 then
    (M.1.modify (sget M.2 (entL l n).item).toNat (fun a => { a with chg := a.chg + valF l n l.length, sig := a.sig + (if sgdB l n l.length 0 = true then valF l n l.length else 0), bil := a.bil + billF l n }), M.2)
  else M
def accK (l : List SPost) (o : Str) : Nat → List SAcct × List (Str × Int)
  | 0 => ([], [])
  | k + 1 => accS l o ((k : Int) + 1) (accK l o k)
def ovrA (a : SAcct) : SAcct := { a with ovr := max 0 (a.chg - a.est - a.gro) }
def accP (l : List SPost) (o : Str) : List SAcct := (accK l o l.length).1.map ovrA
end Go.Pv


set_option maxHeartbeats 2000000
namespace Go.Pv
attribute [local irreducible] PWP POps PQuiet PSem XThen XBlock RetPost InlPost
open Go.Proofs
def LimA (B : Int) (a : SAcct) : Prop := (-B ≤ a.est ∧ a.est ≤ B) ∧ (-B ≤ a.gro ∧ a.gro ≤ B) ∧ (-B ≤ a.chg ∧ a.chg ≤ B) ∧ (-B ≤ a.sig ∧ a.sig ≤ B) ∧ (-B ≤ a.bil ∧ a.bil ≤ B) ∧ a.ovr = 0
structure AccInv (l : List SPost) (o : Str) (k : Nat) (M : List SAcct × List (Str × Int)) : Prop where
  idx : ∀ j : Int, 1 ≤ j → j ≤ k → (entL l j).op = 1 → accI o l j = true → 0 ≤ sget M.2 (entL l j).item ∧ sget M.2 (entL l j).item < M.1.length
  lim : ∀ a, a ∈ M.1 → LimA (1000000000 * k) a
  len : M.1.length ≤ k
theorem LimA.mono {B B' : Int} {a : SAcct} (h : LimA B a) (hb : B ≤ B') : LimA B' a := by
  obtain ⟨h1, h2, h3, h4, h5, h6⟩ := h
  exact ⟨by omega, by omega, by omega, by omega, by omega, h6⟩
theorem mem_modify {α : Type} {l : List α} {i : Nat} {f : α → α} {x : α} (h : x ∈ l.modify i f) : x ∈ l ∨ ∃ y, y ∈ l ∧ x = f y := by
  obtain ⟨j, hj, rfl⟩ := List.getElem_of_mem h
  have hj' : j < l.length := by simpa using hj
  rw [List.getElem_modify]
  split
  · exact .inr ⟨l[j], by simp, rfl⟩
  · exact .inl (by simp)
theorem billF_lim {l : List SPost} (h : Acc l) {n : Int} (hn : 1 ≤ n) (hnl : n ≤ l.length) : Lim (billF l n) := by
  rw [billF]
  split
  · rename_i h0
    have key : ∀ k : Nat, 0 < invF l n k → n < invF l n k ∧ invF l n k ≤ k := by
      intro k
      induction k with
      | zero => intro h; simp [invF] at h
      | succ k ih =>
        intro h
        rw [invF] at h ⊢
        split
        · rename_i hz
          rw [if_pos hz] at h
          split
          · rename_i hc
            simp only [Bool.and_eq_true, decide_eq_true_eq] at hc
            omega
          · rename_i hc
            rw [if_neg hc] at h; omega
        · rename_i hz
          rw [if_neg hz] at h
          have := ih h
          omega
    have := key _ h0
    exact valF_lim h n _ hn (by omega) (by omega)
  · exact ⟨by decide, by decide⟩
theorem accK_inv {l : List SPost} (h : Acc l) (o : Str) : ∀ k : Nat, k ≤ l.length → AccInv l o k (accK l o k)
  | 0, _ => ⟨fun j h1 h2 => by omega, fun a ha => by simp [accK] at ha, by simp [accK]⟩
  | k + 1, hk => by
    have ih := accK_inv h o k (by omega)
    have hv := valF_lim h ((k : Int) + 1) l.length (by omega) (by omega) (Nat.le_refl _)
    have hb := billF_lim h (n := (k : Int) + 1) (by omega) (by omega)
    rw [accK]
    generalize accK l o k = M at *
    obtain ⟨A, T⟩ := M
    have hsame : (entL l ((k : Int) + 1)).op ≠ 1 ∨ accI o l ((k : Int) + 1) = false → ∀ A' : List SAcct, A'.length = A.length → (∀ a, a ∈ A' → LimA (1000000000 * ((k + 1 : Nat) : Int)) a) → AccInv l o (k + 1) (A', T) := fun hc A' hl hlim => by
      refine ⟨fun j h1 h2 h3 h4 => ?_, hlim, by rw [hl]; have := ih.len; simp only at this ⊢; omega⟩
      have hj : j ≤ k := by
        rcases Int.lt_or_le k j with hlt | hge
        · have : j = k + 1 := by omega
          subst this
          rcases hc with hc | hc
          · exact absurd h3 hc
          · rw [hc] at h4; cases h4
        · exact hge
      have := ih.idx j h1 hj h3 h4
      simp only at this ⊢
      rw [hl]; exact this
    have hlim0 : ∀ a, a ∈ A → LimA (1000000000 * ((k + 1 : Nat) : Int)) a := fun a ha => (ih.lim a ha).mono (by omega)
    rw [accS]
    by_cases hi : accI o l ((k : Int) + 1) = false
    · rw [if_pos hi]; exact hsame (.inr hi) A rfl hlim0
    rw [if_neg hi]
    by_cases h1 : (entL l ((k : Int) + 1)).op = 1
    · rw [if_pos h1]
      refine ⟨fun j g1 g2 g3 g4 => ?_, fun a ha => ?_, by have := ih.len; simp at this ⊢; omega⟩
      · simp only [sget_sput, List.length_append, List.length_cons, List.length_nil]
        split
        · omega
        · rename_i hne
          have hj : j ≤ k := by
            rcases Int.lt_or_le k j with hlt | hge
            · have : j = k + 1 := by omega
              subst this
              exact absurd rfl hne
            · exact hge
          have := ih.idx j g1 hj g3 g4
          simp only at this
          omega
      · rcases List.mem_append.1 ha with ha | ha
        · exact hlim0 a ha
        · simp only [List.mem_cons, List.not_mem_nil, or_false] at ha
          subst ha
          have hk0 : 1000000000 * ((k + 1 : Nat) : Int) ≥ 1000000000 := by omega
          exact ⟨⟨by have := hv.1; simp only; omega, by have := hv.2; simp only; omega⟩, ⟨by simp only; omega, by simp only; omega⟩, ⟨by simp only; omega, by simp only; omega⟩, ⟨by simp only; omega, by simp only; omega⟩, ⟨by simp only; omega, by simp only; omega⟩, rfl⟩
    rw [if_neg h1]
    have hmod : ∀ (i : Nat) (f : SAcct → SAcct), (∀ a, LimA (1000000000 * (k : Int)) a → LimA (1000000000 * ((k + 1 : Nat) : Int)) (f a)) → AccInv l o (k + 1) (A.modify i f, T) := fun i f hf =>
      hsame (.inl h1) _ (by simp) fun a ha => by
        rcases mem_modify ha with ha | ⟨y, hy, rfl⟩
        · exact hlim0 a ha
        · exact hf y (ih.lim y hy)
    by_cases h2 : (entL l ((k : Int) + 1)).op = 2
    · rw [if_pos h2]
      split
      · refine hmod _ _ fun a ⟨e1, e2, e3, e4, e5, e6⟩ => ⟨by simp only; omega, ?_, by simp only; omega, by simp only; omega, by simp only; omega, e6⟩
        have := hv.1; have := hv.2; simp only; omega
      · exact hsame (.inl h1) A rfl hlim0
    rw [if_neg h2]
    by_cases h3 : (entL l ((k : Int) + 1)).op = 3
    · rw [if_pos h3]
      refine hmod _ _ fun a ⟨e1, e2, e3, e4, e5, e6⟩ => ⟨by simp only; omega, by simp only; omega, ?_, ?_, ?_, e6⟩
      · have := hv.1; have := hv.2; simp only; omega
      · have := hv.1; have := hv.2; simp only; split <;> omega
      · have := hb.1; have := hb.2; simp only; omega
    · rw [if_neg h3]; exact hsame (.inl h1) A rfl hlim0
theorem acc_item {l : List SPost} (h : Acc l) {o : Str} {k : Nat} (hk : k < l.length) (hi : accI o l ((k : Int) + 1) = true) (ho : (entL l ((k : Int) + 1)).op = 2 ∨ (entL l ((k : Int) + 1)).op = 3) :
    0 ≤ sget (accK l o k).2 (entL l ((k : Int) + 1)).item ∧ sget (accK l o k).2 (entL l ((k : Int) + 1)).item < (accK l o k).1.length := by
  have hinv := accK_inv h o k (by omega)
  have hO := h.ok
  have he := entL_at (l := l) (n := (k : Int) + 1) (by omega) (by omega)
  rw [show ((k : Int) + 1 - 1).toNat = k by omega] at he
  simp only [accI, Bool.and_eq_true, decide_eq_true_eq] at hi
  have hpos := (hO.pos _ _ he).2.1 ho
  have hlt := hO.wf.sup _ _ he
  have hsu : supNo l (entL l ((k : Int) + 1)) = itmNo l (entL l ((k : Int) + 1)).order (entL l ((k : Int) + 1)).item := by rw [supNo, if_neg (by omega), if_pos ho]
  have hlv := liveB_pos hO.wf (n := (k : Int) + 1) (by omega)
  rw [hi.2, hsu] at hlv
  have hlv := (Bool.and_eq_true_iff.1 hlv.symm).2
  rw [hsu] at hlt
  generalize hj : itmNo l (entL l ((k : Int) + 1)).order (entL l ((k : Int) + 1)).item = j at *
  rw [itmNo] at hj
  obtain ⟨x, hx, hxp⟩ := idx_lt (l := l) (p := fun p => decide (p.op = 1) && decide (p.order = (entL l ((k : Int) + 1)).order) && decide (p.item = (entL l ((k : Int) + 1)).item)) (by omega)
  have hxe : entL l j = x := by
    have := entL_at (l := l) (n := j) (by omega) (by omega)
    rw [show (j - 1).toNat = (idx l fun p => decide (p.op = 1) && decide (p.order = (entL l ((k : Int) + 1)).order) && decide (p.item = (entL l ((k : Int) + 1)).item)).toNat by omega, hx] at this
    exact (Option.some.inj this).symm
  simp only [Bool.and_eq_true, decide_eq_true_eq] at hxp
  have := hinv.idx j (by omega) (by omega) (by rw [hxe]; exact hxp.1.1) (by rw [accI, hxe, hxp.1.2, hi.1, hlv]; simp)
  rw [hxe, hxp.2] at this
  exact this
end Go.Pv


set_option maxHeartbeats 2000000
namespace Go.Pv
attribute [local irreducible] PWP POps PQuiet PSem XThen XBlock RetPost InlPost
open Go.Proofs
section
variable {P : Program} {L : Lay} {s : St} {T d : Nat} {r : LRow} {x y : Operand} {ty : TypeId} {pos : String} {af : Array Edge} {g : Option (Nat × Bool)} {K : St → Prop}
theorem o_storeM {α : Type} {enc : α → List PV} {l : List α} {a : α} (a' : α) {v : PV} {k gn i jj kd kd' : Nat} {tc : TypeId} {sz : Nat} {Pr : Prop} (hr : L T = some r) (hx : s.ev x = .ptr k gn i jj) (hown : s.own k = (gn, some ⟨tc, sz, l.map enc, kd⟩)) (hget : l[i]? = some a) (hv : (s.ev y).fz = some v) (h1 : oneL s v.cells = some Pr) (h2 : Pr)
    (hsz : v.cells.length = r.size) (hle : Nat.ble (jj + r.size) (enc a).length = true) (hk : Nat.ble kd kd' = true) (hkd : v.cells.all (kOk kd') = true) (hnew : splc (enc a) jj (v.cells.map (nrm kd')) = enc a') (h : K (s.setOwn k gn (some ⟨tc, sz, (l.set i a').map enc, kd'⟩))) : POp P L s ⟨none, .store T x y, ty, pos, af, g⟩ K := by
  refine o_store hr hx hown (by rw [List.getElem?_map, hget]; rfl) hv h1 h2 hsz hle hk hkd ?_
  rw [hnew, ← List.map_set]
  exact h
end
theorem modify_set {α : Type} {l : List α} {i : Nat} {a : α} (h : l[i]? = some a) (f : α → α) : l.modify i f = l.set i (f a) := by
  have hi := (List.getElem?_eq_some_iff.1 h).1
  apply List.ext_getElem?
  intro j
  by_cases hj : i = j
  · subst hj
    rw [List.getElem?_modify, h, List.getElem?_set_self hi]; simp
  · rw [List.getElem?_modify, List.getElem?_set_ne hj]; simp [hj]
theorem set_at {α : Type} {l : List α} {i : Nat} {a : α} (h : l[i]? = some a) (b : α) : (l.set i b)[i]? = some b := List.getElem?_set_self (List.getElem?_eq_some_iff.1 h).1
def ovrK (A : List SAcct) (j : Nat) : List SAcct := (A.take j).map ovrA ++ A.drop j
theorem ovrK_at {A : List SAcct} {j : Nat} {a : SAcct} (h : A[j]? = some a) : (ovrK A j)[j]? = some a ∧ (ovrK A j).set j (ovrA a) = ovrK A (j + 1) := by
  obtain ⟨hj, he⟩ := List.getElem?_eq_some_iff.1 h
  have hl : ((A.take j).map ovrA).length = j := by simp; omega
  constructor
  · rw [ovrK, List.getElem?_append_right (by omega), hl, Nat.sub_self, List.getElem?_drop]; exact h
  · rw [ovrK, ovrK, take_snoc h, List.map_append, List.set_append_right _ _ (by omega), hl, Nat.sub_self, List.drop_eq_getElem_cons hj, he]
    simp
theorem inv_bounds {l : List SPost} {n : Int} : ∀ {k : Nat}, 0 < invF l n k → n < invF l n k ∧ invF l n k ≤ k
  | 0, h => by simp [invF] at h
  | k + 1, h => by
    rw [invF] at h ⊢
    by_cases hz : invF l n k = 0
    · rw [if_pos hz] at h ⊢
      split
      · rename_i hc
        simp only [Bool.and_eq_true, decide_eq_true_eq] at hc
        omega
      · rename_i hc
        rw [if_neg hc] at h; omega
    · rw [if_neg hz] at h ⊢
      have := inv_bounds h
      omega
set_option maxRecDepth 20000 in
theorem accounts_ret (l : List SPost) (hA : Acc l) (o : Str) : Ret Tryz.prog .fresh 105 [.dref (eBook l) 0, .str o] (.sl ((accP l o).map eAcct)) := by
  have hO := hA.ok
  have hl := hO.wf.len
  have hll : ((l.map ePost).length : Int) = l.length := by simp
  have h30 := covered_ret l hO o
  have h29 := end_ret l hl
  refine Ret.of_pwp layOk mixed Go.Proofs.Tryz.func105 rfl (by decide) rfl rfl ?_
  ((repeat (first | refine ps_nil ?_ | refine pq_nil ?_ | refine x_norm ?_ | refine pw_seq ?_)); refine pw_region ?_)
  refine ps_v rfl trivial ?_
  ((repeat (first | refine ps_nil ?_ | refine pq_nil ?_ | refine x_norm ?_ | refine pw_seq ?_)); refine pw_region ?_)
  refine ps_v rfl trivial ?_
  refine ps_nil ?_
  refine x_norm ?_
  refine pw_ghost (Ghost.nilreg (k := 5) (t := 5) 185 7 0 rfl rfl) ?_
  repeat (refine stp rfl ?_ ?_;·repeat' constructor)
  refine ps_run (o_mkmap rfl ?_)
  repeat (refine stp rfl ?_ ?_;·repeat' constructor)
  apply qst;exact rfl;exact rfl;exact q_callF rfl (h30) rfl (by repeat' constructor) rfl
  repeat (refine stp rfl ?_ ?_;·repeat' constructor)
  apply qst;exact rfl;exact rfl;exact q_callP rfl (h29) rfl (by repeat' constructor) rfl rfl
  repeat (refine stp rfl ?_ ?_;·repeat' constructor)
  rw [hll]
  refine pw_loop (fun (k : Nat × Nat) => k.1 ≤ l.length) (fun k => [(0, .dref (eBook l) 0), (1, .str o), (5, .als 5 k.2 0 (((accK l o k.1).1.map eAcct).length)), (6, .mp 17 1), (7, .mapd ((covOut l o l.length).map eKV)), (8, I (l.length + 1)), (26, .sl (l.map ePost)), (27, I l.length), (28, I k.1)])
    (fun k => [(5, k.2, ⟨185, 7, (accK l o k.1).1.map eAcct, 0⟩), (17, 1, ⟨142, 0, (accK l o k.1).2.map eSV, 0⟩)]) (fun k => l.length - k.1) (0, 1) (Nat.zero_le _) ⟨rfl, rfl, rfl, rfl, rfl, rfl, rfl, rfl, rfl, rfl, rfl, trivial⟩ ?_
  rintro ⟨k, g⟩ s hk
  have hk : k ≤ l.length := hk
  clear h30 h29
  repeat (refine stp rfl ?_ ?_;·repeat' constructor)
  refine pw_cond rfl (fun h => ?_) (fun h => ?_)
  · have hlt : k < l.length := by have := of_decide_eq_true h; omega
    clear h
    have hx : l[k]? = some (entL l ((k : Int) + 1)) := by
      have := entL_at (l := l) (n := (k : Int) + 1) (by omega) (by omega)
      rwa [show ((k : Int) + 1 - 1).toNat = k by omega] at this
    have hv := live_ret l hO.wf ((k : Int) + 1) (by omega)
    have hval := value_ret l hO ((k : Int) + 1) l.length (by omega) (by omega) (Nat.le_refl _)
    have hvl := valF_lim hA ((k : Int) + 1) l.length (by omega) (by omega) (Nat.le_refl _)
    have hs1 := signed_ret l hO ((k : Int) + 1) l.length 1 (by omega) (by omega) (Nat.le_refl _)
    have hs0 := signed_ret l hO ((k : Int) + 1) l.length 0 (by omega) (by omega) (Nat.le_refl _)
    have hcov := fun h1 h2 h3 => covOut_at (l := l) (o := o) (n := (k : Int) + 1) h1 h2 h3 (by omega) l.length
    have hidx := acc_item hA (o := o) hlt
    have hinv := accK_inv hA o k hk
    have hst : accK l o (k + 1) = accS l o ((k : Int) + 1) (accK l o k) := rfl
    have hw : IntKind.wrap .i64 ((k : Int) + 1) = (k : Int) + 1 := wrap_i64 (by omega) (by omega)
    have hnx : ∀ s' : St, s'.reg 28 = I ((k : Int) + 1) → True := fun _ _ => trivial
    rw [accS, accI] at hst
    rw [accI] at hidx
    generalize accK l o k = M at *
    obtain ⟨A, T⟩ := M
    simp only at hidx hst
    have hAl : ((A.map eAcct).length : Int) = A.length := by simp
    have hAn : A.length ≤ 400 := by have := hinv.len; simp only at this; omega
    generalize entL l ((k : Int) + 1) = x at *
    repeat (refine stp rfl ?_ ?_;·repeat' constructor)
    apply qst;exact rfl;exact rfl;exact q_idxm rfl rfl rfl rfl rfl (by omega) hx rfl
    repeat (refine stp rfl ?_ ?_;·repeat' constructor)
    rw [hw]
    (first | refine ps_split rfl rfl (fun h => ?_) (fun h => ?_) | refine pq_split rfl rfl (fun h => ?_) (fun h => ?_) | refine p3_split rfl rfl (fun h => ?_) (fun h => ?_))
    · have g1 : ¬ x.order = o := by simpa using h
      rw [decide_eq_false g1, Bool.false_and, if_pos rfl] at hst
      repeat (refine stp rfl ?_ ?_;·repeat' constructor)
      exact ⟨(k + 1, g), hlt, by show l.length - (k + 1) < l.length - k; omega, rfl, rfl, by rw [hst]; rfl, rfl, rfl, rfl, rfl, rfl, i64_next (by omega) (by omega), by rw [hst]; rfl, by rw [hst]; rfl, trivial⟩
    have g1 : x.order = o := by simpa using h
    clear h
    rw [decide_eq_true g1, Bool.true_and] at hst hidx
    generalize hlv : liveB l ((k : Int) + 1) = lv at *
    repeat (refine stp rfl ?_ ?_;·repeat' constructor)
    apply qst;exact rfl;exact rfl;exact q_callP rfl (hv) rfl (by repeat' constructor) rfl rfl
    cases lv with
    | false =>
      rw [if_pos rfl] at hst
      repeat (refine stp rfl ?_ ?_;·repeat' constructor)
      exact ⟨(k + 1, g), hlt, by show l.length - (k + 1) < l.length - k; omega, rfl, rfl, by rw [hst]; rfl, rfl, rfl, rfl, rfl, rfl, i64_next (by omega) (by omega), by rw [hst]; rfl, by rw [hst]; rfl, trivial⟩
    | true =>
    rw [if_neg (by simp)] at hst
    replace hidx := hidx rfl
    generalize hvv : valF l ((k : Int) + 1) l.length = v at *
    repeat (refine stp rfl ?_ ?_;·repeat' constructor)
    apply qst;exact rfl;exact rfl;exact q_callP rfl (hval) rfl (by repeat' constructor) rfl rfl
    repeat (refine stp rfl ?_ ?_;·repeat' constructor)
    by_cases h1 : x.op = 1
    · rw [if_pos h1] at hst
      repeat (first|(refine stp rfl ?_ ?_;·repeat' constructor)|(refine pw_cond rfl (fun hA => absurd hA (by intro hA; simp only [decide_eq_true_eq, decide_eq_false_iff_not, Bool.not_eq_true', Bool.not_eq_false'] at hA; omega)) (fun _ => ?_))|(refine pw_cond rfl (fun _ => ?_) (fun hA => absurd hA (by intro hA; simp only [decide_eq_true_eq, decide_eq_false_iff_not, Bool.not_eq_true', Bool.not_eq_false'] at hA; omega))))
      refine ps_run0 (o_mset 0 rfl rfl rfl rfl rfl rfl rfl rfl rfl (keyed_sv T) rfl rfl ?_)
      rw [show nrm 0 (PV.int .i64 ((A.map eAcct).length : Int)) = I ((A.map eAcct).length : Int) from rfl, mput_sv, hAl]
      repeat (refine stp rfl ?_ ?_;·repeat' constructor)
      apply qst;exact rfl;exact rfl;exact q_slit rfl rfl rfl rfl rfl rfl rfl rfl rfl rfl (by repeat' constructor) rfl
      repeat (refine stp rfl ?_ ?_;·repeat' constructor)
      refine ps_run (o_app 0 rfl rfl rfl rfl rfl rfl rfl rfl rfl rfl rfl (by repeat' constructor) (by intro row hr; first | (simp at hr; subst hr; rfl) | simp at hr) rfl rfl (by simp; omega) (by simp; omega) ?_)
      repeat (refine stp rfl ?_ ?_;·repeat' constructor)
      refine ⟨(k + 1, g + 1), hlt, by show l.length - (k + 1) < l.length - k; omega, rfl, rfl, ?_, rfl, rfl, rfl, rfl, rfl, i64_next (by omega) (by omega), ?_, ?_, trivial⟩
      · rw [hst, List.map_append]; rfl
      · rw [hst, List.map_append]; rfl
      · rw [hst]; rfl
    rw [if_neg h1] at hst
    by_cases h2 : x.op = 2
    · rw [if_pos h2] at hst
      have hid := hidx (.inl h2)
      obtain ⟨a, ha⟩ := get_lt (show (sget T x.item).toNat < A.length by omega)
      have hla := hinv.lim a (List.mem_of_getElem? ha)
      obtain ⟨e1, e2, e3, e4, e5, e6⟩ := hla
      rw [modify_set ha, ← Nat.zero_add (sget T x.item).toNat] at hst
      have hg0 : A[0 + (sget T x.item).toNat]? = some a := by rw [Nat.zero_add]; exact ha
      have hrow : (A.map eAcct)[0 + (sget T x.item).toNat]? = some (eAcct a) := by rw [List.getElem?_map, hg0]; rfl
      have hwa : IntKind.wrap .i64 (a.gro + v) = a.gro + v := by have := hvl.1; have := hvl.2; exact wrap_i64 (by omega) (by omega)
      have hmb : sget T x.item < (A.map eAcct).length := by rw [List.length_map]; exact hid.2
      generalize sgdB l ((k : Int) + 1) l.length 1 = sg at *
      clear h1
      repeat (first|(refine stp rfl ?_ ?_;·repeat' constructor)|(refine pw_cond rfl (fun hA => absurd hA (by intro hA; simp only [decide_eq_true_eq, decide_eq_false_iff_not, Bool.not_eq_true', Bool.not_eq_false'] at hA; omega)) (fun _ => ?_))|(refine pw_cond rfl (fun _ => ?_) (fun hA => absurd hA (by intro hA; simp only [decide_eq_true_eq, decide_eq_false_iff_not, Bool.not_eq_true', Bool.not_eq_false'] at hA; omega))))
      apply qst;exact rfl;exact rfl;exact q_callP rfl (hs1) rfl (by repeat' constructor) rfl rfl
      cases sg with
      | false =>
        rw [if_neg (by simp)] at hst
        repeat (refine stp rfl ?_ ?_;·repeat' constructor)
        exact ⟨(k + 1, g), hlt, by show l.length - (k + 1) < l.length - k; omega, rfl, rfl, by rw [hst]; rfl, rfl, rfl, rfl, rfl, rfl, i64_next (by omega) (by omega), by rw [hst]; rfl, by rw [hst]; rfl, trivial⟩
      | true =>
        rw [if_pos rfl] at hst
        repeat (refine stp rfl ?_ ?_;·repeat' constructor)
        apply qst;exact rfl;exact rfl;exact q_lookG none rfl rfl rfl rfl rfl zone3 rfl rfl rfl rfl rfl rfl (keyedG_sv T)
        rw [mval_sv]
        apply qst;exact rfl;exact rfl;exact q_idxA rfl rfl rfl rfl rfl rfl rfl hid.1 hmb
        repeat (refine stp rfl ?_ ?_;·repeat' constructor)
        apply qst;exact rfl;exact rfl;exact q_ldp rfl rfl rfl hrow rfl
        repeat (refine stp rfl ?_ ?_;·repeat' constructor)
        rw [hwa]
        apply qst;exact rfl;exact rfl;exact q_idxA rfl rfl rfl rfl rfl rfl rfl hid.1 hmb
        repeat (refine stp rfl ?_ ?_;·repeat' constructor)
        refine ps_run0 (o_storeM (enc := eAcct) { a with gro := a.gro + v } (kd' := 0) rfl rfl rfl hg0 rfl rfl ⟨trivial, trivial⟩ rfl rfl rfl rfl rfl ?_)
        repeat (refine stp rfl ?_ ?_;·repeat' constructor)
        exact ⟨(k + 1, g), hlt, by show l.length - (k + 1) < l.length - k; omega, rfl, rfl, by rw [hst]; show PV.als 5 g 0 (A.map eAcct).length = PV.als 5 g 0 ((A.set _ _).map eAcct).length; rw [List.length_map, List.length_map, List.length_set], rfl, rfl, rfl, rfl, rfl, i64_next (by omega) (by omega), by rw [hst]; rfl, by rw [hst]; rfl, trivial⟩
    rw [if_neg h2] at hst
    by_cases h3 : x.op = 3
    · rw [if_pos h3] at hst
      have hid := hidx (.inr h3)
      obtain ⟨a, ha⟩ := get_lt (show (sget T x.item).toNat < A.length by omega)
      have hla := hinv.lim a (List.mem_of_getElem? ha)
      obtain ⟨e1, e2, e3, e4, e5, e6⟩ := hla
      rw [modify_set ha, ← Nat.zero_add (sget T x.item).toNat] at hst
      have hg0 : A[0 + (sget T x.item).toNat]? = some a := by rw [Nat.zero_add]; exact ha
      have hrow : (A.map eAcct)[0 + (sget T x.item).toNat]? = some (eAcct a) := by rw [List.getElem?_map, hg0]; rfl
      have hwc : IntKind.wrap .i64 (a.chg + v) = a.chg + v := by have := hvl.1; have := hvl.2; exact wrap_i64 (by omega) (by omega)
      have hws : IntKind.wrap .i64 (a.sig + v) = a.sig + v := by have := hvl.1; have := hvl.2; exact wrap_i64 (by omega) (by omega)
      have hmb : sget T x.item < (A.map eAcct).length := by rw [List.length_map]; exact hid.2
      have hcv := hcov h3 g1 rfl
      generalize sgdB l ((k : Int) + 1) l.length 0 = sg at *
      clear h1 h2
      repeat (first|(refine stp rfl ?_ ?_;·repeat' constructor)|(refine pw_cond rfl (fun hA => absurd hA (by intro hA; simp only [decide_eq_true_eq, decide_eq_false_iff_not, Bool.not_eq_true', Bool.not_eq_false'] at hA; omega)) (fun _ => ?_))|(refine pw_cond rfl (fun _ => ?_) (fun hA => absurd hA (by intro hA; simp only [decide_eq_true_eq, decide_eq_false_iff_not, Bool.not_eq_true', Bool.not_eq_false'] at hA; omega))))
      apply qst;exact rfl;exact rfl;exact q_lookG none rfl rfl rfl rfl rfl zone3 rfl rfl rfl rfl rfl rfl (keyedG_sv T)
      rw [mval_sv]
      apply qst;exact rfl;exact rfl;exact q_idxA rfl rfl rfl rfl rfl rfl rfl hid.1 hmb
      repeat (refine stp rfl ?_ ?_;·repeat' constructor)
      apply qst;exact rfl;exact rfl;exact q_ldp rfl rfl rfl hrow rfl
      repeat (refine stp rfl ?_ ?_;·repeat' constructor)
      rw [hwc]
      repeat (refine stp rfl ?_ ?_;·repeat' constructor)
      refine ps_run0 (o_storeM (enc := eAcct) { a with chg := a.chg + v } (kd' := 0) rfl rfl rfl hg0 rfl rfl ⟨trivial, trivial⟩ rfl rfl rfl rfl rfl ?_)
      have hrow1 : ∀ b : SAcct, ((A.set (0 + (sget T x.item).toNat) b).map eAcct)[0 + (sget T x.item).toNat]? = some (eAcct b) := fun b => by rw [List.getElem?_map, set_at hg0 b]; rfl
      have hbb := billF_lim hA (n := (k : Int) + 1) (by omega) (by omega)
      have hbl : billF l ((k : Int) + 1) = if 0 < invF l ((k : Int) + 1) l.length then valF l ((k : Int) + 1) (invF l ((k : Int) + 1) l.length - 1).toNat else 0 := rfl
      have hval2 : 0 < invF l ((k : Int) + 1) l.length → Ret Tryz.prog .shared 145 [.dref (eBook l) 0, I ((k : Int) + 1), I (invF l ((k : Int) + 1) l.length)] (I (valF l ((k : Int) + 1) (invF l ((k : Int) + 1) l.length - 1).toNat)) := fun hp => by
        have hb := inv_bounds hp
        have := value_ret l hO ((k : Int) + 1) (invF l ((k : Int) + 1) l.length - 1).toNat (by omega) (by omega) (by omega)
        rwa [show (((invF l ((k : Int) + 1) l.length - 1).toNat : Nat) : Int) + 1 = invF l ((k : Int) + 1) l.length by omega] at this
      generalize valF l ((k : Int) + 1) (invF l ((k : Int) + 1) l.length - 1).toNat = vb at *
      generalize invF l ((k : Int) + 1) l.length = iv at *
      have hwb : iv > 0 → IntKind.wrap .i64 (a.bil + vb) = a.bil + vb := fun hp => by rw [hbl, if_pos hp] at hbb; have := hbb.1; have := hbb.2; exact wrap_i64 (by omega) (by omega)
      repeat (refine stp rfl ?_ ?_;·repeat' constructor)
      apply qst;exact rfl;exact rfl;exact q_callP rfl (hs0) rfl (by repeat' constructor) rfl rfl
      cases sg with
      | false =>
        rw [show a.sig + (if false = true then v else 0) = a.sig from Int.add_zero _] at hst
        repeat (refine stp rfl ?_ ?_;·repeat' constructor)
        apply qst;exact rfl;exact rfl;exact q_lookV none (mval_kv ((k : Int) + 1) (covOut l o l.length)) (keyedG_kv _) zone3 rfl rfl rfl rfl rfl rfl rfl rfl rfl
        rw [hcv]
        repeat (refine stp rfl ?_ ?_;·repeat' constructor)
        refine pw_cond rfl (fun h => ?_) (fun h => ?_)
        · have hp := of_decide_eq_true h
          clear h
          have hval2 := hval2 hp
          rw [if_pos hp] at hbl
          rw [hbl] at hst
          repeat (refine stp rfl ?_ ?_;·repeat' constructor)
          refine pw_draw 11 [116, 117, 118, 119, 120, 121, 122, 123, 124, 125, 126] (by decide +kernel) ?_
          repeat (refine stp rfl ?_ ?_;·repeat' constructor)
          apply qst;exact rfl;exact rfl;exact q_ldp rfl rfl rfl (hrow1 { a with chg := a.chg + v }) rfl
          repeat (refine stp rfl ?_ ?_;·repeat' constructor)
          apply qst;exact rfl;exact rfl;exact q_callP rfl (hval2) rfl (by repeat' constructor) rfl rfl
          repeat (refine stp rfl ?_ ?_;·repeat' constructor)
          rw [hwb hp]
          repeat (refine stp rfl ?_ ?_;·repeat' constructor)
          refine ps_run0 (o_storeM (enc := eAcct) { { a with chg := a.chg + v } with bil := a.bil + vb } (kd' := 0) rfl rfl rfl (set_at hg0 { a with chg := a.chg + v }) rfl rfl ⟨trivial, trivial⟩ rfl rfl rfl rfl rfl ?_)
          rw [List.set_set]
          repeat (refine stp rfl ?_ ?_;·repeat' constructor)
          exact ⟨(k + 1, g), hlt, by show l.length - (k + 1) < l.length - k; omega, rfl, rfl, by rw [hst]; show PV.als 5 g 0 (A.map eAcct).length = PV.als 5 g 0 ((A.set _ _).map eAcct).length; rw [List.length_map, List.length_map, List.length_set], rfl, rfl, rfl, rfl, rfl, i64_next (by omega) (by omega), by rw [hst]; rfl, by rw [hst]; rfl, trivial⟩
        · have hp := of_decide_eq_false h
          clear h
          rw [if_neg hp] at hbl
          rw [hbl, Int.add_zero] at hst
          repeat (refine stp rfl ?_ ?_;·repeat' constructor)
          exact ⟨(k + 1, g), hlt, by show l.length - (k + 1) < l.length - k; omega, rfl, rfl, by rw [hst]; show PV.als 5 g 0 (A.map eAcct).length = PV.als 5 g 0 ((A.set _ _).map eAcct).length; rw [List.length_map, List.length_map, List.length_set], rfl, rfl, rfl, rfl, rfl, i64_next (by omega) (by omega), by rw [hst]; rfl, by rw [hst]; rfl, trivial⟩
      | true =>
        rw [show a.sig + (if true = true then v else 0) = a.sig + v from rfl] at hst
        repeat (refine stp rfl ?_ ?_;·repeat' constructor)
        apply qst;exact rfl;exact rfl;exact q_ldp rfl rfl rfl (hrow1 { a with chg := a.chg + v }) rfl
        repeat (refine stp rfl ?_ ?_;·repeat' constructor)
        rw [hws]
        repeat (refine stp rfl ?_ ?_;·repeat' constructor)
        refine ps_run0 (o_storeM (enc := eAcct) { a with chg := a.chg + v, sig := a.sig + v } (kd' := 0) rfl rfl rfl (set_at hg0 { a with chg := a.chg + v }) rfl rfl ⟨trivial, trivial⟩ rfl rfl rfl rfl rfl ?_)
        rw [List.set_set]
        repeat (refine stp rfl ?_ ?_;·repeat' constructor)
        apply qst;exact rfl;exact rfl;exact q_lookV none (mval_kv ((k : Int) + 1) (covOut l o l.length)) (keyedG_kv _) zone3 rfl rfl rfl rfl rfl rfl rfl rfl rfl
        rw [hcv]
        repeat (refine stp rfl ?_ ?_;·repeat' constructor)
        refine pw_cond rfl (fun h => ?_) (fun h => ?_)
        · have hp := of_decide_eq_true h
          clear h
          have hval2 := hval2 hp
          rw [if_pos hp] at hbl
          rw [hbl] at hst
          repeat (refine stp rfl ?_ ?_;·repeat' constructor)
          refine pw_draw 11 [116, 117, 118, 119, 120, 121, 122, 123, 124, 125, 126] (by decide +kernel) ?_
          repeat (refine stp rfl ?_ ?_;·repeat' constructor)
          apply qst;exact rfl;exact rfl;exact q_ldp rfl rfl rfl (hrow1 { a with chg := a.chg + v, sig := a.sig + v }) rfl
          repeat (refine stp rfl ?_ ?_;·repeat' constructor)
          apply qst;exact rfl;exact rfl;exact q_callP rfl (hval2) rfl (by repeat' constructor) rfl rfl
          repeat (refine stp rfl ?_ ?_;·repeat' constructor)
          rw [hwb hp]
          repeat (refine stp rfl ?_ ?_;·repeat' constructor)
          refine ps_run0 (o_storeM (enc := eAcct) { { a with chg := a.chg + v, sig := a.sig + v } with bil := a.bil + vb } (kd' := 0) rfl rfl rfl (set_at hg0 { a with chg := a.chg + v, sig := a.sig + v }) rfl rfl ⟨trivial, trivial⟩ rfl rfl rfl rfl rfl ?_)
          rw [List.set_set]
          repeat (refine stp rfl ?_ ?_;·repeat' constructor)
          exact ⟨(k + 1, g), hlt, by show l.length - (k + 1) < l.length - k; omega, rfl, rfl, by rw [hst]; show PV.als 5 g 0 (A.map eAcct).length = PV.als 5 g 0 ((A.set _ _).map eAcct).length; rw [List.length_map, List.length_map, List.length_set], rfl, rfl, rfl, rfl, rfl, i64_next (by omega) (by omega), by rw [hst]; rfl, by rw [hst]; rfl, trivial⟩
        · have hp := of_decide_eq_false h
          clear h
          rw [if_neg hp] at hbl
          rw [hbl, Int.add_zero] at hst
          repeat (refine stp rfl ?_ ?_;·repeat' constructor)
          exact ⟨(k + 1, g), hlt, by show l.length - (k + 1) < l.length - k; omega, rfl, rfl, by rw [hst]; show PV.als 5 g 0 (A.map eAcct).length = PV.als 5 g 0 ((A.set _ _).map eAcct).length; rw [List.length_map, List.length_map, List.length_set], rfl, rfl, rfl, rfl, rfl, i64_next (by omega) (by omega), by rw [hst]; rfl, by rw [hst]; rfl, trivial⟩
    rw [if_neg h3] at hst
    repeat (first|(refine stp rfl ?_ ?_;·repeat' constructor)|(refine pw_cond rfl (fun hA => absurd hA (by intro hA; simp only [decide_eq_true_eq, decide_eq_false_iff_not, Bool.not_eq_true', Bool.not_eq_false'] at hA; omega)) (fun _ => ?_))|(refine pw_cond rfl (fun _ => ?_) (fun hA => absurd hA (by intro hA; simp only [decide_eq_true_eq, decide_eq_false_iff_not, Bool.not_eq_true', Bool.not_eq_false'] at hA; omega))))
    exact ⟨(k + 1, g), hlt, by show l.length - (k + 1) < l.length - k; omega, rfl, rfl, by rw [hst]; rfl, rfl, rfl, rfl, rfl, rfl, i64_next (by omega) (by omega), by rw [hst]; rfl, by rw [hst]; rfl, trivial⟩
  · have hz : k = l.length := by have := of_decide_eq_false h; omega
    subst hz
    clear h
    have hinv := accK_inv hA o l.length (Nat.le_refl _)
    have hlim : ∀ a, a ∈ (accK l o l.length).1 → LimA 400000000000 a := fun a ha => (hinv.lim a ha).mono (by omega)
    have hAn : (accK l o l.length).1.length ≤ 400 := Nat.le_trans hinv.len hl
    clear hinv
    rw [accP]
    generalize (accK l o l.length).1 = A at *
    have hAl : ((A.map eAcct).length : Int) = A.length := by simp
    have hA0 : ovrK A 0 = A := by simp [ovrK]
    repeat (refine stp rfl ?_ ?_;·repeat' constructor)
    rw [hAl]
    refine pw_loop (fun j => j ≤ A.length) (fun j => [(5, .als 5 g 0 (A.map eAcct).length), (128, .als 5 g 0 (A.map eAcct).length), (129, I A.length), (130, I j)]) (fun j => [(5, g, ⟨185, 7, (ovrK A j).map eAcct, 0⟩)]) (fun j => A.length - j) 0 (Nat.zero_le _) ⟨rfl, rfl, rfl, rfl, by rw [hA0]; rfl, trivial⟩ ?_
    intro j s2 hj
    have hj : j ≤ A.length := hj
    repeat (refine stp rfl ?_ ?_;·repeat' constructor)
    refine pw_cond rfl (fun h => ?_) (fun h => ?_)
    · have hlt : j < A.length := by have := of_decide_eq_true h; omega
      clear h
      obtain ⟨a, ha⟩ := get_lt hlt
      obtain ⟨hk1, hk2⟩ := ovrK_at ha
      obtain ⟨e1, e2, e3, e4, e5, e6⟩ := hlim a (List.mem_of_getElem? ha)
      have hrow : ((ovrK A j).map eAcct)[0 + (j : Int).toNat]? = some (eAcct a) := by rw [List.getElem?_map, Int.toNat_natCast, Nat.zero_add, hk1]; rfl
      have hw1 : IntKind.wrap .i64 (a.chg - a.est) = a.chg - a.est := wrap_i64 (by omega) (by omega)
      have hw2 : IntKind.wrap .i64 (a.chg - a.est - a.gro) = a.chg - a.est - a.gro := wrap_i64 (by omega) (by omega)
      have hAj : j < (A.map eAcct).length := by simpa using hlt
      repeat (refine stp rfl ?_ ?_;·repeat' constructor)
      apply qst;exact rfl;exact rfl;exact q_idxA rfl rfl rfl rfl rfl rfl rfl (by omega) (by omega)
      apply qst;exact rfl;exact rfl;exact q_ldp rfl rfl rfl hrow rfl
      repeat (refine stp rfl ?_ ?_;·repeat' constructor)
      rw [hw1, hw2]
      have hm : (if 0 < a.chg - a.est - a.gro then a.chg - a.est - a.gro else 0) = max 0 (a.chg - a.est - a.gro) := by split <;> omega
      have hg1 : (ovrK A j)[0 + (j : Int).toNat]? = some a := by rw [Int.toNat_natCast, Nat.zero_add]; exact hk1
      have hset : (ovrK A j).set (0 + (j : Int).toNat) (ovrA a) = ovrK A (j + 1) := by rw [Int.toNat_natCast, Nat.zero_add]; exact hk2
      repeat (refine stp rfl ?_ ?_;·repeat' constructor)
      rw [hm]
      apply qst;exact rfl;exact rfl;exact q_idxA rfl rfl rfl rfl rfl rfl rfl (by omega) (by omega)
      repeat (refine stp rfl ?_ ?_;·repeat' constructor)
      refine ps_run0 (o_storeM (enc := eAcct) (ovrA a) (kd' := 0) rfl rfl rfl hg1 rfl rfl ⟨trivial, trivial⟩ rfl rfl rfl rfl rfl ?_)
      rw [hset]
      repeat (refine stp rfl ?_ ?_;·repeat' constructor)
      exact ⟨j + 1, hlt, by omega, rfl, rfl, rfl, i64_next (by omega) (by omega), rfl, trivial⟩
    · have hz : j = A.length := by have := of_decide_eq_false h; omega
      subst hz
      have hfull : ovrK A A.length = A.map ovrA := by simp [ovrK]
      rw [hfull]
      repeat (refine stp rfl ?_ ?_;·repeat' constructor)
      exact end1f rfl rfl rfl ⟨rfl, rfl, by simp⟩ rfl
end Go.Pv


set_option maxHeartbeats 2000000
namespace Go.Pv
attribute [local irreducible] PWP POps PQuiet PSem XThen XBlock RetPost InlPost
open Go.Proofs
theorem ordered_ret (l : List SPost) (hO : Ok l) (o : Str) : Ret Tryz.prog .shared 104 [.dref (eBook l) 0, .str o] (I (standE l (ordNo l o))) := by
  have ho := (ordR_at l o).1
  have hs := standing_ret l hO.wf (ordNo l o) (ordNo_le l o).2
  refine Ret.of_pwp layOk mixed Go.Proofs.Tryz.func104 rfl (by decide) rfl rfl ?_
  repeat (refine stp rfl ?_ ?_;·repeat' constructor)
  apply qst;exact rfl;exact rfl;exact q_lookV none ho (ordR_keyed l) zone3 rfl rfl rfl rfl rfl rfl rfl rfl rfl
  repeat (refine stp rfl ?_ ?_;·repeat' constructor)
  apply qst;exact rfl;exact rfl;exact q_callP rfl (hs) rfl (by repeat' constructor) rfl rfl
  repeat (refine stp rfl ?_ ?_;·repeat' constructor)
  exact end1i rfl rfl rfl
def sumI (A : List SAcct) (f : SAcct → Int) (j : Nat) : Int := ((A.take j).map f).sum
theorem sumI_succ {A : List SAcct} {f : SAcct → Int} {j : Nat} {a : SAcct} (h : A[j]? = some a) : sumI A f (j + 1) = sumI A f j + f a := by
  rw [sumI, take_snoc h, List.map_append, List.sum_append]; simp [sumI]
theorem sumI_lim {A : List SAcct} {f : SAcct → Int} {B : Int} (hB : ∀ a, a ∈ A → -B ≤ f a ∧ f a ≤ B) : ∀ j : Nat, j ≤ A.length → -(B * j) ≤ sumI A f j ∧ sumI A f j ≤ B * j
  | 0, _ => by simp [sumI]
  | j + 1, h => by
    obtain ⟨a, ha⟩ := get_lt (show j < A.length by omega)
    have ih := sumI_lim hB j (by omega)
    have hb := hB a (List.mem_of_getElem? ha)
    have hm : B * ((j + 1 : Nat) : Int) = B * j + B := by rw [Int.natCast_add, Int.mul_add]; simp
    rw [sumI_succ ha, hm]
    omega
def payB (l : List SPost) (o : Str) (k : Nat) : Bool := decide ((entL l ((k : Int) + 1)).op = 7) && decide ((entL l ((k : Int) + 1)).order = o) && liveB l ((k : Int) + 1)
def payK (l : List SPost) (o : Str) : Nat → Int
  | 0 => 0
  | k + 1 => if payB l o k = true then payK l o k + (entL l ((k : Int) + 1)).amount else payK l o k
theorem payK_lim {l : List SPost} (h : Acc l) (o : Str) : ∀ k : Nat, k ≤ l.length → -(1000000000 * (k : Int)) ≤ payK l o k ∧ payK l o k ≤ 1000000000 * (k : Int)
  | 0, _ => by simp [payK]
  | k + 1, hk => by
    have ih := payK_lim h o k (by omega)
    have := h.amt _ _ (entL_at (l := l) (n := (k : Int) + 1) (by omega) (by omega))
    have h1 := this.1
    have h2 := this.2
    rw [payK]
    split <;> omega
def balV (l : List SPost) (o : Str) : List PV :=
  let A := accP l o
  let n := A.length
  [I (sumI A (·.est) n), I (sumI A (·.gro) n), I (sumI A (·.chg) n), I (sumI A (·.bil) n), I (payK l o l.length), I (sumI A (·.bil) n - payK l o l.length)]
end Go.Pv


set_option maxHeartbeats 2000000
namespace Go.Pv
attribute [local irreducible] PWP POps PQuiet PSem XThen XBlock RetPost InlPost
open Go.Proofs
theorem accP_lim {l : List SPost} (h : Acc l) (o : Str) : (accP l o).length ≤ 400 ∧ ∀ a, a ∈ accP l o → (-400000000000 ≤ a.est ∧ a.est ≤ 400000000000) ∧ (-400000000000 ≤ a.gro ∧ a.gro ≤ 400000000000) ∧ (-400000000000 ≤ a.chg ∧ a.chg ≤ 400000000000) ∧ (-400000000000 ≤ a.bil ∧ a.bil ≤ 400000000000) := by
  have hinv := accK_inv h o l.length (Nat.le_refl _)
  have hl := h.ok.wf.len
  refine ⟨by rw [accP, List.length_map]; exact Nat.le_trans hinv.len hl, fun a ha => ?_⟩
  rw [accP, List.mem_map] at ha
  obtain ⟨b, hb, rfl⟩ := ha
  obtain ⟨e1, e2, e3, e4, e5, e6⟩ := hinv.lim b hb
  simp only [ovrA]
  omega
set_option maxRecDepth 20000 in
theorem balance_ret (l : List SPost) (hA : Acc l) (o : Str) : Ret Tryz.prog .fresh 55 [.dref (eBook l) 0, .str o] (if standE l (ordNo l o) = 0 then .tup [.agg (balV l o), I 0] else .tup [.agg [I 0, I 0, I 0, I 0, I 0, I 0], I (standE l (ordNo l o))]) := by
  have hO := hA.ok
  have hl := hO.wf.len
  have hll : ((l.map ePost).length : Int) = l.length := by simp
  have h44 := ordered_ret l hO o
  have h45 := accounts_ret l hA o
  obtain ⟨hAn, hlim⟩ := accP_lim hA o
  by_cases hz : standE l (ordNo l o) = 0
  case neg =>
    rw [if_neg hz]
    refine Ret.of_pwp layOk mixed Go.Proofs.Tryz.func55 rfl (by decide) rfl rfl ?_
    repeat (refine stp rfl ?_ ?_;·repeat' constructor)
    apply qst;exact rfl;exact rfl;exact q_callP rfl (h44) rfl (by repeat' constructor) rfl rfl
    repeat (refine stp rfl ?_ ?_;·repeat' constructor)
    refine pw_cond rfl (fun h => ?_) (fun h => ?_)
    · repeat (refine stp rfl ?_ ?_;·repeat' constructor)
      exact endc2f rfl rfl rfl rfl rfl (by repeat' constructor) rfl
    · exact absurd (of_decide_eq_true (by simpa only [Bool.not_eq_false'] using h)) hz
  rw [if_pos hz, balV]
  rw [hz] at h44
  generalize accP l o = A at *
  have hAl : ((A.map eAcct).length : Int) = A.length := by simp
  have b1 := fun j hj => sumI_lim (A := A) (f := (·.est)) (B := 400000000000) (fun a ha => (hlim a ha).1) j hj
  have b2 := fun j hj => sumI_lim (A := A) (f := (·.gro)) (B := 400000000000) (fun a ha => (hlim a ha).2.1) j hj
  have b3 := fun j hj => sumI_lim (A := A) (f := (·.chg)) (B := 400000000000) (fun a ha => (hlim a ha).2.2.1) j hj
  have b4 := fun j hj => sumI_lim (A := A) (f := (·.bil)) (B := 400000000000) (fun a ha => (hlim a ha).2.2.2) j hj
  refine Ret.of_pwp layOk mixed Go.Proofs.Tryz.func55 rfl (by decide) rfl rfl ?_
  repeat (refine stp rfl ?_ ?_;·repeat' constructor)
  apply qst;exact rfl;exact rfl;exact q_callP rfl (h44) rfl (by repeat' constructor) rfl rfl
  repeat (refine stp rfl ?_ ?_;·repeat' constructor)
  apply qst;exact rfl;exact rfl;exact q_callF rfl (h45) rfl (by repeat' constructor) rfl
  repeat (refine stp rfl ?_ ?_;·repeat' constructor)
  rw [hAl]
  refine pw_loop (fun j => j ≤ A.length) (fun j => [(0, .dref (eBook l) 0), (1, .str o), (4, .ptr 4 1 0 0), (7, .ptr 7 1 0 0), (21, .fsl (A.map eAcct)), (22, I A.length), (23, I j)])
    (fun j => [(4, 1, ⟨106, 6, [[I 0, I 0, I 0, I 0, I 0, I 0]], 2⟩), (7, 1, ⟨106, 6, [[I (sumI A (·.est) j), I (sumI A (·.gro) j), I (sumI A (·.chg) j), I (sumI A (·.bil) j), I 0, I 0]], 2⟩)]) (fun j => A.length - j) 0 (Nat.zero_le _) ⟨rfl, rfl, rfl, rfl, rfl, rfl, rfl, rfl, rfl, trivial⟩ ?_
  intro j s hj
  have hj : j ≤ A.length := hj
  repeat (refine stp rfl ?_ ?_;·repeat' constructor)
  refine pw_cond rfl (fun h => ?_) (fun h => ?_)
  · have hlt : j < A.length := by have := of_decide_eq_true h; omega
    clear h
    obtain ⟨a, ha⟩ := get_lt hlt
    have w : ∀ (f : SAcct → Int), (∀ j, j ≤ A.length → -(400000000000 * (j : Int)) ≤ sumI A f j ∧ sumI A f j ≤ 400000000000 * (j : Int)) → IntKind.wrap .i64 (sumI A f j + f a) = sumI A f (j + 1) := fun f hb => by
      have := hb (j + 1) hlt
      rw [← sumI_succ ha, wrap_i64 (by omega) (by omega)]
    have w1 := w _ b1
    have w2 := w _ b2
    have w3 := w _ b3
    have w4 := w _ b4
    repeat (refine stp rfl ?_ ?_;·repeat' constructor)
    apply qst;exact rfl;exact rfl;exact q_idxmF rfl rfl rfl rfl rfl (by omega) ha rfl
    repeat (refine stp rfl ?_ ?_;·repeat' constructor)
    exact ⟨j + 1, hlt, by omega, rfl, rfl, rfl, rfl, rfl, rfl, i64_next (by omega) (by omega), rfl, by rw [← w1, ← w2, ← w3, ← w4]; rfl, trivial⟩
  · have hz : j = A.length := by have := of_decide_eq_false h; omega
    subst hz
    clear h
    have b4 := b4 A.length (Nat.le_refl _)
    generalize sumI A (·.est) A.length = s1 at *
    generalize sumI A (·.gro) A.length = s2 at *
    generalize sumI A (·.chg) A.length = s3 at *
    generalize sumI A (·.bil) A.length = s4 at *
    repeat (refine stp rfl ?_ ?_;·repeat' constructor)
    rw [hll]
    refine pw_loop (fun k => k ≤ l.length) (fun k => [(0, .dref (eBook l) 0), (1, .str o), (4, .ptr 4 1 0 0), (7, .ptr 7 1 0 0), (55, .sl (l.map ePost)), (56, I l.length), (57, I k)])
      (fun k => [(4, 1, ⟨106, 6, [[I 0, I 0, I 0, I 0, I 0, I 0]], 2⟩), (7, 1, ⟨106, 6, [[I s1, I s2, I s3, I s4, I (payK l o k), I 0]], 2⟩)]) (fun k => l.length - k) 0 (Nat.zero_le _) ⟨rfl, rfl, rfl, rfl, rfl, rfl, rfl, rfl, rfl, trivial⟩ ?_
    intro k s5 hk
    have hk : k ≤ l.length := hk
    have hpl := payK_lim hA o k hk
    repeat (refine stp rfl ?_ ?_;·repeat' constructor)
    refine pw_cond rfl (fun h => ?_) (fun h => ?_)
    · have hlt : k < l.length := by have := of_decide_eq_true h; omega
      clear h
      have hx : l[k]? = some (entL l ((k : Int) + 1)) := by
        have := entL_at (l := l) (n := (k : Int) + 1) (by omega) (by omega)
        rwa [show ((k : Int) + 1 - 1).toNat = k by omega] at this
      have hv := live_ret l hO.wf ((k : Int) + 1) (by omega)
      have hst : payK l o (k + 1) = if payB l o k = true then payK l o k + (entL l ((k : Int) + 1)).amount else payK l o k := rfl
      have hw : IntKind.wrap .i64 ((k : Int) + 1) = (k : Int) + 1 := wrap_i64 (by omega) (by omega)
      have hpl2 := payK_lim hA o (k + 1) hlt
      rw [payB] at hst
      generalize entL l ((k : Int) + 1) = x at *
      repeat (refine stp rfl ?_ ?_;·repeat' constructor)
      apply qst;exact rfl;exact rfl;exact q_idxm rfl rfl rfl rfl rfl (by omega) hx rfl
      repeat (refine stp rfl ?_ ?_;·repeat' constructor)
      (first | refine ps_split rfl rfl (fun h => ?_) (fun h => ?_) | refine pq_split rfl rfl (fun h => ?_) (fun h => ?_) | refine p3_split rfl rfl (fun h => ?_) (fun h => ?_))
      rotate_left
      · have g1 := of_decide_eq_false h
        rw [decide_eq_false g1, Bool.false_and, Bool.false_and, if_neg (by simp)] at hst
        repeat (refine stp rfl ?_ ?_;·repeat' constructor)
        exact ⟨k + 1, hlt, by omega, rfl, rfl, rfl, rfl, rfl, rfl, i64_next (by omega) (by omega), rfl, by rw [hst]; rfl, trivial⟩
      have g1 := of_decide_eq_true h
      clear h
      rw [decide_eq_true g1, Bool.true_and] at hst
      repeat (refine stp rfl ?_ ?_;·repeat' constructor)
      (first | refine ps_split rfl rfl (fun h => ?_) (fun h => ?_) | refine pq_split rfl rfl (fun h => ?_) (fun h => ?_) | refine p3_split rfl rfl (fun h => ?_) (fun h => ?_))
      rotate_left
      · have g2 := of_decide_eq_false h
        rw [decide_eq_false g2, Bool.false_and, if_neg (by simp)] at hst
        repeat (refine stp rfl ?_ ?_;·repeat' constructor)
        exact ⟨k + 1, hlt, by omega, rfl, rfl, rfl, rfl, rfl, rfl, i64_next (by omega) (by omega), rfl, by rw [hst]; rfl, trivial⟩
      have g2 := of_decide_eq_true h
      clear h
      rw [decide_eq_true g2, Bool.true_and] at hst
      generalize liveB l ((k : Int) + 1) = lv at *
      repeat (refine stp rfl ?_ ?_;·repeat' constructor)
      rw [hw]
      apply qst;exact rfl;exact rfl;exact q_callP rfl (hv) rfl (by repeat' constructor) rfl rfl
      cases lv with
      | false =>
        rw [if_neg (by simp)] at hst
        repeat (refine stp rfl ?_ ?_;·repeat' constructor)
        exact ⟨k + 1, hlt, by omega, rfl, rfl, rfl, rfl, rfl, rfl, i64_next (by omega) (by omega), rfl, by rw [hst]; rfl, trivial⟩
      | true =>
        rw [if_pos rfl] at hst
        have hwp : IntKind.wrap .i64 (payK l o k + x.amount) = payK l o (k + 1) := by rw [← hst, wrap_i64 (by omega) (by omega)]
        repeat (refine stp rfl ?_ ?_;·repeat' constructor)
        exact ⟨k + 1, hlt, by omega, rfl, rfl, rfl, rfl, rfl, rfl, i64_next (by omega) (by omega), rfl, by rw [← hwp]; rfl, trivial⟩
    · have hz : k = l.length := by have := of_decide_eq_false h; omega
      subst hz
      have hwd : IntKind.wrap .i64 (s4 - payK l o l.length) = s4 - payK l o l.length := wrap_i64 (by omega) (by omega)
      repeat (refine stp rfl ?_ ?_;·repeat' constructor)
      rw [hwd]
      repeat (refine stp rfl ?_ ?_;·repeat' constructor)
      exact endc2f rfl rfl rfl rfl rfl (by repeat' constructor) rfl
end Go.Pv


set_option maxHeartbeats 2000000
namespace Go.Pv
attribute [local irreducible] PWP POps PQuiet PSem XThen XBlock RetPost InlPost
open Go.Proofs
theorem ex_bal : balV exL exO = [I 5000, I 0, I 3000, I 3000, I 0, I 3000] := by
  have h1 : sumI (accP exL exO) (·.est) (accP exL exO).length = 5000 := by decide +kernel
  have h2 : sumI (accP exL exO) (·.gro) (accP exL exO).length = 0 := by decide +kernel
  have h3 : sumI (accP exL exO) (·.chg) (accP exL exO).length = 3000 := by decide +kernel
  have h4 : sumI (accP exL exO) (·.bil) (accP exL exO).length = 3000 := by decide +kernel
  have h5 : payK exL exO exL.length = 0 := by decide +kernel
  simp only [balV, h1, h2, h3, h4, h5]
  rfl
theorem balT : eqT Tryz.prog 106 [.int .i64, .int .i64, .int .i64, .int .i64, .int .i64, .int .i64] = true := by decide +kernel
set_option maxRecDepth 20000 in
theorem awake_ret : Ret Tryz.prog .shared 11 [] (.bool true) := by
  have hld := load_ret exL (by decide)
  obtain ⟨e1, e2, e3⟩ := exL_acc.lod
  rw [e1, e2, e3] at hld
  have hb := balance_ret exL exL_acc exO
  rw [if_pos (by decide), ex_bal] at hb
  have hf := format_ret ⟨3, 1, exO, exI, [], [97, 110, 110], 3000, 0, 0⟩ (by decide)
  rw [exText] at hf
  have hx : exL[2]? = some ⟨3, 1, exO, exI, [], [97, 110, 110], 3000, 0, 0⟩ := rfl
  refine Ret.of_pwp layOk mixed Go.Proofs.Tryz.func11 rfl (by decide) rfl rfl ?_
  repeat (refine stp rfl ?_ ?_;·repeat' constructor)
  apply qst;exact rfl;exact rfl;exact q_callF rfl (example_ret) rfl (by repeat' constructor) rfl
  repeat (refine stp rfl ?_ ?_;·repeat' constructor)
  apply qst;exact rfl;exact rfl;exact q_callF rfl (hld) rfl (by repeat' constructor) rfl
  repeat (refine stp rfl ?_ ?_;·repeat' constructor)
  apply qst;exact rfl;exact rfl;exact q_callF rfl (hb) rfl (by repeat' constructor) rfl
  repeat (refine stp rfl ?_ ?_;·repeat' constructor)
  apply qst;exact rfl;exact rfl;exact q_callF rfl (example_ret) rfl (by repeat' constructor) rfl
  repeat (refine stp rfl ?_ ?_;·repeat' constructor)
  apply qst;exact rfl;exact rfl;exact q_idxmF rfl rfl rfl rfl rfl (by omega) hx rfl
  repeat (refine stp rfl ?_ ?_;·repeat' constructor)
  apply qst;exact rfl;exact rfl;exact q_callP rfl (hf) rfl (by repeat' constructor) rfl rfl
  repeat (refine stp rfl ?_ ?_;·repeat' constructor)
  apply qst;exact rfl;exact rfl;exact q_seqE balT rfl rfl rfl
  repeat (refine stp rfl ?_ ?_;·repeat' constructor)
  exact end1b rfl rfl rfl
end Go.Pv


set_option maxHeartbeats 2000000
namespace Go.Pv
attribute [local irreducible] PWP POps PQuiet PSem XThen XBlock RetPost InlPost
open Go.Proofs
theorem decD_small {u : Nat} (h : u < 10) : Lib.decDigits u = [UInt8.ofNat (48 + u)] := by rw [Lib.decDigits, dif_pos h]
theorem decD_big {u : Nat} (h : ¬ u < 10) : Lib.decDigits u = Lib.decDigits (u / 10) ++ [UInt8.ofNat (48 + u % 10)] := by rw [Lib.decDigits, dif_neg h]
def DecI (u0 : Nat) (k : Nat × List UInt8) : Prop := k.1 ≤ u0 ∧ k.2.length ≤ u0 - k.1 + 1 ∧ ((k.2 = [] ∧ k.1 = u0) ∨ (k.2 ≠ [] ∧ k.1 < u0 ∧ Lib.decDigits u0 = (if k.1 = 0 then k.2 else Lib.decDigits k.1 ++ k.2)) ∨ (k.2 ≠ [] ∧ u0 = 0 ∧ k.1 = 0 ∧ Lib.decDigits u0 = k.2))
theorem DecI.done {u0 : Nat} {k : Nat × List UInt8} (h : DecI u0 k) (hc : ¬ (k.2 = [] ∨ 0 < k.1)) : k.2 = Lib.decDigits u0 := by
  obtain ⟨h1, h2, h3⟩ := h
  have e1 : k.2 ≠ [] := fun e => hc (.inl e)
  have e2 : k.1 = 0 := by
    rcases Nat.eq_zero_or_pos k.1 with h | h
    · exact h
    · exact absurd (.inr h) hc
  rcases h3 with ⟨g, _⟩ | ⟨_, _, g⟩ | ⟨_, _, _, g⟩
  · exact absurd g e1
  · rw [g, if_pos e2]
  · rw [g]
end Go.Pv


set_option maxHeartbeats 2000000
namespace Go.Pv
attribute [local irreducible] PWP POps PQuiet PSem XThen XBlock RetPost InlPost
open Go.Proofs
end Go.Pv


set_option maxHeartbeats 2000000
namespace Go.Pv
attribute [local irreducible] PWP POps PQuiet PSem XThen XBlock RetPost InlPost
open Go.Proofs
def cutS (a : UInt8) (out : List Str) (c : UInt8) : List Str := if c.toNat = a.toNat then out ++ [[]] else out.set (out.length - 1) (out.getD (out.length - 1) [] ++ [c])
def cutK (s : Str) (a : UInt8) : Nat → List Str
  | 0 => [[]]
  | k + 1 => cutS a (cutK s a k) (s.getD k 0)
theorem cutS_len {a : UInt8} {out : List Str} {c : UInt8} (h : 0 < out.length) : 0 < (cutS a out c).length ∧ (cutS a out c).length ≤ out.length + 1 := by
  rw [cutS]
  split
  · simp
  · simp; omega
theorem cutK_len (s : Str) (a : UInt8) : ∀ k, 0 < (cutK s a k).length ∧ (cutK s a k).length ≤ k + 1
  | 0 => by simp [cutK]
  | k + 1 => by
    have ih := cutK_len s a k
    have := cutS_len (a := a) (c := s.getD k 0) ih.1
    rw [cutK]
    omega
theorem cutK_piece (s : Str) (a : UInt8) : ∀ (k : Nat) (x : Str), x ∈ cutK s a k → x.length ≤ k
  | 0, x, h => by simp [cutK] at h; subst h; simp
  | k + 1, x, h => by
    have ih := cutK_piece s a k
    have hl := cutK_len s a k
    rw [cutK, cutS] at h
    split at h
    · rcases List.mem_append.1 h with h | h
      · have := ih x h; omega
      · simp at h; subst h; simp
    · rcases List.mem_or_eq_of_mem_set h with h | h
      · have := ih x h; omega
      · subst h
        have : (cutK s a k).getD ((cutK s a k).length - 1) [] ∈ cutK s a k := by
          rw [List.getD_eq_getElem?_getD, List.getElem?_eq_getElem (by omega)]
          exact List.getElem_mem _
        have := ih _ this
        simp at this ⊢; omega
end Go.Pv


set_option maxHeartbeats 2000000
namespace Go.Pv
attribute [local irreducible] PWP POps PQuiet PSem XThen XBlock RetPost InlPost
open Go.Proofs
theorem format_fail (p : SPost) (hc : ¬ checkE p = 0) : Ret Tryz.prog .shared 12 [.agg (ePost p)] (.tup [.str [], I (checkE p)]) := by
  have h1 := checkPost_ret p
  generalize checkE p = e at *
  refine Ret.of_pwp layOk mixed Go.Proofs.Tryz.func12 rfl (by decide) rfl rfl ?_
  repeat (refine stp rfl ?_ ?_;·repeat' constructor)
  apply qst;exact rfl;exact rfl;exact q_callP rfl (h1) rfl (by repeat' constructor) rfl rfl
  repeat (refine stp rfl ?_ ?_;·repeat' constructor)
  refine pw_cond rfl (fun h => ?_) (fun h => ?_)
  · repeat (refine stp rfl ?_ ?_;·repeat' constructor)
    exact end2 rfl rfl rfl rfl rfl trivial trivial rfl
  · exact absurd (by simpa using h) hc
end Go.Pv


set_option maxHeartbeats 2000000
namespace Go.Pv
attribute [local irreducible] PWP POps PQuiet PSem XThen XBlock RetPost InlPost
open Go.Proofs
def zP : SPost := ⟨0, 0, [], [], [], [], 0, 0, 0⟩
def Fd.put (c : SPost) (x : Str) (n : Int) : Fd → SPost
  | .o => { c with order := x }
  | .i => { c with item := x }
  | .s => { c with ship := x }
  | .w => { c with who := x }
  | .a _ _ => { c with amount := n }
  | .r _ _ => { c with ref := n }
  | .l _ _ => { c with role := n }
def Fd.isN : Fd → Bool
  | .a _ _ | .r _ _ | .l _ _ => true
  | _ => false
def wrdK (w : Str) : Nat → Int
  | 0 => -1
  | k + 1 => if wordL.getD k [] = w then (k : Int) else wrdK w k
def parV : Option SPost → PV
  | none => .tup [.agg (ePost zP), I 7]
  | some c => .tup [.agg (ePost c), I 0]
end Go.Pv


set_option maxHeartbeats 2000000
namespace Go.Pv
attribute [local irreducible] PWP POps PQuiet PSem XThen XBlock RetPost InlPost
open Go.Proofs
def cutL (a : UInt8) : List UInt8 → List Str
  | [] => [[]]
  | c :: r => if c.toNat = a.toNat then [] :: cutL a r else ((c :: (cutL a r).headD []) :: (cutL a r).tail)
theorem cutL_ne (a : UInt8) (s : List UInt8) : cutL a s ≠ [] := by
  cases s with
  | nil => simp [cutL]
  | cons c r => rw [cutL]; split <;> simp
def glue (out L : List Str) : List Str := out.set (out.length - 1) (out.getD (out.length - 1) [] ++ L.headD []) ++ L.tail
theorem cons_of {L : List Str} (h : L ≠ []) : ∃ x t, L = x :: t := by
  cases L with
  | nil => exact absurd rfl h
  | cons x t => exact ⟨x, t, rfl⟩
theorem snoc_of {out : List Str} (h : 0 < out.length) : ∃ p q, out = p ++ [q] := ⟨out.dropLast, out.getLast (by intro e; subst e; simp at h), (List.dropLast_concat_getLast _).symm⟩
theorem glue_snoc (p : List Str) (q x : Str) (t : List Str) : glue (p ++ [q]) (x :: t) = p ++ (q ++ x) :: t := by
  simp [glue]
theorem cutS_snoc (a : UInt8) (p : List Str) (q : Str) (c : UInt8) : cutS a (p ++ [q]) c = if c.toNat = a.toNat then p ++ [q] ++ [[]] else p ++ [q ++ [c]] := by
  rw [cutS]
  split
  · rfl
  · simp
theorem cut_glue (s : Str) (a : UInt8) : ∀ k, k ≤ s.length → cutL a s = glue (cutK s a k) (cutL a (s.drop k))
  | 0, _ => by
    obtain ⟨x, t, hx⟩ := cons_of (cutL_ne a s)
    rw [cutK, List.drop_zero, hx, show ([[]] : List Str) = [] ++ [[]] from rfl, glue_snoc]; rfl
  | k + 1, hk => by
    rw [cut_glue s a k (by omega)]
    obtain ⟨p, q, hp⟩ := snoc_of (cutK_len s a k).1
    have hd : s.drop k = s[k] :: s.drop (k + 1) := List.drop_eq_getElem_cons (by omega)
    have hg : s.getD k 0 = s[k] := by rw [List.getD_eq_getElem?_getD, List.getElem?_eq_getElem (by omega)]; rfl
    obtain ⟨x, t, hx⟩ := cons_of (cutL_ne a (s.drop (k + 1)))
    rw [cutK, hp, cutS_snoc, hg, hd, cutL, hx]
    split
    · rw [show ([] : Str) :: x :: t = ([] : Str) :: (x :: t) from rfl, glue_snoc, show p ++ [q] ++ [[]] = (p ++ [q]) ++ [([] : Str)] from rfl, glue_snoc]
      simp
    · rw [List.headD_cons, List.tail_cons, glue_snoc, glue_snoc]
      simp
theorem cut_all (s : Str) (a : UInt8) : cutK s a s.length = cutL a s := by
  rw [cut_glue s a s.length (Nat.le_refl _), List.drop_length, cutL]
  obtain ⟨p, q, hp⟩ := snoc_of (cutK_len s a s.length).1
  rw [hp, glue_snoc]; simp
theorem index_ne (b c : UInt8) (l : List UInt8) (h : b ≠ c) : Lib.index (b :: l) [c] = if Lib.index l [c] == -1 then -1 else Lib.index l [c] + 1 := by
  have hp : ([c] : List UInt8).isPrefixOf (b :: l) = false := by simp [List.isPrefixOf, Ne.symm h]
  rw [Lib.index, hp]; simp
theorem index_eq (c : UInt8) (l : List UInt8) : Lib.index (c :: l) [c] = 0 := by
  rw [Lib.index]; simp [List.isPrefixOf]
theorem split_all (c : UInt8) : ∀ s : List UInt8, Lib.splitK [c] 0 (Lib.count s [c]) s = cutL c s
  | [] => by rw [Lib.count_miss (by simp [Lib.index])]; rfl
  | b :: l => by
    have ih := split_all c l
    by_cases h : b = c
    · subst h
      rw [Lib.count_cons_eq, Nat.add_comm, Lib.splitK, index_eq, if_neg (by decide), cutL, if_pos rfl, ← ih]
      rfl
    · have hn : ¬ b.toNat = c.toNat := fun e => h (UInt8.toNat_inj.1 e)
      rw [Lib.count_cons_ne b c l h, cutL, if_neg hn, ← ih]
      by_cases hm : Lib.index l [c] = -1
      · rw [Lib.count_miss hm]; rfl
      · have hge := Lib.index_ge l [c]
        obtain ⟨j, hj⟩ : ∃ j : Nat, Lib.index l [c] = j := ⟨(Lib.index l [c]).toNat, by omega⟩
        have hc := Lib.count_hit (s := l) (sub := [c]) (by simp) hj
        rw [hc, Nat.add_comm, Lib.splitK, Lib.splitK, index_ne b c l h, hj, if_neg (by simp <;> omega), if_neg (by simp <;> omega), if_neg (by simp <;> omega)]
        simp only [Nat.add_zero, List.length_cons, List.length_nil, List.headD_cons, List.tail_cons]
        rw [show ((j : Int) + 1).toNat = j + 1 by omega, Int.toNat_natCast]
        rfl
def noB (a : UInt8) (s : Str) : Prop := ∀ c, c ∈ s → c.toNat ≠ a.toNat
theorem cut_noB {a : UInt8} : ∀ {s : Str}, noB a s → cutL a s = [s]
  | [], _ => rfl
  | c :: r, h => by
    rw [cutL, if_neg (h c (by simp)), cut_noB (s := r) fun d hd => h d (by simp [hd])]; rfl
theorem cut_sep {a : UInt8} : ∀ {s t : Str}, noB a s → cutL a (s ++ a :: t) = s :: cutL a t
  | [], t, _ => by rw [List.nil_append, cutL, if_pos rfl]
  | c :: r, t, h => by
    rw [List.cons_append, cutL, if_neg (h c (by simp)), cut_sep (s := r) fun d hd => h d (by simp [hd])]; rfl
theorem cut_join {a : UInt8} : ∀ (xs : List Str) (x : Str), noB a x → (∀ y, y ∈ xs → noB a y) → cutL a (x ++ Lib.joinTail [a] xs) = x :: xs
  | [], x, hx, _ => by simp [Lib.joinTail]; exact cut_noB hx
  | y :: ys, x, hx, h => by
    have e : Lib.joinTail [a] (y :: ys) = a :: (y ++ Lib.joinTail [a] ys) := by simp [Lib.joinTail]
    rw [e, cut_sep hx, cut_join ys y (h y (by simp)) fun z hz => h z (by simp [hz])]
end Go.Pv


set_option maxHeartbeats 2000000
namespace Go.Pv
attribute [local irreducible] PWP POps PQuiet PSem XThen XBlock RetPost InlPost
open Go.Proofs Go.RowKit
theorem fixV_rep {E : Env} {c : PV} {u v : Value} (h : Rep E c v) (hf : fixV c = some u) : v = u := by
  cases c with
  | bool b => cases hf; exact h.bool_inv
  | int k n => cases hf; exact h.int_inv
  | str l => cases hf; exact h.str_inv
  | raw v => cases hf; exact h.raw_inv
  | _ => cases hf
section
variable {P : Program} {L : Lay} {s : St}
theorem sm_calls [Globs] {d : Nat} {ty : TypeId} {pos : String} {af : Array Edge} {fop : Operand} {args : Array Operand} {tys : Array TypeId} {f : FuncId} {vals : List Value} {Φ : PV → Prop} {K : St → Prop}
    (hf : s.ev fop = .clo f []) (hcall : callable P f) (hargs : args.toList.map (fun x => fixV (s.ev x)) = vals.map some)
    (hc : ∀ w : World, Globs.glob w → Calls P f vals.toArray w fun e w' => ∃ v pv, e = .returned v ∧ Below w.heap.size w w' ∧ Φ pv ∧ ∀ (w2 : World) (ok : Nat → Prop), DRep w2 ok pv v)
    (hK : ∀ pv, Φ pv → K (s.put (some d) pv)) : Sm P L s ⟨some d, .call ⟨.value fop, args, tys⟩, ty, pos, af, none⟩ K := by
  intro C a w Q hG hs hN
  obtain ⟨γ, hs⟩ := hs
  have hfv := hs.ev fop
  rw [hf] at hfv
  obtain ⟨vs, hv, hl, _⟩ := hfv.clo_inv
  have hvs : vs = [] := List.eq_nil_of_length_eq_zero (by simpa using hl.symm)
  subst hvs
  have hvals : args.toList.map a.eval ++ [] = vals := by
    rw [List.append_nil]
    apply List.ext_getElem?
    intro i
    have h1 := congrArg (fun l => l[i]?) hargs
    simp only [List.getElem?_map] at h1 ⊢
    cases hx : args.toList[i]? with
    | none =>
      rw [hx] at h1
      simp only [Option.map_none] at h1 ⊢
      cases hy : vals[i]? with
      | none => rfl
      | some y => rw [hy] at h1; cases h1
    | some x =>
      rw [hx] at h1
      simp only [Option.map_some] at h1 ⊢
      cases hy : vals[i]? with
      | none => rw [hy] at h1; cases h1
      | some y =>
        rw [hy] at h1
        have h1 : fixV (s.ev x) = some y := by simpa using h1
        rw [fixV_rep (hs.ev x) h1]
  unfold Oper.wp
  rw [run_call (f := f) rfl hv hcall, Oper.upon_enter, hvals]
  refine (hc w (hG.glob _ hs.below)).mono ?_
  rintro e w' ⟨v, pv, rfl, hb, hφ, hr⟩
  exact ⟨_, ⟨γ, (hs.ext hb).put hN (.d (hr _ _))⟩, hK pv hφ⟩
end
theorem tup2 {w : World} {ok : Nat → Prop} {c1 c2 : PV} {v1 v2 : Value} (h1 : DRep w ok c1 v1) (h2 : DRep w ok c2 v2) : DRep w ok (.tup [c1, c2]) (.tuple #[v1, v2]) := by
  refine .tup [c1, c2] [v1, v2] rfl fun i c v e1 e2 => ?_
  match i, e1, e2 with
  | 0, e1, e2 => simp at e1 e2; subst e1; subst e2; exact h1
  | 1, e1, e2 => simp at e1 e2; subst e1; subst e2; exact h2
def AtoiP (l : Str) (pv : PV) : Prop := (∃ n, Lib.atoiAll l = .ok n ∧ pv = .tup [I n, .raw .nilIface]) ∨ ((∀ m, Lib.atoiAll l ≠ .ok m) ∧ ∃ n t u, pv = .tup [I n, .raw (.iface t u)])
theorem glob_err {w : World} {nm : String} {g : Nat} (h : HoldsErr w nm) (hg : Tryz.prog.globalNamed nm = some g) : ∃ ev, w.cell? ⟨g, 0, none⟩ = some ev ∧ (ev = .nilIface ∨ ∃ te pe, ev = .iface te pe) := by
  obtain ⟨g', te, pe, h1, h2⟩ := h
  rw [hg] at h1
  cases h1
  exact ⟨_, h2, .inr ⟨te, pe, rfl⟩⟩
theorem errS_g : Tryz.prog.globalNamed "strconv.ErrSyntax" = some 0 := by kernel_rfl
theorem errR_g : Tryz.prog.globalNamed "strconv.ErrRange" = some 1 := by kernel_rfl
theorem numEnd3 (x : Lib.NumEnd Int) : (∃ n, x = .ok n) ∨ x = Lib.atoiAll [] ∨ x = .range := by
  cases x
  · exact .inl ⟨_, rfl⟩
  · exact .inr (.inl rfl)
  · exact .inr (.inr rfl)
theorem synt_ne (m : Int) : Lib.atoiAll [] ≠ .ok m := fun h => by cases h
theorem atoi_calls (l : Str) (hl : l.length ≤ 1000000) (w : World) (hw : Globs.glob w) : Calls Tryz.prog 62 #[.string ⟨l.toArray⟩] w fun e w' => ∃ v pv, e = .returned v ∧ Below w.heap.size w w' ∧ AtoiP l pv ∧ ∀ (w2 : World) (ok : Nat → Prop), DRep w2 ok pv v := by
  have hsz : (⟨l.toArray⟩ : ByteArray).size = l.length := by simp [ByteArray.size]
  have hd : (⟨l.toArray⟩ : ByteArray).data.toList = l := by simp
  have hw' : Lib.TabIs Tryz.prog w "internal/strconv.uint64pow10" .u64 Lib.pow10Tab ∧ HoldsErr w "strconv.ErrSyntax" ∧ HoldsErr w "strconv.ErrRange" := ⟨pow_of hw, errs_of hw⟩
  rcases numEnd3 (Lib.atoiAll l) with ⟨n, ha⟩ | ha | ha
  · refine (Tryz.strconv_Atoi_ok ⟨l.toArray⟩ (by omega) n (by rw [hd]; exact ha) w).mono ?_
    rintro e w' ⟨rfl, hw2⟩
    refine ⟨_, .tup [I n, .raw .nilIface], rfl, ?_, .inl ⟨n, ha, rfl⟩, fun w2 ok => tup2 (.int _ _) (.raw _)⟩
    rcases hw2 with rfl | ⟨t, rfl⟩
    · exact Below.refl _ _
    · exact Lib.bytesWorld_below _ _ _
  · obtain ⟨ev, h1, h2⟩ := glob_err hw'.2.1 errS_g
    refine (Tryz.strconv_Atoi_syntax ⟨l.toArray⟩ (by omega) (by rw [hd]; exact ha) ev w h1 h2).mono ?_
    rintro e w' ⟨N, rfl, _, _, hb⟩
    exact ⟨_, .tup [I 0, .raw (.iface _ _)], rfl, hb, .inr ⟨(fun m hm => synt_ne m (ha.symm.trans hm)), 0, _, _, rfl⟩, fun w2 ok => tup2 (.int _ _) (.raw _)⟩
  · obtain ⟨ev, h1, h2⟩ := glob_err hw'.2.2 errR_g
    refine (Tryz.strconv_Atoi_range ⟨l.toArray⟩ (by omega) (by rw [hd]; exact ha) ev w h1 h2).mono ?_
    rintro e w' ⟨N, rfl, _, _, hb⟩
    exact ⟨_, .tup [I _, .raw (.iface _ _)], rfl, hb, .inr ⟨(fun m hm => by rw [ha] at hm; cases hm), _, _, _, rfl⟩, fun w2 ok => tup2 (.int _ _) (.raw _)⟩
theorem alloc_lt (w : World) (o : Obj) : w.heap.size < (w.alloc o).heap.size := by
  show w.heap.size < (w.heap.push o).size
  rw [Array.size_push]; omega
theorem alloc_cell (w : World) (cs : Array Value) (T : TypeId) (f : Nat × Nat) (i : Nat) : (w.alloc (.cells cs T f)).cell? ⟨w.heap.size, i, none⟩ = cs[i]? := by
  have : (w.alloc (.cells cs T f)).heap[w.heap.size]? = some (.cells cs T f) := by
    show (w.heap.push _)[w.heap.size]? = _
    rw [Array.getElem?_push_size]
  unfold World.cell?
  simp only [this]
  rfl
theorem genSplit_ret (s : Str) (hs : s.length ≤ 1000000) : Ret Tryz.prog .fresh 116 [.str s, .str [32], I 0, I (-1)] (.sl ((cutL 32 s).map eS)) := by
  refine ⟨⟨_, Go.Proofs.Tryz.func116, by decide, rfl⟩, fun w X args hg hX hl hargs => ?_⟩
  match args, hl with
  | [v0, v1, v2, v3], _ =>
    have h0 := hargs 0 _ v0 rfl rfl
    have h1 := hargs 1 _ v1 rfl rfl
    have h2 := hargs 2 _ v2 rfl rfl
    have h3 := hargs 3 _ v3 rfl rfl
    cases h0
    cases h1
    cases h2
    cases h3
    have hsz : (⟨s.toArray⟩ : ByteArray).size = s.length := by simp [ByteArray.size]
    have hd : (⟨s.toArray⟩ : ByteArray).data.toList = s := by simp
    have hsep : (⟨[32].toArray⟩ : ByteArray) = ⟨#[32]⟩ := rfl
    have hcnt : Lib.countB ⟨s.toArray⟩ ⟨#[32]⟩ = Lib.count s [32] := by show Lib.count _ _ = _; rw [hd]
    have hle := Lib.countB_le ⟨#[32]⟩ (by decide) _ ⟨s.toArray⟩ (Nat.le_refl _)
    have hall := Lib.splitB_all ⟨#[32]⟩ (by decide) 0 _ ⟨s.toArray⟩ rfl
    have hdat := Lib.splitB_data ⟨#[32]⟩ 0 (Lib.countB ⟨s.toArray⟩ ⟨#[32]⟩) ⟨s.toArray⟩
    rw [hd, hcnt] at hdat
    have hdat : (Lib.splitB ⟨#[32]⟩ 0 (Lib.count s [32]) ⟨s.toArray⟩).map (·.data.toList) = cutL 32 s := by rw [hdat]; exact split_all 32 s
    have c := Any.strings_genSplit_core Tryz.lays221 (by kernel_rfl) ⟨s.toArray⟩ ⟨#[32]⟩ 0 (-1) (Lib.countB ⟨s.toArray⟩ ⟨#[32]⟩ + 1) w (by omega) (by decide) (Nat.zero_le _)
      (fun x cs hx => (Tryz.strings_Index_one x 32 _).mono fun e w' ⟨he, hw⟩ => ⟨by rw [he]; show _ = Ending.returned (Value.int .i64 (Lib.index x.data.toList [32])); rw [Lib.index_one], hw⟩)
      ((Tryz.strings_Count_one ⟨s.toArray⟩ 32 w).mono fun e w' ⟨he, hw⟩ => ⟨by rw [he, hcnt, Lib.count_one]; show Ending.returned (Value.int .i64 ((List.count 32 _ : Nat) : Int)) = _; rw [hd], hw⟩)
      (by decide) (by decide) (by rw [if_pos (by decide)]; omega)
    rw [Nat.add_sub_cancel, hall] at c
    refine Calls.mono (show Calls Tryz.prog 116 _ w _ from c) ?_
    rintro e w' ⟨rfl, rfl⟩
    rw [hcnt]
    rw [hcnt] at hall
    generalize hxs : Lib.splitB ⟨#[32]⟩ 0 (Lib.count s [32]) ⟨s.toArray⟩ = xs at *
    have hcl : (cutL 32 s).length = xs.length := by rw [← hdat, List.length_map]
    have hbel : Below w.heap.size w (w.alloc (.cells (Lib.cellsOf xs (Lib.count s [32] + 1)) 9)) := (Below.refl _ w).alloc (Nat.le_refl _) _
    refine ⟨_, rfl, hbel, ?_⟩
    have key := DRep.sl (w := w.alloc (.cells (Lib.cellsOf xs (Lib.count s [32] + 1)) 9)) (ok := Mode.fresh.ok X w (w.alloc (.cells (Lib.cellsOf xs (Lib.count s [32] + 1)) 9))) ((cutL 32 s).map eS) w.heap.size 0 (Lib.count s [32] + 1) 1 (fun i _ => .string (xs.getD i ⟨#[]⟩)) ⟨Nat.le_refl _, alloc_lt w _⟩ (by decide) (by rw [List.length_map, hcl]; omega)
      (fun row hr => by obtain ⟨y, _, rfl⟩ := List.mem_map.1 hr; rfl)
      (fun i j row c e1 e2 => ?_) (fun i j row c e1 e2 => ?_)
    · rw [List.length_map, hcl, hall] at key
      exact key
    · rw [List.getElem?_map] at e1
      cases hy : (cutL 32 s)[i]? with
      | none => rw [hy] at e1; cases e1
      | some y =>
        rw [hy] at e1
        cases e1
        match j, e2 with
        | 0, e2 =>
          have hi : i < xs.length := by rw [← hcl]; exact (List.getElem?_eq_some_iff.1 hy).1
          refine ⟨?_, rfl⟩
          rw [show (0 + i * 1 + 0) = i by omega, alloc_cell, show Lib.count s [32] + 1 = xs.length from hall.symm, Lib.cellsOf_full]
          simp [List.getD, List.getElem?_eq_getElem hi, hi]
    · rw [List.getElem?_map] at e1
      cases hy : (cutL 32 s)[i]? with
      | none => rw [hy] at e1; cases e1
      | some y =>
        rw [hy] at e1
        cases e1
        match j, e2 with
        | 0, e2 =>
          have hi : i < xs.length := by rw [← hcl]; exact (List.getElem?_eq_some_iff.1 hy).1
          rw [← hdat, List.getElem?_map, List.getElem?_eq_getElem hi] at hy
          have e2 : PV.str y = c := by simpa [eS] using e2
          subst e2
          have hy : xs[i].data.toList = y := by simpa using hy
          subst hy
          have := DRep.str (w := w.alloc (.cells (Lib.cellsOf xs (Lib.count s [32] + 1)) 9)) (ok := Mode.fresh.ok X w (w.alloc (.cells (Lib.cellsOf xs (Lib.count s [32] + 1)) 9))) xs[i].data.toList
          rw [show (⟨xs[i].data.toList.toArray⟩ : ByteArray) = xs.getD i ⟨#[]⟩ by rw [List.getD_eq_getElem?_getD, List.getElem?_eq_getElem hi]; simp] at this
          exact this
theorem split_ret (s : Str) (hs : s.length ≤ 1000000) : Ret Tryz.prog .shared 61 [.str s, .str [32]] (.sl ((cutL 32 s).map eS)) := by
  have h := genSplit_ret s hs
  refine Ret.of_pwp layOk mixed Go.Proofs.Tryz.func61 rfl (by decide) rfl rfl ?_
  repeat (refine stp rfl ?_ ?_;·repeat' constructor)
  apply qst;exact rfl;exact rfl;exact q_callF rfl (h) rfl (by repeat' constructor) rfl
  repeat (refine stp rfl ?_ ?_;·repeat' constructor)
  exact end1 rfl rfl rfl trivial rfl
end Go.Pv


set_option maxHeartbeats 2000000
namespace Go.Pv
attribute [local irreducible] PWP POps PQuiet PSem XThen XBlock RetPost InlPost
open Go.Proofs
section
variable {P : Program} {L : Lay} {s : St} {T T' : TypeId} {d : Nat} {x y : Operand} {ty : TypeId} {pos : String} {af : Array Edge} {g : Option (Nat × Bool)}
end
structure SSet where
  key : Str
  value : Str
  deriving DecidableEq, Inhabited
def eC (c : UInt8) : List PV := [.int .u8 c.toNat]
end Go.Pv


set_option maxHeartbeats 2000000
namespace Go.Pv
attribute [local irreducible] PWP POps PQuiet PSem XThen XBlock RetPost InlPost
open Go.Proofs
theorem index_str (l : List Str) (v : Str) (hl : l.length ≤ 1000000) : Ret Tryz.prog .shared 63 [.sl (l.map eS), .str v] (I (idx l fun x => decide (v = x))) := by
  refine Ret.of_pwp layOk mixed Go.Proofs.Tryz.func63 rfl (by decide) rfl rfl ?_
  repeat (refine stp rfl ?_ ?_;·repeat' constructor)
  refine pw_loop (Clear l fun x => decide (v = x)) (fun k => [(0, .sl (l.map eS)), (1, .str v), (7, I (l.map eS).length), (8, I k)]) (fun _ => []) (fun k => l.length - k) 0 .zero ⟨rfl, rfl, rfl, rfl, trivial⟩ ?_
  intro k s hk
  repeat (refine stp rfl ?_ ?_;·repeat' constructor)
  refine pw_cond rfl (fun h => ?_) (fun h => ?_)
  · have hlt : k < l.length := by simpa using h
    obtain ⟨x, hx⟩ := get_lt hlt
    clear h
    repeat (refine stp rfl ?_ ?_;·repeat' constructor)
    apply qst;exact rfl;exact rfl;exact q_idxm rfl rfl rfl rfl rfl (by omega) hx rfl
    repeat (refine stp rfl ?_ ?_;·repeat' constructor)
    refine pw_cond rfl (fun h => ?_) (fun h => ?_)
    · repeat (refine stp rfl ?_ ?_;·repeat' constructor)
      exact end1i rfl rfl (by rw [hk.found hx h])
    · repeat (refine stp rfl ?_ ?_;·repeat' constructor)
      exact ⟨k + 1, hk.succ hx h, by omega, rfl, rfl, rfl, i64_next (by omega) (by omega), trivial⟩
  · repeat (refine stp rfl ?_ ?_;·repeat' constructor)
    exact end1i rfl rfl (by rw [hk.none (by simpa using h)])
def setP1 (f : Fd) (x : Str) (q : SPost) : Option SPost := if f.isN = true then (match Lib.atoiAll x with | .ok n => some (f.put q x n) | _ => none) else some (f.put q x 0)
def setP (fs : List Fd) (l : List Str) (c : SPost) : Nat → Option SPost
  | 0 => some c
  | k + 1 => match setP fs l c k with
    | none => none
    | some q => setP1 (fs.getD k .o) (l.getD (2 + k) []) q
theorem setP_none {fs : List Fd} {l : List Str} {c : SPost} {k n : Nat} (hk : k < n) (h : setP fs l c (k + 1) = none) : setP fs l c n = none := by
  obtain ⟨d, rfl⟩ : ∃ d, n = k + 1 + d := ⟨n - (k + 1), by omega⟩
  clear hk
  induction d with
  | zero => exact h
  | succ d ih => rw [← Nat.add_assoc, setP, ih]
def okN : Lib.NumEnd Int → Option Int
  | .ok n => some n
  | _ => none
def progF (s : Str) : Option SPost → Option SPost
  | none => none
  | some c => if checkE c = 0 ∧ textP c = s then some c else none
def progC2 (s : Str) (l : List Str) (d op : Int) : Option SPost :=
  if op < 0 then none else if ¬ (fdsOf op).length + 2 = l.length then none else progF s (setP (fdsOf op) l ⟨op, d, [], [], [], [], 0, 0, 0⟩ (fdsOf op).length)
def progC1 (s : Str) (l : List Str) : Option SPost :=
  if l.length < 2 then none else match okN (Lib.atoiAll (l.getD 0 [])) with
    | none => none
    | some d => progC2 s l d (idx wordL fun x => decide (l.getD 1 [] = x))
def progC (s : Str) : Option SPost := progC1 s (cutL 32 s)
set_option maxRecDepth 20000 in
theorem parse_ret (s : Str) (hs : s.length ≤ 1000000) : Ret Tryz.prog .fresh 14 [.str s] (parV (progC s)) := by
  have hsp := split_ret s hs
  have hcp := cutK_piece s 32 s.length
  have hcl := (cutK_len s 32 s.length).2
  rw [cut_all] at hcp hcl
  have hend1 : progC s = progC1 s (cutL 32 s) := rfl
  generalize cutL 32 s = l at *
  have hll : ((l.map eS).length : Int) = l.length := by simp
  have hget : ∀ j, j < l.length → l[j]? = some (l.getD j []) ∧ (l.getD j []).length ≤ 1000000 := fun j hj => by
    have e : l[j]? = some (l.getD j []) := by rw [List.getD_eq_getElem?_getD, List.getElem?_eq_getElem hj]; rfl
    exact ⟨e, by have := hcp _ (List.mem_of_getElem? e); omega⟩
  have hcal : callable Tryz.prog 62 := ⟨_, Go.Proofs.Tryz.func62, by decide, rfl⟩
  rw [progC1] at hend1
  refine Ret.of_pwp layOk mixed Go.Proofs.Tryz.func14 rfl (by decide) rfl rfl ?_
  repeat (refine stp rfl ?_ ?_;·repeat' constructor)
  apply qst;exact rfl;exact rfl;exact q_call rfl (hsp) rfl (by repeat' constructor) rfl
  repeat (refine stp rfl ?_ ?_;·repeat' constructor)
  rw [hll]
  refine pw_cond rfl (fun h => ?_) (fun h => ?_)
  · have hlt := of_decide_eq_true h
    have hend : progC s = none := by rw [hend1, if_pos (by omega)]
    clear h
    repeat (refine stp rfl ?_ ?_;·repeat' constructor)
    exact endc2f rfl rfl rfl rfl rfl (by repeat' constructor) (by rw [hend]; rfl)
  have h2 : 2 ≤ l.length := by have := of_decide_eq_false h; omega
  clear h
  rw [if_neg (by omega)] at hend1
  obtain ⟨hx0, hl0⟩ := hget 0 (by omega)
  obtain ⟨hx1, hl1⟩ := hget 1 (by omega)
  generalize l.getD 0 [] = x0 at *
  generalize l.getD 1 [] = x1 at *
  have hwd := words_ret
  have hix := index_str wordL x1 (by decide)
  have hib := idx_bounds wordL fun x => decide (x1 = x)
  refine pw_skip ?_
  ((repeat (first | refine x_norm ?_ | refine pw_seq ?_)); refine pw_regionS 3 ?_)
  refine ps_v rfl trivial ?_
  apply qst;exact rfl;exact rfl;exact q_idxm (n := ((0 : Int) : Int)) rfl rfl rfl rfl rfl (by omega) hx0 rfl
  iterate 1 (refine stp rfl ?_ ?_;·repeat' constructor)
  refine ps_nil ?_
  refine psem_sm rfl (sm_calls (vals := [.string ⟨x0.toArray⟩]) (Φ := AtoiP x0) rfl hcal rfl (atoi_calls x0 hl0) (fun pv hφ => ?_))
  refine psem_ops ?_
  rcases hφ with ⟨d, hd, rfl⟩ | ⟨hn, d, t, u, rfl⟩
  rotate_left
  · have hend : progC s = none := by
      rw [hend1]
      rcases numEnd3 (Lib.atoiAll x0) with ⟨m, ha⟩ | ha | ha
      · exact absurd ha (hn m)
      · rw [ha] <;> rfl
      · rw [ha] <;> rfl
    generalize (idx wordL fun x => decide (x1 = x)) = op at *
    repeat (refine stp rfl ?_ ?_;·repeat' constructor)
    refine pw_draw2 7 1 [28, 29, 30, 31, 32, 33, 34, 7] [] (by decide +kernel) rfl ?_
    repeat (refine stp rfl ?_ ?_;·repeat' constructor)
    apply qst;exact rfl;exact rfl;exact q_callF rfl (hwd) rfl (by repeat' constructor) rfl
    repeat (refine stp rfl ?_ ?_;·repeat' constructor)
    apply qst;exact rfl;exact rfl;exact q_idxm (n := ((1 : Int) : Int)) rfl rfl rfl rfl rfl (by omega) hx1 rfl
    repeat (refine stp rfl ?_ ?_;·repeat' constructor)
    apply qst;exact rfl;exact rfl;exact q_callP rfl (hix) rfl (by repeat' constructor) rfl rfl
    repeat (refine stp rfl ?_ ?_;·repeat' constructor)
    apply qst;exact rfl;exact rfl;exact q_ifN1 Tryz.underlying115 rfl
    repeat (refine stp rfl ?_ ?_;·repeat' constructor)
    exact endc2f rfl rfl rfl rfl rfl (by repeat' constructor) (by rw [hend]; rfl)
  have hend2 : progC s = progC2 s l d (idx wordL fun x => decide (x1 = x)) := by rw [hend1, hd]; rfl
  clear hend1 hd
  generalize (idx wordL fun x => decide (x1 = x)) = op at *
  rw [progC2] at hend2
  repeat (refine stp rfl ?_ ?_;·repeat' constructor)
  refine pw_draw2 7 1 [28, 29, 30, 31, 32, 33, 34, 7] [] (by decide +kernel) rfl ?_
  repeat (refine stp rfl ?_ ?_;·repeat' constructor)
  apply qst;exact rfl;exact rfl;exact q_callF rfl (hwd) rfl (by repeat' constructor) rfl
  repeat (refine stp rfl ?_ ?_;·repeat' constructor)
  apply qst;exact rfl;exact rfl;exact q_idxm (n := ((1 : Int) : Int)) rfl rfl rfl rfl rfl (by omega) hx1 rfl
  repeat (refine stp rfl ?_ ?_;·repeat' constructor)
  apply qst;exact rfl;exact rfl;exact q_callP rfl (hix) rfl (by repeat' constructor) rfl rfl
  repeat (refine stp rfl ?_ ?_;·repeat' constructor)
  apply qst;exact rfl;exact rfl;exact q_ifN0 Tryz.underlying115 rfl
  repeat (refine stp rfl ?_ ?_;·repeat' constructor)
  refine pw_cond rfl (fun h => ?_) (fun h => ?_)
  · have hop := of_decide_eq_true h
    have hend : progC s = none := by rw [hend2, if_pos hop]
    clear h
    repeat (refine stp rfl ?_ ?_;·repeat' constructor)
    exact endc2f rfl rfl rfl rfl rfl (by repeat' constructor) (by rw [hend]; rfl)
  have hop := of_decide_eq_false h
  clear h
  rw [if_neg hop] at hend2
  have hfl := fdsOf_len op
  have htl : ((fdsOf op).map Fd.tm).length = (fdsOf op).length := List.length_map _
  refine pw_skip ?_
  ((repeat (first | refine x_norm ?_ | refine pw_seq ?_)); refine pw_regionS 0 ?_)
  refine ps_nil ?_
  refine psem_sm rfl (sm_callP ((fdsOf op).map Fd.tm) (fun b off => fields_tm b off op) rfl rfl rfl rfl rfl rfl (fdsOf_tm_ok op) rfl ?_)
  refine psem_ops ?_
  rw [htl]
  have hrow : ∀ (k : Nat) (f : Fd), (fdsOf op)[k]? = some f → (((fdsOf op).map Fd.tm).map fun r => r.map (TC.inst fun o => PV.ptr 7 1 0 o))[0 + (k : Int).toNat]? = some (f.tm.map (TC.inst fun o => PV.ptr 7 1 0 o)) := fun k f h => by
    rw [List.getElem?_map, List.getElem?_map, Int.toNat_natCast, Nat.zero_add, h]; rfl
  generalize fdsOf op = fs at *
  have hw : IntKind.wrap .i64 ((l.length : Int) - 2) = (l.length : Int) - 2 := wrap_i64 (by omega) (by omega)
  repeat (refine stp rfl ?_ ?_;·repeat' constructor)
  rw [hll, hw]
  refine pw_cond rfl (fun h => ?_) (fun h => ?_)
  · have hne : ¬ (fs.length : Int) = (l.length : Int) - 2 := by simpa using h
    have hend : progC s = none := by rw [hend2, if_pos (by omega)]
    clear h
    repeat (refine stp rfl ?_ ?_;·repeat' constructor)
    exact endc2f rfl rfl rfl rfl rfl (by repeat' constructor) (by rw [hend]; rfl)
  have hle : fs.length + 2 = l.length := by
    have : (fs.length : Int) = (l.length : Int) - 2 := by simpa using h
    omega
  clear h
  rw [if_neg (by omega)] at hend2
  have hend0 : progC s = progF s (setP fs l ⟨op, d, [], [], [], [], 0, 0, 0⟩ fs.length) := hend2
  have hdrop : (l.map eS).drop ((2 : Int)).toNat = (l.drop 2).map eS := by rw [List.map_drop]; rfl
  have hdl : (((l.drop 2).map eS).length : Int) = fs.length := by simp; omega
  repeat (refine stp rfl ?_ ?_;·repeat' constructor)
  apply qst;exact rfl;exact rfl;exact QOp.slc rfl rfl rfl rfl rfl rfl (by decide) (by rw [hll]; omega) (fun row hr => by obtain ⟨y, _, rfl⟩ := List.mem_map.1 hr; rfl)
  rw [hdrop]
  repeat (refine stp rfl ?_ ?_;·repeat' constructor)
  rw [hdl]
  refine pw_loop (fun (k : Nat × SPost) => k.1 ≤ fs.length ∧ setP fs l ⟨op, d, [], [], [], [], 0, 0, 0⟩ k.1 = some k.2) (fun k => [(0, .str s), (2, .ptr 2 1 0 0), (7, .ptr 7 1 0 0), (8, .als 43 1 0 fs.length), (52, .sl ((l.drop 2).map eS)), (53, I fs.length), (54, I k.1)])
    (fun k => [(2, 1, ⟨23, 9, [ePost zP], 2⟩), (7, 1, ⟨23, 9, [ePost k.2], 2⟩), (43, 1, ⟨125, 4, (fs.map Fd.tm).map fun r => r.map (TC.inst fun o => PV.ptr 7 1 0 o), 2⟩)]) (fun k => fs.length - k.1) (0, ⟨op, d, [], [], [], [], 0, 0, 0⟩) ⟨Nat.zero_le _, rfl⟩ ⟨rfl, rfl, rfl, rfl, rfl, rfl, rfl, rfl, rfl, rfl, trivial⟩ ?_
  generalize ((fs.map Fd.tm).map fun r => r.map (TC.inst fun o => PV.ptr 7 1 0 o)) = rows at *
  rintro ⟨k, q⟩ st ⟨hk, hinv⟩
  simp only at hk hinv
  dsimp only
  repeat (refine stp rfl ?_ ?_;·repeat' constructor)
  refine pw_cond rfl (fun h => ?_) (fun h => ?_)
  · have hlt : k < fs.length := by have := of_decide_eq_true h; omega
    clear h
    obtain ⟨hxk0, hxl⟩ := hget (2 + k) (by omega)
    have hxk : (l.drop 2)[k]? = some (l.getD (2 + k) []) := by rw [List.getElem?_drop]; exact hxk0
    have hsk : setP fs l ⟨op, d, [], [], [], [], 0, 0, 0⟩ (k + 1) = setP1 (fs.getD k .o) (l.getD (2 + k) []) q := by rw [setP, hinv]
    have hf : fs[k]? = some (fs.getD k .o) := by rw [List.getD_eq_getElem?_getD, List.getElem?_eq_getElem hlt]; rfl
    have grow := hrow k _ hf
    clear hxk0 hf
    generalize l.getD (2 + k) [] = x at *
    generalize fs.getD k .o = f at *
    repeat (refine stp rfl ?_ ?_;·repeat' constructor)
    apply qst;exact rfl;exact rfl;exact q_idxm rfl rfl rfl rfl rfl (by omega) hxk rfl
    cases f with
    | o =>
      have hsk : setP fs l ⟨op, d, [], [], [], [], 0, 0, 0⟩ (k + 1) = some (Fd.o.put q x 0) := hsk
      repeat (refine stp rfl ?_ ?_;·repeat' constructor)
      apply qst;exact rfl;exact rfl;exact q_idxA rfl rfl rfl rfl rfl rfl rfl (by omega) (by omega)
      repeat (refine stp rfl ?_ ?_;·repeat' constructor)
      apply qst;exact rfl;exact rfl;exact q_ldp rfl rfl rfl grow rfl
      repeat (refine stp rfl ?_ ?_;·repeat' constructor)
      apply qst;exact rfl;exact rfl;exact q_idxA rfl rfl rfl rfl rfl rfl rfl (by omega) (by omega)
      repeat (refine stp rfl ?_ ?_;·repeat' constructor)
      apply qst;exact rfl;exact rfl;exact q_ldp rfl rfl rfl grow rfl
      repeat (refine stp rfl ?_ ?_;·repeat' constructor)
      exact ⟨(k + 1, _), ⟨hlt, hsk⟩, by show fs.length - (k + 1) < fs.length - k; omega, rfl, rfl, rfl, rfl, rfl, rfl, i64_next (by omega) (by omega), rfl, rfl, rfl, trivial⟩
    | i =>
      have hsk : setP fs l ⟨op, d, [], [], [], [], 0, 0, 0⟩ (k + 1) = some (Fd.i.put q x 0) := hsk
      repeat (refine stp rfl ?_ ?_;·repeat' constructor)
      apply qst;exact rfl;exact rfl;exact q_idxA rfl rfl rfl rfl rfl rfl rfl (by omega) (by omega)
      repeat (refine stp rfl ?_ ?_;·repeat' constructor)
      apply qst;exact rfl;exact rfl;exact q_ldp rfl rfl rfl grow rfl
      repeat (refine stp rfl ?_ ?_;·repeat' constructor)
      apply qst;exact rfl;exact rfl;exact q_idxA rfl rfl rfl rfl rfl rfl rfl (by omega) (by omega)
      repeat (refine stp rfl ?_ ?_;·repeat' constructor)
      apply qst;exact rfl;exact rfl;exact q_ldp rfl rfl rfl grow rfl
      repeat (refine stp rfl ?_ ?_;·repeat' constructor)
      exact ⟨(k + 1, _), ⟨hlt, hsk⟩, by show fs.length - (k + 1) < fs.length - k; omega, rfl, rfl, rfl, rfl, rfl, rfl, i64_next (by omega) (by omega), rfl, rfl, rfl, trivial⟩
    | s =>
      have hsk : setP fs l ⟨op, d, [], [], [], [], 0, 0, 0⟩ (k + 1) = some (Fd.s.put q x 0) := hsk
      repeat (refine stp rfl ?_ ?_;·repeat' constructor)
      apply qst;exact rfl;exact rfl;exact q_idxA rfl rfl rfl rfl rfl rfl rfl (by omega) (by omega)
      repeat (refine stp rfl ?_ ?_;·repeat' constructor)
      apply qst;exact rfl;exact rfl;exact q_ldp rfl rfl rfl grow rfl
      repeat (refine stp rfl ?_ ?_;·repeat' constructor)
      apply qst;exact rfl;exact rfl;exact q_idxA rfl rfl rfl rfl rfl rfl rfl (by omega) (by omega)
      repeat (refine stp rfl ?_ ?_;·repeat' constructor)
      apply qst;exact rfl;exact rfl;exact q_ldp rfl rfl rfl grow rfl
      repeat (refine stp rfl ?_ ?_;·repeat' constructor)
      exact ⟨(k + 1, _), ⟨hlt, hsk⟩, by show fs.length - (k + 1) < fs.length - k; omega, rfl, rfl, rfl, rfl, rfl, rfl, i64_next (by omega) (by omega), rfl, rfl, rfl, trivial⟩
    | w =>
      have hsk : setP fs l ⟨op, d, [], [], [], [], 0, 0, 0⟩ (k + 1) = some (Fd.w.put q x 0) := hsk
      repeat (refine stp rfl ?_ ?_;·repeat' constructor)
      apply qst;exact rfl;exact rfl;exact q_idxA rfl rfl rfl rfl rfl rfl rfl (by omega) (by omega)
      repeat (refine stp rfl ?_ ?_;·repeat' constructor)
      apply qst;exact rfl;exact rfl;exact q_ldp rfl rfl rfl grow rfl
      repeat (refine stp rfl ?_ ?_;·repeat' constructor)
      apply qst;exact rfl;exact rfl;exact q_idxA rfl rfl rfl rfl rfl rfl rfl (by omega) (by omega)
      repeat (refine stp rfl ?_ ?_;·repeat' constructor)
      apply qst;exact rfl;exact rfl;exact q_ldp rfl rfl rfl grow rfl
      repeat (refine stp rfl ?_ ?_;·repeat' constructor)
      exact ⟨(k + 1, _), ⟨hlt, hsk⟩, by show fs.length - (k + 1) < fs.length - k; omega, rfl, rfl, rfl, rfl, rfl, rfl, i64_next (by omega) (by omega), rfl, rfl, rfl, trivial⟩
    | a lo hi =>
      have hsk : setP fs l ⟨op, d, [], [], [], [], 0, 0, 0⟩ (k + 1) = (match Lib.atoiAll x with | .ok n => some ((Fd.a lo hi).put q x n) | _ => none) := hsk
      repeat (refine stp rfl ?_ ?_;·repeat' constructor)
      apply qst;exact rfl;exact rfl;exact q_idxA rfl rfl rfl rfl rfl rfl rfl (by omega) (by omega)
      iterate 1 (refine stp rfl ?_ ?_;·repeat' constructor)
      apply qst;exact rfl;exact rfl;exact q_ldp rfl rfl rfl grow rfl
      iterate 1 (refine stp rfl ?_ ?_;·repeat' constructor)
      refine ps_nil ?_
      refine x_norm ?_
      refine pw_cond rfl (fun h => absurd h (by simp)) (fun _ => ?_)
      refine pw_skip ?_
      ((repeat (first | refine x_norm ?_ | refine pw_seq ?_)); refine pw_regionS 1 ?_)
      refine ps_v rfl trivial ?_
      refine ps_nil ?_
      refine psem_sm rfl (sm_calls (vals := [.string ⟨x.toArray⟩]) (Φ := AtoiP x) rfl hcal rfl (atoi_calls x hxl) (fun pv hφ => ?_))
      refine psem_ops ?_
      rcases hφ with ⟨n, hn, rfl⟩ | ⟨hn, n, t, u, rfl⟩
      · rw [hn] at hsk
        repeat (refine stp rfl ?_ ?_;·repeat' constructor)
        apply qst;exact rfl;exact rfl;exact q_ifN0 Tryz.underlying115 rfl
        repeat (refine stp rfl ?_ ?_;·repeat' constructor)
        apply qst;exact rfl;exact rfl;exact q_idxA rfl rfl rfl rfl rfl rfl rfl (by omega) (by omega)
        repeat (refine stp rfl ?_ ?_;·repeat' constructor)
        apply qst;exact rfl;exact rfl;exact q_ldp rfl rfl rfl grow rfl
        repeat (refine stp rfl ?_ ?_;·repeat' constructor)
        exact ⟨(k + 1, _), ⟨hlt, hsk⟩, by show fs.length - (k + 1) < fs.length - k; omega, rfl, rfl, rfl, rfl, rfl, rfl, i64_next (by omega) (by omega), rfl, rfl, rfl, trivial⟩
      · have hend : progC s = none := by
          rw [hend0]
          have hb : setP fs l ⟨op, d, [], [], [], [], 0, 0, 0⟩ (k + 1) = none := by
            rw [hsk]
            rcases numEnd3 (Lib.atoiAll x) with ⟨m, ha⟩ | ha | ha
            · exact absurd ha (hn m)
            · rw [ha] <;> rfl
            · rw [ha] <;> rfl
          rw [setP_none hlt hb]; rfl
        repeat (refine stp rfl ?_ ?_;·repeat' constructor)
        apply qst;exact rfl;exact rfl;exact q_ifN1 Tryz.underlying115 rfl
        repeat (refine stp rfl ?_ ?_;·repeat' constructor)
        exact endc2f rfl rfl rfl rfl rfl (by repeat' constructor) (by rw [hend]; rfl)
    | r lo hi =>
      have hsk : setP fs l ⟨op, d, [], [], [], [], 0, 0, 0⟩ (k + 1) = (match Lib.atoiAll x with | .ok n => some ((Fd.r lo hi).put q x n) | _ => none) := hsk
      repeat (refine stp rfl ?_ ?_;·repeat' constructor)
      apply qst;exact rfl;exact rfl;exact q_idxA rfl rfl rfl rfl rfl rfl rfl (by omega) (by omega)
      iterate 1 (refine stp rfl ?_ ?_;·repeat' constructor)
      apply qst;exact rfl;exact rfl;exact q_ldp rfl rfl rfl grow rfl
      iterate 1 (refine stp rfl ?_ ?_;·repeat' constructor)
      refine ps_nil ?_
      refine x_norm ?_
      refine pw_cond rfl (fun h => absurd h (by simp)) (fun _ => ?_)
      refine pw_skip ?_
      ((repeat (first | refine x_norm ?_ | refine pw_seq ?_)); refine pw_regionS 1 ?_)
      refine ps_v rfl trivial ?_
      refine ps_nil ?_
      refine psem_sm rfl (sm_calls (vals := [.string ⟨x.toArray⟩]) (Φ := AtoiP x) rfl hcal rfl (atoi_calls x hxl) (fun pv hφ => ?_))
      refine psem_ops ?_
      rcases hφ with ⟨n, hn, rfl⟩ | ⟨hn, n, t, u, rfl⟩
      · rw [hn] at hsk
        repeat (refine stp rfl ?_ ?_;·repeat' constructor)
        apply qst;exact rfl;exact rfl;exact q_ifN0 Tryz.underlying115 rfl
        repeat (refine stp rfl ?_ ?_;·repeat' constructor)
        apply qst;exact rfl;exact rfl;exact q_idxA rfl rfl rfl rfl rfl rfl rfl (by omega) (by omega)
        repeat (refine stp rfl ?_ ?_;·repeat' constructor)
        apply qst;exact rfl;exact rfl;exact q_ldp rfl rfl rfl grow rfl
        repeat (refine stp rfl ?_ ?_;·repeat' constructor)
        exact ⟨(k + 1, _), ⟨hlt, hsk⟩, by show fs.length - (k + 1) < fs.length - k; omega, rfl, rfl, rfl, rfl, rfl, rfl, i64_next (by omega) (by omega), rfl, rfl, rfl, trivial⟩
      · have hend : progC s = none := by
          rw [hend0]
          have hb : setP fs l ⟨op, d, [], [], [], [], 0, 0, 0⟩ (k + 1) = none := by
            rw [hsk]
            rcases numEnd3 (Lib.atoiAll x) with ⟨m, ha⟩ | ha | ha
            · exact absurd ha (hn m)
            · rw [ha] <;> rfl
            · rw [ha] <;> rfl
          rw [setP_none hlt hb]; rfl
        repeat (refine stp rfl ?_ ?_;·repeat' constructor)
        apply qst;exact rfl;exact rfl;exact q_ifN1 Tryz.underlying115 rfl
        repeat (refine stp rfl ?_ ?_;·repeat' constructor)
        exact endc2f rfl rfl rfl rfl rfl (by repeat' constructor) (by rw [hend]; rfl)
    | l lo hi =>
      have hsk : setP fs l ⟨op, d, [], [], [], [], 0, 0, 0⟩ (k + 1) = (match Lib.atoiAll x with | .ok n => some ((Fd.l lo hi).put q x n) | _ => none) := hsk
      repeat (refine stp rfl ?_ ?_;·repeat' constructor)
      apply qst;exact rfl;exact rfl;exact q_idxA rfl rfl rfl rfl rfl rfl rfl (by omega) (by omega)
      iterate 1 (refine stp rfl ?_ ?_;·repeat' constructor)
      apply qst;exact rfl;exact rfl;exact q_ldp rfl rfl rfl grow rfl
      iterate 1 (refine stp rfl ?_ ?_;·repeat' constructor)
      refine ps_nil ?_
      refine x_norm ?_
      refine pw_cond rfl (fun h => absurd h (by simp)) (fun _ => ?_)
      refine pw_skip ?_
      ((repeat (first | refine x_norm ?_ | refine pw_seq ?_)); refine pw_regionS 1 ?_)
      refine ps_v rfl trivial ?_
      refine ps_nil ?_
      refine psem_sm rfl (sm_calls (vals := [.string ⟨x.toArray⟩]) (Φ := AtoiP x) rfl hcal rfl (atoi_calls x hxl) (fun pv hφ => ?_))
      refine psem_ops ?_
      rcases hφ with ⟨n, hn, rfl⟩ | ⟨hn, n, t, u, rfl⟩
      · rw [hn] at hsk
        repeat (refine stp rfl ?_ ?_;·repeat' constructor)
        apply qst;exact rfl;exact rfl;exact q_ifN0 Tryz.underlying115 rfl
        repeat (refine stp rfl ?_ ?_;·repeat' constructor)
        apply qst;exact rfl;exact rfl;exact q_idxA rfl rfl rfl rfl rfl rfl rfl (by omega) (by omega)
        repeat (refine stp rfl ?_ ?_;·repeat' constructor)
        apply qst;exact rfl;exact rfl;exact q_ldp rfl rfl rfl grow rfl
        repeat (refine stp rfl ?_ ?_;·repeat' constructor)
        exact ⟨(k + 1, _), ⟨hlt, hsk⟩, by show fs.length - (k + 1) < fs.length - k; omega, rfl, rfl, rfl, rfl, rfl, rfl, i64_next (by omega) (by omega), rfl, rfl, rfl, trivial⟩
      · have hend : progC s = none := by
          rw [hend0]
          have hb : setP fs l ⟨op, d, [], [], [], [], 0, 0, 0⟩ (k + 1) = none := by
            rw [hsk]
            rcases numEnd3 (Lib.atoiAll x) with ⟨m, ha⟩ | ha | ha
            · exact absurd ha (hn m)
            · rw [ha] <;> rfl
            · rw [ha] <;> rfl
          rw [setP_none hlt hb]; rfl
        repeat (refine stp rfl ?_ ?_;·repeat' constructor)
        apply qst;exact rfl;exact rfl;exact q_ifN1 Tryz.underlying115 rfl
        repeat (refine stp rfl ?_ ?_;·repeat' constructor)
        exact endc2f rfl rfl rfl rfl rfl (by repeat' constructor) (by rw [hend]; rfl)
  · have hz : k = fs.length := by have := of_decide_eq_false h; omega
    subst hz
    clear h
    rw [hinv] at hend0
    rw [progF] at hend0
    by_cases hc : checkE q = 0
    · have hf := format_ret q hc
      repeat (refine stp rfl ?_ ?_;·repeat' constructor)
      apply qst;exact rfl;exact rfl;exact q_call rfl (hf) rfl (by repeat' constructor) rfl
      repeat (refine stp rfl ?_ ?_;·repeat' constructor)
      refine pw_cond rfl (fun h => ?_) (fun h => ?_)
      · have hne : ¬ textP q = s := by simpa using h
        have hend : progC s = none := by rw [hend0, if_neg (fun e => hne e.2)]
        clear h
        repeat (refine stp rfl ?_ ?_;·repeat' constructor)
        exact endc2f rfl rfl rfl rfl rfl (by repeat' constructor) (by rw [hend]; rfl)
      · have he : textP q = s := by simpa using h
        have hend : progC s = some q := by rw [hend0, if_pos ⟨hc, he⟩]
        clear h
        repeat (refine stp rfl ?_ ?_;·repeat' constructor)
        exact endc2f rfl rfl rfl rfl rfl (by repeat' constructor) (by rw [hend]; rfl)
    · have hf := format_fail q hc
      have hend : progC s = none := by rw [hend0, if_neg (fun e => hc e.1)]
      generalize checkE q = e at *
      repeat (refine stp rfl ?_ ?_;·repeat' constructor)
      apply qst;exact rfl;exact rfl;exact q_call rfl (hf) rfl (by repeat' constructor) rfl
      repeat (refine stp rfl ?_ ?_;·repeat' constructor)
      (first | refine ps_split rfl rfl (fun h => ?_) (fun h => ?_) | refine pq_split rfl rfl (fun h => ?_) (fun h => ?_) | refine p3_split rfl rfl (fun h => ?_) (fun h => ?_))
      · repeat (refine stp rfl ?_ ?_;·repeat' constructor)
        exact endc2f rfl rfl rfl rfl rfl (by repeat' constructor) (by rw [hend]; rfl)
      · exact absurd (by simpa using h) hc
end Go.Pv


set_option maxHeartbeats 2000000
namespace Go.Pv
attribute [local irreducible] PWP POps PQuiet PSem XThen XBlock RetPost InlPost
open Go.Proofs
theorem dig_nat {d : Nat} (h : d < 10) : (UInt8.ofNat (48 + d)).toNat = 48 + d := by
  rw [UInt8.toNat_ofNat']; omega
theorem parse_app : ∀ (xs ys : List UInt8) (acc : Nat), Lib.parseUint10 acc (xs ++ ys) = match Lib.parseUint10 acc xs with | .ok a => Lib.parseUint10 a ys | e => e
  | [], ys, acc => by simp [Lib.parseUint10]
  | c :: xs, ys, acc => by
    rw [List.cons_append, Lib.parseUint10, Lib.parseUint10]
    split
    · split
      · rfl
      · split
        · rfl
        · exact parse_app xs ys _
    · rfl
theorem parse_dec : ∀ (n u : Nat), u ≤ n → u ≤ 100000000000 → Lib.parseUint10 0 (Lib.decDigits u) = .ok u
  | 0, u, h, _ => by
    have : u = 0 := by omega
    subst this
    rw [decD_small (by omega), Lib.parseUint10, dig_nat (by omega)]
    simp [Lib.parseUint10]
  | n + 1, u, h, hu => by
    by_cases hs : u < 10
    · rw [decD_small hs, Lib.parseUint10, dig_nat hs, if_pos (by omega), if_neg (by omega), if_neg (by omega), Lib.parseUint10]
      congr 1; omega
    · rw [decD_big hs, parse_app, parse_dec n (u / 10) (by omega) (by omega)]
      show Lib.parseUint10 (u / 10) [UInt8.ofNat (48 + u % 10)] = _
      rw [Lib.parseUint10, dig_nat (by omega), if_pos (by omega), if_neg (by omega), if_neg (by omega), Lib.parseUint10]
      congr 1; omega
theorem dec_digits : ∀ (n u : Nat), u ≤ n → ∀ c, c ∈ Lib.decDigits u → 48 ≤ c.toNat ∧ c.toNat ≤ 57
  | 0, u, h, c, hc => by
    rw [decD_small (by omega)] at hc
    simp only [List.mem_cons, List.not_mem_nil, or_false] at hc
    subst hc
    rw [dig_nat (by omega)]; omega
  | n + 1, u, h, c, hc => by
    by_cases hs : u < 10
    · rw [decD_small hs] at hc
      simp only [List.mem_cons, List.not_mem_nil, or_false] at hc
      subst hc
      rw [dig_nat hs]; omega
    · rw [decD_big hs] at hc
      rcases List.mem_append.1 hc with hc | hc
      · exact dec_digits n (u / 10) (by omega) c hc
      · simp only [List.mem_cons, List.not_mem_nil, or_false] at hc
        subst hc
        rw [dig_nat (by omega)]; omega
theorem dec_ne (u : Nat) : Lib.decDigits u ≠ [] := by
  by_cases hs : u < 10
  · rw [decD_small hs]; simp
  · rw [decD_big hs]; simp
theorem atoi_itoa {v : Int} (h0 : -100000000000 ≤ v) (h1 : v ≤ 100000000000) : Lib.atoiAll (Lib.itoa v) = .ok v := by
  rw [Lib.itoa]
  split
  · rename_i hn
    rw [Lib.atoiAll_minus, Lib.parseMag, if_neg (dec_ne _), parse_dec _ v.natAbs (Nat.le_refl _) (by omega)]
    show (if 9223372036854775808 < v.natAbs then _ else _) = _
    rw [if_neg (by omega)]
    congr 1; omega
  · rename_i hn
    have hne := dec_ne v.toNat
    have hd := dec_digits _ v.toNat (Nat.le_refl _)
    have hp := parse_dec _ v.toNat (Nat.le_refl _) (by omega)
    generalize Lib.decDigits v.toNat = L at *
    cases L with
    | nil => exact absurd rfl hne
    | cons c r =>
      have := hd c (by simp)
      rw [Lib.atoiAll_plain c r (by omega) (by omega), Lib.parseMag, if_neg (by simp), hp]
      show (if 9223372036854775808 ≤ v.toNat then _ else _) = _
      rw [if_neg (by omega)]
      congr 1; omega
theorem itoa_noB (v : Int) : noB 32 (Lib.itoa v) := by
  intro c hc
  rw [Lib.itoa] at hc
  have h32 : (32 : UInt8).toNat = 32 := rfl
  split at hc
  · rcases List.mem_cons.1 hc with rfl | hc
    · decide
    · have := dec_digits _ _ (Nat.le_refl _) c hc; omega
  · have := dec_digits _ _ (Nat.le_refl _) c hc; omega
theorem name_noB {s : Str} (h : isName s = true) : noB 32 s := by
  intro c hc
  simp only [isName, Bool.and_eq_true, decide_eq_true_eq] at h
  obtain ⟨j, hj, rfl⟩ := List.getElem_of_mem hc
  have := fstE_zero h.2 j s[j] (List.getElem?_eq_getElem hj)
  intro he
  have h32 : (32 : UInt8).toNat = 32 := rfl
  rw [h32] at he
  have hb : badc j s[j] = true := by
    simp only [badc, letter, he]
    simp
  rw [badE, if_pos hb] at this
  exact absurd this (by decide)
theorem dec_short : ∀ (k u : Nat), u < 10 ^ (k + 1) → (Lib.decDigits u).length ≤ k + 1
  | 0, u, h => by rw [decD_small (by simpa using h)]; simp
  | k + 1, u, h => by
    by_cases hs : u < 10
    · rw [decD_small hs]; simp
    · rw [decD_big hs]
      have := dec_short k (u / 10) (by rw [Nat.pow_succ] at h; omega)
      simp; omega
theorem itoa_short {v : Int} (h0 : -1000000000 ≤ v) (h1 : v ≤ 1000000000) : (Lib.itoa v).length ≤ 11 := by
  rw [Lib.itoa]
  split
  · have := dec_short 9 v.natAbs (by omega); simp; omega
  · have := dec_short 9 v.toNat (by omega); omega
end Go.Pv


set_option maxHeartbeats 2000000
namespace Go.Pv
attribute [local irreducible] PWP POps PQuiet PSem XThen XBlock RetPost InlPost
open Go.Proofs
structure GoodP (c : SPost) : Prop where
  chk : checkE c = 0
  cln : cleanP c = c
theorem txt_name {c : SPost} (hc : checkE c = 0) {k : Nat} {f : Fd} (hf : (fdsOf c.op)[k]? = some f) (ht : f.isT = true) : isName (f.txt c) = true := by
  have he := fstE_zero (checkE_op hc).2.2 k f hf
  have key : ∀ s : Str, (if isName s = true then (0 : Int) else 4) = 0 → isName s = true := fun s h => by
    by_cases hn : isName s = true
    · exact hn
    · rw [if_neg hn] at h; omega
  cases f with
  | o => exact key _ he
  | i => exact key _ he
  | s => exact key _ he
  | w => exact key _ he
  | a lo hi => cases ht
  | r lo hi => cases ht
  | l lo hi => cases ht
theorem out_fine {c : SPost} (hc : checkE c = 0) {k : Nat} {f : Fd} (hf : (fdsOf c.op)[k]? = some f) : noB 32 (f.out c) ∧ (f.out c).length ≤ 12 := by
  have hl := num_lim hc hf
  cases f with
  | o => exact ⟨name_noB (txt_name hc hf rfl), hl⟩
  | i => exact ⟨name_noB (txt_name hc hf rfl), hl⟩
  | s => exact ⟨name_noB (txt_name hc hf rfl), hl⟩
  | w => exact ⟨name_noB (txt_name hc hf rfl), hl⟩
  | a lo hi => exact ⟨itoa_noB _, by have := itoa_short hl.1 hl.2; show (Lib.itoa _).length ≤ 12; omega⟩
  | r lo hi => exact ⟨itoa_noB _, by have := itoa_short hl.1 hl.2; show (Lib.itoa _).length ≤ 12; omega⟩
  | l lo hi => exact ⟨itoa_noB _, by have := itoa_short hl.1 hl.2; show (Lib.itoa _).length ≤ 12; omega⟩
theorem word_fine {op : Int} (h : inside op 0 8 = true) : noB 32 (wordOf op) ∧ (wordOf op).length ≤ 12 ∧ (idx wordL fun x => decide (wordOf op = x)) = op ∧ wrdK (wordOf op) 9 = op := by
  rcases op_cases h with rfl | rfl | rfl | rfl | rfl | rfl | rfl | rfl | rfl <;> exact ⟨by unfold noB; decide, by decide, by decide, by decide⟩
def pcs (c : SPost) : List Str := Lib.itoa c.day :: wordOf c.op :: (fdsOf c.op).map (Fd.out c)
theorem text_pcs (c : SPost) : textP c = Lib.join (pcs c) [32] := by rw [textP, outL, List.take_length]; rfl
theorem day_lim {c : SPost} (hc : checkE c = 0) : 0 ≤ c.day ∧ c.day ≤ 10000 := by simpa [inside] using (checkE_op hc).2.1
theorem cut_text {c : SPost} (hc : checkE c = 0) : cutL 32 (textP c) = pcs c := by
  rw [text_pcs, pcs, Lib.join_cons]
  refine cut_join _ _ (itoa_noB _) fun y hy => ?_
  rcases List.mem_cons.1 hy with rfl | hy
  · exact (word_fine (checkE_op hc).1).1
  · obtain ⟨f, hf, rfl⟩ := List.mem_map.1 hy
    obtain ⟨k, hk, rfl⟩ := List.getElem_of_mem hf
    exact (out_fine hc (List.getElem?_eq_getElem hk)).1
theorem pcs_at {c : SPost} {k : Nat} {f : Fd} (hf : (fdsOf c.op)[k]? = some f) : (pcs c).getD (2 + k) [] = f.out c := by
  rw [pcs, List.getD_eq_getElem?_getD, show 2 + k = k + 1 + 1 by omega, List.getElem?_cons_succ, List.getElem?_cons_succ, List.getElem?_map, hf]; rfl
theorem pcs_len (c : SPost) : (pcs c).length = (fdsOf c.op).length + 2 := by simp [pcs]
theorem text_short {c : SPost} (hc : checkE c = 0) : (textP c).length ≤ 200 := by
  have hall : ∀ x, x ∈ pcs c → x.length ≤ 12 := by
    intro x hx
    rcases List.mem_cons.1 hx with rfl | hx
    · have := day_lim hc
      have := itoa_short (v := c.day) (by omega) (by omega); omega
    rcases List.mem_cons.1 hx with rfl | hx
    · exact (word_fine (checkE_op hc).1).2.1
    · obtain ⟨f, hf, rfl⟩ := List.mem_map.1 hx
      obtain ⟨k, hk, rfl⟩ := List.getElem_of_mem hf
      exact (out_fine hc (List.getElem?_eq_getElem hk)).2
  have hs := lens_le hall
  have hl := pcs_len c
  have hfl := fdsOf_len c.op
  rw [text_pcs]
  generalize pcs c = L at *
  cases L with
  | nil => simp [Lib.join_nil]
  | cons x r =>
    rw [Lib.join_length]
    simp only [List.length_cons, List.length_nil] at *
    omega
theorem get_fd {fs : List Fd} {k : Nat} {f : Fd} (h : fs[k]? = some f) : fs.getD k .o = f := by rw [List.getD_eq_getElem?_getD, h]; rfl
theorem setP_good {c : SPost} (hc : checkE c = 0) : ∀ k, k ≤ (fdsOf c.op).length → setP (fdsOf c.op) (pcs c) ⟨c.op, c.day, [], [], [], [], 0, 0, 0⟩ k = some (cpyK c ((fdsOf c.op).take k))
  | 0, _ => rfl
  | k + 1, hk => by
    obtain ⟨f, hf⟩ := get_lt (show k < (fdsOf c.op).length by omega)
    have hl := num_lim hc hf
    rw [setP, setP_good hc k (by omega), cpyK_snoc c hf, get_fd hf, pcs_at hf]
    show setP1 f (f.out c) _ = _
    generalize cpyK c ((fdsOf c.op).take k) = q
    cases f with
    | o => rfl
    | i => rfl
    | s => rfl
    | w => rfl
    | a lo hi =>
      have hl : -1000000000 ≤ c.amount ∧ c.amount ≤ 1000000000 := hl
      show (match Lib.atoiAll (Lib.itoa c.amount) with | .ok n => some ((Fd.a lo hi).put q _ n) | _ => none) = _
      rw [atoi_itoa (by omega) (by omega)]; rfl
    | r lo hi =>
      have hl : -1000000000 ≤ c.ref ∧ c.ref ≤ 1000000000 := hl
      show (match Lib.atoiAll (Lib.itoa c.ref) with | .ok n => some ((Fd.r lo hi).put q _ n) | _ => none) = _
      rw [atoi_itoa (by omega) (by omega)]; rfl
    | l lo hi =>
      have hl : -1000000000 ≤ c.role ∧ c.role ≤ 1000000000 := hl
      show (match Lib.atoiAll (Lib.itoa c.role) with | .ok n => some ((Fd.l lo hi).put q _ n) | _ => none) = _
      rw [atoi_itoa (by omega) (by omega)]; rfl
theorem cln_all {c : SPost} (h : cleanP c = c) : cpyK c ((fdsOf c.op).take (fdsOf c.op).length) = c := by rw [List.take_length]; exact h
theorem prog_good {c : SPost} (h : GoodP c) : progC (textP c) = some c := by
  have hc := h.chk
  have hd := day_lim hc
  have hop : 0 ≤ c.op ∧ c.op ≤ 8 := by simpa [inside] using (checkE_op hc).1
  obtain ⟨_, _, w3, _⟩ := word_fine (checkE_op hc).1
  have hset := setP_good hc _ (Nat.le_refl _)
  rw [cln_all h.cln] at hset
  have hl := pcs_len c
  rw [progC, cut_text hc, progC1, if_neg (by omega)]
  have e0 : (pcs c).getD 0 [] = Lib.itoa c.day := rfl
  have e1 : (pcs c).getD 1 [] = wordOf c.op := rfl
  rw [e0, e1, atoi_itoa (by omega) (by omega), w3]
  show progC2 _ _ c.day c.op = _
  rw [progC2, if_neg (by omega), if_neg (by omega), hset, progF, if_pos ⟨hc, rfl⟩]
theorem text_clean {p : SPost} (h : checkE p = 0) : textP (cleanP p) = textP p := by
  have hi := (checkE_op h).1
  obtain ⟨op, day, o, i, s, w, a, r, ro⟩ := p
  simp only at hi
  rcases op_cases hi with rfl | rfl | rfl | rfl | rfl | rfl | rfl | rfl | rfl <;> rfl
theorem clean_good {p : SPost} (h : checkE p = 0) : GoodP (cleanP p) := by
  obtain ⟨e1, e2, _⟩ := clean_again (checkE_op h).1
  exact ⟨by rw [e2]; exact h, e1⟩
theorem prog_back {p : SPost} (h : checkE p = 0) : progC (textP p) = some (cleanP p) := by
  rw [← text_clean h]; exact prog_good (clean_good h)
end Go.Pv


set_option maxHeartbeats 2000000
namespace Go.Pv
attribute [local irreducible] PWP POps PQuiet PSem XThen XBlock RetPost InlPost
open Go.Proofs
def stepC (a : Int) (c : UInt8) : Int := (31 * a + (c.toNat : Int) + 1) % 65521
def sumF (n : Int) (s : Str) : Int := s.foldl stepC n
theorem sumF_app (n : Int) (s t : Str) : sumF n (s ++ t) = sumF (sumF n s) t := List.foldl_append
theorem stepC_range (a : Int) (c : UInt8) : 0 ≤ stepC a c ∧ stepC a c < 65521 := by
  unfold stepC
  omega
theorem sumF_range : ∀ (s : Str) {n : Int}, 0 ≤ n → n < 65521 → 0 ≤ sumF n s ∧ sumF n s < 65521
  | [], _, h0, h1 => ⟨h0, h1⟩
  | c :: s, n, _, _ => sumF_range s (stepC_range n c).1 (stepC_range n c).2
theorem sumF_next {s : Str} {k : Nat} {c : UInt8} (h : s[k]? = some c) (n : Int) : sumF n (s.take (k + 1)) = stepC (sumF n (s.take k)) c := by
  rw [take_snoc h, sumF_app]; rfl
theorem stepC_wrap {a : Int} (h0 : 0 ≤ a) (h1 : a < 65521) (c : UInt8) : (IntKind.wrap .i64 (IntKind.wrap .i64 (IntKind.wrap .i64 (31 * a) + IntKind.wrap .i64 (c.toNat : Int)) + 1)).tmod 65521 = stepC a c := by
  have hc : c.toNat < 256 := c.toNat_lt
  rw [wrap_i64 (n := (c.toNat : Int)) (by omega) (by omega), wrap_i64 (n := 31 * a) (by omega) (by omega), wrap_i64 (n := 31 * a + c.toNat) (by omega) (by omega), wrap_i64 (by omega) (by omega), Int.tmod_eq_emod_of_nonneg (by omega)]
  rfl
theorem checksum_ret (n : Int) (s : Str) (h0 : 0 ≤ n) (h1 : n < 65521) (hs : s.length ≤ 1000000) : Ret Tryz.prog .shared 127 [I n, .str s] (I (sumF n s)) := by
  have hll : ((s.map eC).length : Int) = s.length := by simp
  refine Ret.of_pwp layOk mixed Go.Proofs.Tryz.func127 rfl (by decide) rfl rfl ?_
  repeat (refine stp rfl ?_ ?_;·repeat' constructor)
  apply qst;exact rfl;exact rfl;exact q_s2b rfl rfl rfl rfl rfl rfl
  repeat (refine stp rfl ?_ ?_;·repeat' constructor)
  refine pw_loop (fun k => k ≤ s.length) (fun k => [(0, I (sumF n (s.take k))), (8, .fsl (s.map eC)), (9, I (s.map eC).length), (10, I k)]) (fun _ => []) (fun k => s.length - k) 0 (Nat.zero_le _) ⟨rfl, rfl, rfl, rfl, trivial⟩ ?_
  intro k st hk
  have hr := sumF_range (s.take k) h0 h1
  repeat (refine stp rfl ?_ ?_;·repeat' constructor)
  refine pw_cond rfl (fun h => ?_) (fun h => ?_)
  · have hlt : k < s.length := by have := of_decide_eq_true h; omega
    clear h
    obtain ⟨c, hx⟩ := get_lt hlt
    repeat (refine stp rfl ?_ ?_;·repeat' constructor)
    apply qst;exact rfl;exact rfl;exact q_idxmF rfl rfl rfl rfl rfl (by omega) hx rfl
    repeat (refine stp rfl ?_ ?_;·repeat' constructor)
    refine ps_v rfl (show ¬ (65521 : Int) = 0 by decide) ?_
    rw [stepC_wrap hr.1 hr.2 c, ← sumF_next hx]
    repeat (refine stp rfl ?_ ?_;·repeat' constructor)
    exact ⟨k + 1, by omega, by omega, rfl, rfl, rfl, i64_next (by omega) (by omega), trivial⟩
  · have hz : k = s.length := by have := of_decide_eq_false h; omega
    subst hz
    repeat (refine stp rfl ?_ ?_;·repeat' constructor)
    exact end1i rfl rfl (by rw [List.take_length])
def lineT (n : Int) (t : Str) : Str := t ++ [32, 35] ++ Lib.itoa (sumF n t) ++ [10]
set_option maxRecDepth 20000 in
theorem line_ret (p : SPost) (n : Int) (hc : checkE p = 0) (h0 : 0 ≤ n) (h1 : n < 65521) : Ret Tryz.prog .shared 76 [.agg (ePost p), I n] (.tup [.str (lineT n (textP p)), I (sumF n (textP p))]) := by
  have hw := written_ret p hc
  have hl := text_short hc
  have hs := checksum_ret n (textP p) h0 h1 (by omega)
  have hr := sumF_range (textP p) h0 h1
  have hi := itoa_ret (sumF n (textP p)) (by omega) (by omega)
  have hi2 : (Lib.itoa (sumF n (textP p))).length ≤ 20 := by have := itoa_short (v := sumF n (textP p)) (by omega) (by omega); omega
  rw [lineT]
  generalize textP p = t at *
  generalize sumF n t = m at *
  generalize Lib.itoa m = q at *
  refine Ret.of_pwp layOk mixed Go.Proofs.Tryz.func76 rfl (by decide) rfl rfl ?_
  repeat (refine stp rfl ?_ ?_;·repeat' constructor)
  apply qst;exact rfl;exact rfl;exact q_callP rfl (hw) rfl (by repeat' constructor) rfl rfl
  repeat (refine stp rfl ?_ ?_;·repeat' constructor)
  apply qst;exact rfl;exact rfl;exact q_callP rfl (hs) rfl (by repeat' constructor) rfl rfl
  repeat (refine stp rfl ?_ ?_;·repeat' (first|exact True.intro|exact rfl|refine And.intro ?_ ?_))
  refine ps_v rfl ?_ ?_
  · simp only [List.length_append, List.length_cons, List.length_nil]; omega
  repeat (refine stp rfl ?_ ?_;·repeat' (first|exact True.intro|exact rfl|refine And.intro ?_ ?_))
  apply qst;exact rfl;exact rfl;exact q_callP rfl (hi) rfl (by repeat' constructor) rfl rfl
  repeat (refine stp rfl ?_ ?_;·repeat' (first|exact True.intro|exact rfl|refine And.intro ?_ ?_))
  refine ps_v rfl ?_ ?_
  · simp only [List.length_append, List.length_cons, List.length_nil]; omega
  repeat (refine stp rfl ?_ ?_;·repeat' (first|exact True.intro|exact rfl|refine And.intro ?_ ?_))
  refine ps_v rfl ?_ ?_
  · simp only [List.length_append, List.length_cons, List.length_nil]; omega
  repeat (refine stp rfl ?_ ?_;·repeat' (first|exact True.intro|exact rfl|refine And.intro ?_ ?_))
  exact end2 rfl rfl rfl rfl rfl trivial trivial rfl
end Go.Pv


namespace Go.Pv
open Go.RowKit
variable [Globs]
def bindP : List (Tmp × PV) → (Nat → PV) → Nat → PV
  | [], f => f
  | (p, v) :: l, f => bindP l fun r => bif Nat.beq r p then v else f r
theorem bind_spec {E : Env} : ∀ (ps : List Tmp) (cs : List PV) (vs : List Value) (f : Nat → PV) (tmps : Array Value), ps.length = cs.length → cs.length = vs.length → (∀ p ∈ ps, p < tmps.size) → (∀ t, Rep E (f t) (tmps.getD t undef)) →
    (∀ (i : Nat) (c : PV) (v : Value), cs[i]? = some c → vs[i]? = some v → Rep E c v) →
    ((ps.zip vs).foldl (fun t q => t.setIfInBounds q.1 q.2) tmps).size = tmps.size ∧ ∀ t, Rep E (bindP (ps.zip cs) f t) (((ps.zip vs).foldl (fun t q => t.setIfInBounds q.1 q.2) tmps).getD t undef)
  | [], [], [], f, tmps, _, _, _, hf, _ => ⟨rfl, hf⟩
  | p :: ps, c :: cs, v :: vs, f, tmps, h1, h2, hp, hf, hd => by
    have hp0 : p < tmps.size := hp p (.head _)
    have ih := bind_spec ps cs vs (fun r => bif Nat.beq r p then c else f r) (tmps.setIfInBounds p v) (by simpa using h1) (by simpa using h2) (fun q hq => by simpa using hp q (.tail _ hq)) (fun t => by
      by_cases ht : t = p
      · subst ht
        have e1 : (tmps.setIfInBounds t v).getD t undef = v := by simp [hp0]
        rw [e1]
        simpa using hd 0 c v rfl rfl
      · have e1 : (tmps.setIfInBounds p v).getD t undef = tmps.getD t undef := by simp [Array.getElem?_setIfInBounds_ne (Ne.symm ht)]
        rw [e1, nbeq_ne ht]
        exact hf t) (fun i c' v' e1 e2 => hd (i + 1) c' v' (by simpa using e1) (by simpa using e2))
    refine ⟨?_, fun t => ?_⟩
    · rw [List.zip_cons_cons, List.foldl_cons, ih.1]; simp
    · rw [List.zip_cons_cons, List.zip_cons_cons, List.foldl_cons]
      exact ih.2 t
  | [], _ :: _, _, _, _, h, _, _, _, _ => by simp at h
  | [], [], _ :: _, _, _, _, h, _, _, _ => by simp at h
  | _ :: _, [], _, _, _, h, _, _, _, _ => by simp at h
  | _ :: _, _ :: _, [], _, _, _, h, _, _, _ => by simp at h
def rndC (ps : Array Tmp) (asg body : Code) (st : LoopState) (pend : Option Code) (regs : Nat → PV) : Cont := ⟨0, 0, [[.lbl ps asg body st pend regs]], 4⟩
def RoundPost (s : St) (kL g : Nat) (ps : Array Tmp) (asg body : Code) (regs : Nat → PV) (d : Nat) (K : St → Prop) : Exit → St → Prop
  | .normal, s' => s'.own kL = (g, some (rndC ps asg body .busy none regs)) ∧ K (({ reg := s.reg, own := (s'.setOwn kL g (some (rndC ps asg body .ready none regs))).own } : St).putR d (.bool true))
  | .exit id, s' => s'.own kL = (g, some (rndC ps asg body .busy none regs)) ∧ K (({ reg := s.reg, own := (s'.setOwn kL g (some (rndC ps asg body .done (some (.exit id)) regs))).own } : St).putR d (.bool false))
  | .ret, s' => s'.own kL = (g, some (rndC ps asg body .busy none regs)) ∧ K (({ reg := s.reg, own := (s'.setOwn kL g (some (rndC ps asg body .done (some .ret) regs))).own } : St).putR d (.bool false))
  | _, _ => False
def RangePost (s : St) (kL g : Nat) (ps : Array Tmp) (asg body : Code) (Q : Exit → St → Prop) : Exit → St → Prop
  | .normal, s' | .ret, s' => (s'.own kL = (g, some (rndC ps asg body .ready none s.reg)) ∧ Q .normal { reg := s.reg, own := (s'.setOwn kL (g + 1) none).own }) ∨
      (∃ id, s'.own kL = (g, some (rndC ps asg body .done (some (.exit id)) s.reg)) ∧ Q (.exit id) { reg := s.reg, own := (s'.setOwn kL (g + 1) none).own }) ∨
      (s'.own kL = (g, some (rndC ps asg body .done (some .ret) s.reg)) ∧ Q .ret { reg := s.reg, own := (s'.setOwn kL (g + 1) none).own })
  | _, _ => False
section
variable {P : Program} {L : Lay} {C : Ctx} {γ : Nat → Option Nat} {s : St} {a : Act} {w : World}
theorem Sim.yl_at (_h : Sim C γ s a w) {k g : Nat} {c : Cont} {v : Value} (hr : Rep (envOf C γ s w) (.yl k g) v) (ho : s.own k = (g, some c)) : ∃ b, γ k = some b ∧ v = .func (.yield b) #[] #[] := by
  cases hr with
  | d h => cases h
  | yl hg hl => exact (hl (by simp [envOf, ho]) ⟨γ k, c.ty, c.sz, c.rows.length⟩ (by simp [envOf, ho])).2
theorem Sim.turnLoop {s' : St} {a' : Act} {w3 : World} {C2 : Ctx} {γ' : Nat → Option Nat} (hs' : Sim C2 γ' s' a' w3) {kL g b : Nat} {ps : Array Tmp} {asg body : Code} {regs : Nat → PV} {st : LoopState} {pend : Option Code} (ho : s'.own kL = (g, some (rndC ps asg body st pend regs))) (hb : γ' kL = some b) :
    ∃ rec : Loop, w3.heap[b]? = some (.loop rec) ∧ rec.state = st ∧ rec.pending = pend ∧ ∀ (st2 : LoopState) (pend2 : Option Code), Sim C2 γ' (s'.setOwn kL g (some (rndC ps asg body st2 pend2 regs))) a' (w3.putObj b (.loop { rec with state := st2, pending := pend2 })) := by
  have hit := (hs'.sites kL _ (by rw [ho])).it b hb rfl (show (3:Nat) ≤ 4 by decide)
  obtain ⟨rec, regs', h1, h2, h3', h3, h4, h5⟩ : LoopAt (envOf C2 γ' s' w3) b (rndC ps asg body st pend regs).rows := hit
  have h1 : w3.heap[b]? = some (.loop rec) := h1
  simp only [rndC, List.cons.injEq, PV.lbl.injEq, and_true] at h2
  obtain ⟨e1, e2, e3, e4, e5, e6⟩ := h2
  subst e6
  refine ⟨rec, h1, e4.symm, e5.symm, fun st2 pend2 => ?_⟩
  obtain ⟨hp, hnew⟩ := put_set (o' := .loop { rec with state := st2, pending := pend2 }) h1
  have hnc : ∀ cur T f, w3.heap[b]? ≠ some (.cells cur T f) := fun cur T f e => by rw [h1] at e; cases e
  have hle := put_le (c' := rndC ps asg body st2 pend2 regs) hs' ho hb hnc hp rfl rfl (Nat.le_refl _)
  refine put_sim hs' ho hb hnc hp rfl rfl (Nat.le_refl _) ⟨(fun e => by cases e), (fun b' _ _ hk => by simp [rndC] at hk), fun b' hb' _ _ => ?_, (fun b' _ hz => by simp [rndC] at hz)⟩
  cases hb'
  show LoopAt _ _ _
  exact ⟨{ rec with state := st2, pending := pend2 }, regs, hnew, by simp [rndC, ← e1, ← e2, ← e3], h3', h3, h4, fun t => (h5 t).mono hle⟩
theorem sm_yield {o : Oper} {args : Array Operand} {tys : Array TypeId} {tf d kL g : Nat} {ps : Array Tmp} {asg body : Code} {regs : Nat → PV} {K : St → Prop} (ho : o.op = .call ⟨.value (.tmp tf), args, tys⟩) (hd : o.dst = some d) (hy : s.reg tf = .yl kL g)
    (hown : s.own kL = (g, some (rndC ps asg body .ready none regs))) (hps : args.size = ps.size)
    (h : PWP P L asg (XThen (fun s2 => s2.own kL = (g, some (rndC ps asg body .ready none regs)) ∧ PWP P L body (RoundPost s kL g ps asg body regs d K) { reg := s2.reg, own := (s2.setOwn kL g (some (rndC ps asg body .busy none regs))).own }) (fun _ _ => False)) { reg := bindP (ps.toList.zip (args.toList.map s.ev)) regs, own := s.own }) : SmI P L s o K := by
  intro ro n C a w Q hG ⟨γ, hs⟩ hN hQ
  have hyr := hs.ev (.tmp tf)
  rw [show s.ev (.tmp tf) = .yl kL g from hy] at hyr
  obtain ⟨b, hb, hv⟩ := hs.yl_at hyr hown
  have hit := (hs.sites kL _ (by rw [hown])).it b hb rfl (show (3:Nat) ≤ 4 by decide)
  obtain ⟨rec, regs', h1, h2, h3', h3, h4, h5⟩ : LoopAt (envOf C γ s w) b (rndC ps asg body .ready none regs).rows := hit
  have h1 : w.heap[b]? = some (.loop rec) := h1
  simp only [rndC, List.cons.injEq, PV.lbl.injEq, and_true] at h2
  obtain ⟨e1, e2, e3, e4, e5, e6⟩ := h2
  subst e6
  refine ⟨fun _ _ => trivial, ?_⟩
  have hexec : (o.semAt (Fr ro).round a.eval).run P w = .ok (.round b rec.fn ((rec.params.zip (args.map a.eval)).foldl (fun tmps (t, a) => tmps.setIfInBounds t a) rec.tmps) rec.assign rec.body) w := by
    rw [Oper.semAt_eq _ _ _ (fun c e => by rw [ho] at e; cases e)]
    simp only [execOp, ho, resolve, hv, Deferred.ofValue, Sem.run_bind, Sem.run_pure, Result.andThen_ok, invoke]
    rw [show (#[] ++ args.map a.eval : Array Value) = args.map a.eval by simp]
    exact run_yield h1 (by rw [← e1]; simpa using hps)
  rw [hexec, Oper.uponIn_round]
  refine ⟨fun e => by simp [Fr, Fence.wide] at e, ?_⟩
  refine roundIn_of_wpIn trivial ?_
  rw [← e2, ← e3]
  rw [← e2] at h3'
  rw [← e3] at h3
  let C2 : Ctx := ⟨C.B, C.X, C.w0, rec.tmps.size, fun c v => C.keep c v ∨ ∃ t, c = s.reg t ∧ v = a.tmps.getD t undef, []⟩
  have hG2 : Good P L C2 := ⟨hG.lay, hG.x, hG.mixed, hG.glob⟩
  have hfold : (rec.params.zip (args.map a.eval)).foldl (fun tmps (t, a) => tmps.setIfInBounds t a) rec.tmps = (ps.toList.zip (args.toList.map a.eval)).foldl (fun t q => t.setIfInBounds q.1 q.2) rec.tmps := by
    rw [← e1, ← Array.foldl_toList, Array.toList_zip, Array.toList_map]
  obtain ⟨b1, b2⟩ := bind_spec (E := envOf C γ s w) ps.toList (args.toList.map s.ev) (args.toList.map a.eval) regs rec.tmps (by simpa using hps.symm) (by simp)
    (fun p hp => by rw [e1] at hp; simpa using List.all_eq_true.1 h4 p hp) (fun t => h5 t) (fun i c v q1 q2 => by
      rw [List.getElem?_map] at q1 q2
      cases hx : args.toList[i]? with
      | none => rw [hx] at q1; simp at q1
      | some x => rw [hx] at q1 q2; simp at q1 q2; subst q1; subst q2; exact hs.ev x)
  rw [hfold]
  have hsim2 : SimE C2 { reg := bindP (ps.toList.zip (args.toList.map s.ev)) regs, own := s.own } { tmps := (ps.toList.zip (args.toList.map a.eval)).foldl (fun t q => t.setIfInBounds q.1 q.2) rec.tmps, defers := [] } w := by
    refine ⟨γ, rfl, b1, b2, hs.sites, hs.inj, hs.base, hs.below, hs.top, ?_⟩
    rintro c v (hk | ⟨t, rfl, rfl⟩)
    · exact hs.kept c v hk
    · exact hs.regs t
  rw [fr_round]
  refine wpIn_mono (PWP.soundX (X := fun A B => A = B) (fun _ => rfl) (fun h k => h.trans k) (fun h => by subst h; exact .refl _) (r := false) (fun h => by cases h) asg _ C2 _ _ _ hG2 h3' (fun _ hq => hq) hsim2 h) ?_
  rintro e aA wA ⟨C', sA, rfl, ⟨γA, hsA⟩, hq⟩
  have he : e = .normal := by
    cases e
    case normal => rfl
    all_goals exact absurd hq id
  subst he
  obtain ⟨hownA, hbodyA⟩ := hq
  show ∃ w₂, _
  have hkyA := hsA.kept (.yl kL g) (.func (.yield b) #[] #[]) (.inr ⟨tf, hy.symm, hv.symm⟩)
  obtain ⟨bA, hbA, hvA⟩ := hsA.yl_at hkyA hownA
  have hbb : b = bA := by injection hvA with q; injection q with q
  subst hbb
  obtain ⟨rec2, r1, r2, r3, r4⟩ := hsA.turnLoop hownA hbA
  have hs1 := r4 .busy none
  have hw2 : wA.putObj b (.loop { rec2 with state := .busy, pending := none }) = wA.putObj b (.loop { rec2 with state := .busy }) := by
    have : ({ rec2 with state := .busy, pending := none } : Loop) = { rec2 with state := .busy } := by rw [← r3]
    rw [this]
  rw [hw2] at hs1
  refine ⟨_, run_beginRound r1 r2, ?_⟩
  have hsimB : SimE C2 { reg := sA.reg, own := (sA.setOwn kL g (some (rndC ps asg body .busy none regs))).own } aA (wA.putObj b (.loop { rec2 with state := .busy })) := ⟨γA, hs1⟩
  refine wpIn_mono (PWP.soundX (X := fun A B => A = B) (fun _ => rfl) (fun h k => h.trans k) (fun h => by subst h; exact .refl _) (r := false) (fun h => by cases h) body _ C2 _ _ _ hG2 h3 (fun _ hq => hq) hsimB hbodyA) ?_
  have fin : ∀ {s' : St} {a' : Act} {w3 : World} (jump : Option Code) (st : LoopState), st = (if jump.isNone then .ready else .done) → SimE C2 s' a' w3 → s'.own kL = (g, some (rndC ps asg body .busy none regs)) →
      K (({ reg := s.reg, own := (s'.setOwn kL g (some (rndC ps asg body st jump regs))).own } : St).putR d (.bool jump.isNone)) →
      ∃ v w4, (Instr.endRound b jump).run P w3 = .ok v w4 ∧ ∃ s'', SimE C s'' (a.put o.dst v) w4 ∧ K s'' := by
    rintro s' a' w3 jump st rfl ⟨γ', hs'⟩ hown' hk
    have hky := hs'.kept (.yl kL g) (.func (.yield b) #[] #[]) (.inr ⟨tf, hy.symm, hv.symm⟩)
    obtain ⟨b', hb', hvb⟩ := hs'.yl_at hky hown'
    have hbb : b' = b := by injection hvb with q; injection q with q; exact q.symm
    subst hbb
    obtain ⟨rec3, q1, q2, q3, q4⟩ := hs'.turnLoop hown' hb'
    have hs4 := q4 (if jump.isNone then .ready else .done) jump
    refine ⟨_, _, run_endRound jump q1, _, ⟨γ', ?_⟩, hk⟩
    have hback : Sim C γ' { reg := s.reg, own := (s'.setOwn kL g (some (rndC ps asg body (if jump.isNone then .ready else .done) jump regs))).own } a (w3.putObj b' (.loop { rec3 with state := if jump.isNone then .ready else .done, pending := jump })) :=
      ⟨hs.defers, hs.size, fun r => hs4.kept _ _ (.inr ⟨r, rfl, rfl⟩), hs4.sites, hs4.inj, hs4.base, hs4.below, hs4.top, fun c v hk => hs4.kept c v (.inl hk)⟩
    rw [hd]
    rw [hd] at hN
    exact hback.put (d := some d) hN (.d (.bool _))
  rintro e a' w3 ⟨C', s', rfl, h', hq⟩
  cases e
  case normal => exact fin none .ready rfl h' hq.1 hq.2
  case ret => exact fin (some .ret) .done rfl h' hq.1 hq.2
  case exit id => exact fin (some (.exit id)) .done rfl h' hq.1 hq.2
  all_goals exact hq.elim
theorem pw_range {Q : Exit → St → Prop} {g : Operand} {ps : Array Tmp} {assign body : Code} (h : RangeS P L g ps assign body Q s) : PWP P L (.rangeFunc g ps assign body) Q s := Gh.of h
theorem range_inl {Q : Exit → St → Prop} {g : Operand} {gf : FuncId} {caps : List PV} {fn : Func} {bodyI : Code} {ps : Array Tmp} {asg body : Code} (kL : Nat) {gn : Nat} {oc : Option Cont} (hg : s.ev g = .clo gf caps) (hf : P.funcs[gf]? = some fn) (hb : fn.body = some bodyI)
    (hn : (fn.name == "runtime.NumGoroutine") = false) (hlen : Nat.ble (1 + caps.length) fn.ntmps = true) (hc : codeOk fn.ntmps bodyI = true) (hres : fn.results = #[]) (hown : s.own kL = (gn, oc))
    (h : PWP P L bodyI (RangePost s kL (gn + 1) ps asg body Q) { reg := fun t => ((.yl kL (gn + 1)) :: caps).getD t (.raw undef), own := (s.setOwn kL (gn + 1) (some (rndC ps asg body .ready none s.reg))).own }) : RangeS P L g ps asg body Q s := by
  intro n C a w hG ⟨γ, hs⟩ hcode hQ
  simp only [codeB, Bool.true_and, Bool.and_eq_true] at hcode
  obtain ⟨⟨hpsN, hasg⟩, hbody⟩ := hcode
  refine wpIn_rangeFunc fun fnid _ => ?_
  have hge := hs.ev g
  rw [hg] at hge
  obtain ⟨vs, hv, hl, hd⟩ := hge.clo_inv
  have hcal : callable P gf := ⟨fn, hf, hn, by simp [hb]⟩
  obtain ⟨rec, hrec⟩ : ∃ rec : Loop, rec = { state := .ready, pending := none, fn := fnid, tmps := a.tmps, params := ps, assign := asg, body := body, defers := w.heap.size } := ⟨_, rfl⟩
  refine ⟨w.heap.size + 1, [mark w.heap.size], (w.alloc (.deferred (some []))).alloc (.loop rec), { target := .fn (.func gf) vs.toArray, args := #[.func (.yield (w.heap.size + 1)) #[] #[]] }, (w.alloc (.deferred (some []))).alloc (.loop rec), gf,
    #[Value.func (.yield (w.heap.size + 1)) #[] #[]] ++ vs.toArray, (w.alloc (.deferred (some []))).alloc (.loop rec), by rw [hrec]; exact run_enterLoop_outer _ _ _ _ _, ?_, fun _ _ => trivial, ?_, fun e => by simp [Fr, Fence.wide] at e, ?_⟩
  · simp only [resolve, hv]
    simp [go_sem]
  · simp only [invoke]
    exact run_callFunc hcal _
  refine callsIn_of_wp hf hb trivial ?_
  have hbel : Below w.heap.size w (w.alloc (.deferred (some []))) := (Below.refl _ w).alloc (Nat.le_refl _) _
  have hD := hs.ext hbel
  have hsz : (w.alloc (.deferred (some []))).heap.size = w.heap.size + 1 := by simp
  have hT : Turn C γ s (w.alloc (.deferred (some []))) ((w.alloc (.deferred (some []))).alloc (.loop rec)) kL (some (w.alloc (.deferred (some []))).heap.size) := Turn.alloc _ kL
  have hle := hT.le hD (rndC ps asg body .ready none s.reg)
  have hfin : s.fin kL (rndC ps asg body .ready none s.reg) = s.setOwn kL (gn + 1) (some (rndC ps asg body .ready none s.reg)) := by rw [St.fin, hown]
  have hs1 := hT.sim (c := rndC ps asg body .ready none s.reg) hD ⟨(fun e => by cases e), (fun b' _ _ hk => by simp [rndC] at hk), fun b' hb' _ _ => by
    cases hb'
    show LoopAt _ _ _
    refine ⟨rec, s.reg, heap_alloc_at _ _, by rw [hrec]; rfl, by rw [hrec]; simpa [hs.size] using hasg, by rw [hrec]; simpa [hs.size] using hbody, by rw [hrec]; simpa [hs.size] using hpsN, fun t => ?_⟩
    rw [show rec.tmps = a.tmps by rw [hrec]]; exact (hD.regs t).mono hle, (fun b' _ hz => by simp [rndC] at hz)⟩
  rw [hfin, hsz] at hs1
  rw [hfin, hsz] at hle
  have hDobj : ((w.alloc (.deferred (some []))).alloc (.loop rec)).heap[w.heap.size]? = some (.deferred (some [])) := by
    rw [Below.heap_alloc _ _ _ (by simp)]
    exact heap_alloc_at w _
  have hDok : okOf C (upg γ kL (some (w.heap.size + 1))) (s.setOwn kL (gn + 1) (some (rndC ps asg body .ready none s.reg))) ((w.alloc (.deferred (some []))).alloc (.loop rec)) w.heap.size := by
    refine ⟨by simp; omega, fun hx => ?_, fun k c hk hb' => ?_⟩
    · have := hG.x _ hx; have := hs.top; omega
    · by_cases hkk : k = kL
      · subst hkk
        rw [upg_same] at hb'
        injection hb' with q; omega
      · rw [setOwn_ne hkk] at hk
        rw [upg_ne hkk] at hb'
        have := (hs.base k c _ hk hb').2; omega
  let C1 : Ctx := ⟨C.B, C.X, C.w0, fn.ntmps, fun c v => C.keep c v ∨ (∃ t, c = s.reg t ∧ v = a.tmps.getD t undef) ∨ (c = .dfd ∧ v = .pointer (some ⟨w.heap.size, 0, none⟩)) ∨ (c = .yl kL (gn + 1) ∧ v = .func (.yield (w.heap.size + 1)) #[] #[]), []⟩
  have hG1 : Good P L C1 := ⟨hG.lay, hG.x, hG.mixed, hG.glob⟩
  have hyl : Rep (envOf C (upg γ kL (some (w.heap.size + 1))) (s.setOwn kL (gn + 1) (some (rndC ps asg body .ready none s.reg))) ((w.alloc (.deferred (some []))).alloc (.loop rec))) (.yl kL (gn + 1)) (.func (.yield (w.heap.size + 1)) #[] #[]) := by
    refine .yl (by simp [envOf, setOwn_same]) fun _ l hl => ?_
    simp only [envOf, setOwn_same, upg_same, Option.map_some, Option.some.injEq] at hl
    subst hl
    exact ⟨rfl, _, rfl, rfl⟩
  have hlen' : 1 + vs.length ≤ fn.ntmps := by rw [← hl]; simpa using hlen
  have hargs : ∀ t, Rep (envOf C (upg γ kL (some (w.heap.size + 1))) (s.setOwn kL (gn + 1) (some (rndC ps asg body .ready none s.reg))) ((w.alloc (.deferred (some []))).alloc (.loop rec))) (((.yl kL (gn + 1)) :: caps).getD t (.raw undef))
      ((#[Value.func (.yield (w.heap.size + 1)) #[] #[]] ++ vs.toArray ++ Array.replicate (fn.ntmps - (#[Value.func (.yield (w.heap.size + 1)) #[] #[]] ++ vs.toArray).size) undef).getD t undef) := by
    intro t
    cases t with
    | zero =>
      have e2 : (#[Value.func (.yield (w.heap.size + 1)) #[] #[]] ++ vs.toArray ++ Array.replicate (fn.ntmps - (#[Value.func (.yield (w.heap.size + 1)) #[] #[]] ++ vs.toArray).size) undef).getD 0 undef = Value.func (.yield (w.heap.size + 1)) #[] #[] := by
        simp [Array.getElem?_append]
      rw [e2]; exact hyl
    | succ t =>
      rcases Nat.lt_or_ge t vs.length with hlt | hge
      · have hlt' : t < caps.length := by omega
        have e1 : ((PV.yl kL (gn + 1)) :: caps).getD (t + 1) (.raw undef) = caps[t] := by simp [hlt']
        have e2 : (#[Value.func (.yield (w.heap.size + 1)) #[] #[]] ++ vs.toArray ++ Array.replicate (fn.ntmps - (#[Value.func (.yield (w.heap.size + 1)) #[] #[]] ++ vs.toArray).size) undef).getD (t + 1) undef = vs[t] := by
          rw [Array.getD_eq_getD_getElem?, Array.getElem?_append_left (by simp; omega), Array.getElem?_append_right (by simp)]
          simp [hlt]
        rw [e1, e2]
        exact (hd t caps[t] vs[t] (List.getElem?_eq_getElem hlt') (List.getElem?_eq_getElem hlt)).mono ((envLe_ext hbel hs.base).trans' hle)
      · have e1 : ((PV.yl kL (gn + 1)) :: caps).getD (t + 1) (.raw undef) = .raw undef := by simp [List.getElem?_eq_none (by omega : caps.length ≤ t)]
        have e2 : (#[Value.func (.yield (w.heap.size + 1)) #[] #[]] ++ vs.toArray ++ Array.replicate (fn.ntmps - (#[Value.func (.yield (w.heap.size + 1)) #[] #[]] ++ vs.toArray).size) undef).getD (t + 1) undef = undef := by
          rw [Array.getD_eq_getD_getElem?, Array.getElem?_append_right (by simp; omega)]
          rcases Nat.lt_or_ge (t + 1 - (#[Value.func (.yield (w.heap.size + 1)) #[] #[]] ++ vs.toArray).size) (fn.ntmps - (#[Value.func (.yield (w.heap.size + 1)) #[] #[]] ++ vs.toArray).size) with h1 | h1
          · rw [Array.getElem?_replicate, if_pos h1]; rfl
          · rw [Array.getElem?_eq_none (by simpa using h1)]; rfl
        rw [e1, e2]
        exact .d (.raw _)
  have hsim : SimE C1 { reg := fun t => ((.yl kL (gn + 1)) :: caps).getD t (.raw undef), own := (s.setOwn kL (gn + 1) (some (rndC ps asg body .ready none s.reg))).own }
      { tmps := #[Value.func (.yield (w.heap.size + 1)) #[] #[]] ++ vs.toArray ++ Array.replicate (fn.ntmps - (#[Value.func (.yield (w.heap.size + 1)) #[] #[]] ++ vs.toArray).size) undef, defers := [] } ((w.alloc (.deferred (some []))).alloc (.loop rec)) := by
    refine ⟨upg γ kL (some (w.heap.size + 1)), rfl, by simp [C1]; omega, hargs, hs1.sites, hs1.inj, hs1.base, hs1.below, hs1.top, ?_⟩
    rintro c v (hk | ⟨t, rfl, rfl⟩ | ⟨rfl, rfl⟩ | ⟨rfl, rfl⟩)
    · exact hs1.kept c v hk
    · exact hs1.regs t
    · exact .dfd hDok hDobj
    · exact hyl
  refine wpIn_mono (PWP.soundX (X := fun A B => A = B) (fun _ => rfl) (fun h k => h.trans k) (fun h => by subst h; exact .refl _) (r := false) (fun h => by cases h) bodyI _ C1 _ _ _ hG1 hc (fun _ hq => hq) hsim h) ?_
  have fin : ∀ {s' : St} {a' : Act} {w3 : World} (pend : Option Code) (st : LoopState), st ≠ .busy → SimE C1 s' a' w3 → s'.own kL = (gn + 1, some (rndC ps asg body st pend s.reg)) →
      ∃ w4, (Instr.endLoop (w.heap.size + 1)).run P w3 = .ok pend w4 ∧ ∃ C4, Ext C C4 ∧ SimE C4 { reg := s.reg, own := (s'.setOwn kL (gn + 1 + 1) none).own } { a with defers := [mark w.heap.size] ++ a.defers } w4 := by
    rintro s' a' w3 pend st hst ⟨γ', hs'⟩ hown'
    have hky := hs'.kept (.yl kL (gn + 1)) (.func (.yield (w.heap.size + 1)) #[] #[]) (.inr (.inr (.inr ⟨rfl, rfl⟩)))
    obtain ⟨b', hb', hvb⟩ := hs'.yl_at hky hown'
    have hbb : b' = w.heap.size + 1 := by injection hvb with q; injection q with q; exact q.symm
    subst hbb
    obtain ⟨rec3, q1, q2, q3, q4⟩ := hs'.turnLoop hown' hb'
    have hs4 := q4 .exhausted pend
    have hw4 : w3.putObj (w.heap.size + 1) (.loop { rec3 with state := .exhausted, pending := pend }) = w3.putObj (w.heap.size + 1) (.loop { rec3 with state := .exhausted }) := by
      have : ({ rec3 with state := .exhausted, pending := pend } : Loop) = { rec3 with state := .exhausted } := by rw [← q3]
      rw [this]
    rw [hw4] at hs4
    refine ⟨_, by rw [← q3]; exact run_endLoop q1 (by rw [q2]; exact hst), ?_⟩
    obtain ⟨hs5, _, _⟩ := hs4.drop hG1.x (setOwn_same s' kL (gn + 1) _)
    have hoo : ((s'.setOwn kL (gn + 1) (some (rndC ps asg body .exhausted pend s.reg))).setOwn kL (gn + 1 + 1) none).own = (s'.setOwn kL (gn + 1 + 1) none).own := by
      funext r
      by_cases hr : r = kL
      · subst hr; rw [setOwn_same, setOwn_same]
      · rw [setOwn_ne hr, setOwn_ne hr, setOwn_ne hr]
    have key : ∀ ow, ow = (s'.setOwn kL (gn + 1 + 1) none).own → Sim C1 γ' { reg := s'.reg, own := ow } a' (w3.putObj (w.heap.size + 1) (.loop { rec3 with state := .exhausted })) →
        ∃ C4, Ext C C4 ∧ SimE C4 { reg := s.reg, own := (s'.setOwn kL (gn + 1 + 1) none).own } { a with defers := [mark w.heap.size] ++ a.defers } (w3.putObj (w.heap.size + 1) (.loop { rec3 with state := .exhausted })) := by
      rintro ow rfl hs6
      refine ⟨⟨C.B, C.X, C.w0, C.N, fun c v => C.keep c v ∨ (c = .dfd ∧ v = .pointer (some ⟨w.heap.size, 0, none⟩)), w.heap.size :: C.dfs⟩, ⟨rfl, rfl, rfl, rfl, fun c v hk => .inl hk, fun hdk => ⟨?_, ?_⟩⟩, γ', ?_, hs.size, fun r => hs6.kept _ _ (.inr (.inl ⟨r, rfl, rfl⟩)), hs6.sites, hs6.inj, hs6.base, hs6.below, hs6.top, ?_⟩
      · rw [List.nodup_cons]
        refine ⟨fun hm => ?_, hdk.1⟩
        have := hs.kept _ _ (hdk.2 _ hm).2
        cases this with
        | d hd => cases hd
        | dfd h1 _ => exact absurd h1.1 (Nat.lt_irrefl _)
      · intro D hDm
        rcases List.mem_cons.1 hDm with rfl | hDm
        · exact ⟨hs.top, .inr ⟨rfl, rfl⟩⟩
        · exact ⟨(hdk.2 D hDm).1, .inl (hdk.2 D hDm).2⟩
      · show [mark w.heap.size] ++ a.defers = _
        rw [hs.defers]; rfl
      · rintro c v (hk | ⟨rfl, rfl⟩)
        · exact hs6.kept c v (.inl hk)
        · exact hs6.kept _ _ (.inr (.inr (.inl ⟨rfl, rfl⟩)))
    exact key _ hoo hs5
  have ends : ∀ {s' : St} {a' : Act} {w3 : World}, SimE C1 s' a' w3 → RangePost s kL (gn + 1) ps asg body Q .ret s' → a'.defers = [] ∧ ∃ v, (results fn a'.tmps).run P w3 = .ok v w3 ∧
      rangePost (Fr none) n P (w.heap.size + 1) (UpX Ext C Q) { a with defers := [mark w.heap.size] ++ a.defers } (.returned v) w3 := by
    intro s' a' w3 h' hq
    refine ⟨by obtain ⟨_, h'⟩ := h'; exact h'.defers, .tuple #[], by simp [results, hres], ?_⟩
    rcases hq with ⟨ho, hq⟩ | ⟨id, ho, hq⟩ | ⟨ho, hq⟩
    · obtain ⟨w4, e1, C4, e2, e3⟩ := fin none .ready (by simp) h' ho
      exact ⟨none, w4, e1, C4, _, e2, e3, hq⟩
    · obtain ⟨w4, e1, C4, e2, e3⟩ := fin (some (.exit id)) .done (by simp) h' ho
      exact ⟨some (.exit id), w4, e1, wpIn_exit ⟨C4, _, e2, e3, hq⟩⟩
    · obtain ⟨w4, e1, C4, e2, e3⟩ := fin (some .ret) .done (by simp) h' ho
      exact ⟨some .ret, w4, e1, wpIn_ret ⟨C4, _, e2, e3, hq⟩⟩
  rintro e a' w3 ⟨C', s', rfl, h', hq⟩
  cases e
  case normal => exact ends h' hq
  case ret => exact ends h' hq
  all_goals exact hq.elim
end
end Go.Pv


set_option linter.unusedVariables false
namespace Go.Pv
open Go.RowKit Go.Proofs Go.Shelf
def WStr (P : Program) (f : FuncId) (T e : TypeId) : Prop :=
  ∀ (b : Nat) (p v : Value) (blk : Option Nat) (n : Nat) (olds : List Value) (s : ByteArray) (w : World), w.heap[b]? = some (.cells #[p, v] T (0, 0)) → (p = .pointer none ∨ p = .pointer (some ⟨b, 0, none⟩)) → Whole w e 1 blk v n olds →
    n + s.size ≤ 140737488355328 → Calls P f #[.pointer (some ⟨b, 0, none⟩), .string s] w fun x w' => x = .returned (.tuple #[.int .i64 s.size, .nilIface]) ∧
      ∃ v' blk', w'.heap[b]? = some (.cells #[.pointer (some ⟨b, 0, none⟩), v'] T (0, 0)) ∧ Whole w' e 1 blk' v' (n + s.size) (olds ++ Lib.strCells s) ∧ w'.os = w.os ∧ w'.tape = w.tape ∧ w'.output = w.output ∧ w.heap.size ≤ w'.heap.size ∧
        (∀ j, j < w.heap.size → j ≠ b → w'.heap[j]? = w.heap[j]? ∨ blk = some j) ∧ (∀ j, blk' = some j → j < w'.heap.size ∧ (w.heap.size ≤ j ∨ blk = some j))
def SStr (P : Program) (f : FuncId) (T e : TypeId) : Prop :=
  ∀ (b : Nat) (p v : Value) (blk : Option Nat) (l : List UInt8) (w : World), w.heap[b]? = some (.cells #[p, v] T (0, 0)) → Whole w e 1 blk v l.length (Lib.byteCells l) →
    Calls P f #[.pointer (some ⟨b, 0, none⟩)] w fun x w' => x = .returned (.string ⟨l.toArray⟩) ∧ w'.os = w.os ∧ w'.tape = w.tape ∧ w'.output = w.output ∧ w.heap.size ≤ w'.heap.size ∧
        (∀ j, j < w.heap.size → w'.heap[j]? = w.heap[j]? ∨ blk = some j)
theorem append_str {P : Program} {w : World} (t u ty e : TypeId) (i : TypeInfo) (ht : P.underlying t = some (.slice e)) (hu : P.underlying u = some .string) (hi : P.info? e = some i) (hz : i.zero = some (.int .u8 0)) (hsize : i.size = 1) (hby : i.bytes = 1)
    (blk : Option Nat) (v : Value) (n : Nat) (olds : List Value) (hv : Whole w e 1 blk v n olds) (s : ByteArray) (hbytes : n + s.size ≤ 140737488355328) :
    ∃ v' w' blk', (Builtin.append_ #[t, u] ty #[v, .string s]).run P w = .ok v' w' ∧ Whole w' e 1 blk' v' (n + s.size) (olds ++ Lib.strCells s) ∧ w'.os = w.os ∧ w'.tape = w.tape ∧ w'.output = w.output ∧ w.heap.size ≤ w'.heap.size ∧
      (∀ b, b < w.heap.size → w'.heap[b]? = w.heap[b]? ∨ blk = some b) ∧ (∀ b, blk' = some b → b < w'.heap.size ∧ (w.heap.size ≤ b ∨ blk = some b)) := by
  have h63 : n + s.size ≤ maxLen := by unfold maxLen; omega
  obtain ⟨hlo, hv⟩ := hv
  have hxl : olds.length = n := by simpa using hlo
  have hlen : (olds ++ Lib.strCells s).length = (n + s.size) * 1 := by rw [List.length_append, hxl, Lib.strCells_length, Nat.mul_one]
  rcases hv with ⟨rfl, rfl, rfl⟩ | ⟨g, cap, cur, rfl, rfl, hg, hnc, hcm, hcs, htk⟩
  · obtain ⟨v', w', h1, h2, h3, h4⟩ := Lib.run_append_own_string (P := P) (w := w) w.heap.size t u ty e i ht hu hi hz hsize hby (.slice none 0 0) 0 olds ⟨hlo, .inl ⟨rfl, rfl⟩⟩ s h63 hbytes (Nat.le_refl _)
    refine ⟨v', w', v'.ownBlock, h1, ⟨h2.1, ?_⟩, h3.os, h3.tape, h3.output, h3.size, fun b hb => .inl (h3.block b hb (by simp [Value.ownBlock])), fun b hb => ?_⟩
    · rcases h2.2 with ⟨e1, e2⟩ | ⟨g, cap, cur, e1, e2, e3⟩
      · exact .inl ⟨by rw [e1]; rfl, e1, e2⟩
      · exact .inr ⟨g, cap, cur, by rw [e1]; rfl, e1, e3⟩
    · rcases h2.2 with ⟨e1, e2⟩ | ⟨g, cap, cur, e1, e2, e3, _⟩
      · rw [e1] at hb; simp [Value.ownBlock] at hb
      · rw [e1] at hb
        simp [Value.ownBlock] at hb
        subst hb
        exact ⟨(Array.getElem?_eq_some_iff.1 e3).1, .inl e2⟩
  · have ht' : cur.toList.take n = olds := by simpa using htk
    have hcs' : cur.size = cap := by simpa using hcs
    by_cases hroom : n + s.size ≤ cap
    · have hr := Lib.run_append_room_string (P := P) (w := w) t u ty e i ht hu hi hsize g n cap cur hg s hroom (by omega)
      refine ⟨_, _, some g, hr, ⟨hlen, .inr ⟨g, cap, _, rfl, rfl, setRow_heap w g cur _ e _ hg, hroom, hcm, ?_, ?_⟩⟩, rfl, rfl, rfl, by simp, fun b hb => ?_, fun b hb => ?_⟩
      · simp only [List.size_toArray, List.length_append, List.length_take, List.length_drop, Array.length_toList, Lib.strCells_length]
        omega
      · rw [ht', ← hlen]
        exact List.take_left
      · by_cases e1 : b = g
        · exact .inr (by rw [e1])
        · exact .inl (setRow_other w g b _ e1)
      · simp at hb; subst hb
        exact ⟨by simpa using (Array.getElem?_eq_some_iff.1 hg).1, .inr rfl⟩
    · have holds : ∀ j u, olds[j]? = some u → w.cell? ((⟨g, 0, none⟩ : Addr).add j) = some u := fun j u hu => by
        rw [Addr.add_mk, Nat.zero_add, cell_of_cells hg]
        rw [← ht', List.getElem?_take] at hu
        split at hu
        · simpa using hu
        · cases hu
      have hr := Lib.run_append_grow_string (P := P) (w := w) t u ty e i (.int .u8 0) ht hu hi hz ⟨g, 0, none⟩ n cap olds (by rw [hsize]; simpa using hxl) holds s (by omega) (by unfold maxLen at h63; omega) (by rw [hby]; exact growslice_fits (by omega) (by omega))
      have hge := grownCap_ge w (n + s.size) cap e
      have hcm := grownCap_le_maxLen w (n + s.size) cap e h63
      refine ⟨_, _, some w.heap.size, hr, ⟨hlen, .inr ⟨w.heap.size, _, _, rfl, rfl, heap_alloc_at w.drew _, hge, hcm, ?_, ?_⟩⟩, rfl, rfl, rfl, by simp, fun b hb => .inl (Below.heap_alloc w.drew _ b hb), fun b hb => ?_⟩
      · have hz1 : (Value.int IntKind.u8 0).cells.size = 1 := rfl
        simp only [Array.size_append, List.size_toArray, size_zeroCells, hz1, hxl, Lib.strCells_length]
        omega
      · simp only [Array.toList_append, List.append_assoc]
        rw [← List.append_assoc, ← hlen]
        exact List.take_left
      · simp at hb; subst hb
        exact ⟨by simp, .inl (Nat.le_refl _)⟩
theorem wpl_append_str {P : Program} {w : World} {ops : Array Oper} {rest : List Oper} {o : Oper} {a : Act} {Q : Exit → Act → World → Prop} (hgd : o.guard = none) (sl x : Operand) (t u : TypeId)
    (ho : o.op = .call { callee := .builtin .append, args := #[sl, x], argTypes := #[t, u] })
    (e : TypeId) (i : TypeInfo) (ht : P.underlying t = some (.slice e)) (hu : P.underlying u = some .string) (hi : P.info? e = some i) (hz : i.zero = some (.int .u8 0)) (hsize : i.size = 1) (hby : i.bytes = 1)
    (blk : Option Nat) (v : Value) (n : Nat) (olds : List Value) (hs : a.eval sl = v) (hv : Whole w e 1 blk v n olds) (s : ByteArray) (hx : a.eval x = .string s) (hbytes : n + s.size ≤ 140737488355328)
    (h : ∀ v' w' blk', Whole w' e 1 blk' v' (n + s.size) (olds ++ Lib.strCells s) → w'.os = w.os → w'.tape = w.tape → w'.output = w.output → w.heap.size ≤ w'.heap.size →
      (∀ b, b < w.heap.size → w'.heap[b]? = w.heap[b]? ∨ blk = some b) → (∀ b, blk' = some b → b < w'.heap.size ∧ (w.heap.size ≤ b ∨ blk = some b)) → wpList P ops Q rest (a.put o.dst v') w') : wpList P ops Q (o :: rest) a w := by
  refine wpList_plain hgd fun K hK => ?_
  obtain ⟨v', w', blk', hr, h2, h3, h4, h5, h6, h7, h8⟩ := append_str (P := P) t u o.type e i ht hu hi hz hsize hby blk v n olds hv s hbytes
  unfold Oper.wp execOp
  simp only [ho, resolve, invoke, builtin, Sem.run_bind, Sem.run_pure, Result.andThen_ok, List.map_toArray, List.map_cons, List.map_nil, hs, hx, hr]
  exact hK _ _ (h v' w' blk' h2 h3 h4 h5 h6 h7 h8)
section
variable {P : Program} {ρ : Ren}
theorem copyCheck_str (L : Lays.n240 P ρ) (X : Builder.X72 P ρ) (b : Nat) (p v : Value) (w : World) (hb : w.heap[b]? = some (.cells #[p, v] (ρ.t 72) (0, 0))) (hp : p = .pointer none ∨ p = .pointer (some ⟨b, 0, none⟩)) :
    Calls P (ρ.f 240) #[.pointer (some ⟨b, 0, none⟩)] w fun e w' => e = .returned (.tuple #[]) ∧ w'.heap[b]? = some (.cells #[.pointer (some ⟨b, 0, none⟩), v] (ρ.t 72) (0, 0)) ∧ w'.os = w.os ∧ w'.tape = w.tape ∧ w'.output = w.output ∧ w'.heap.size = w.heap.size ∧ ∀ j, j ≠ b → w'.heap[j]? = w.heap[j]? := by
  have c0 : w.cell? ⟨b, 0, none⟩ = some p := by rw [Lib.cell_of_heap hb]; rfl
  rcases hp with rfl | rfl
  · refine (Any.Builder_copyCheck_fresh L X b w c0 (by simp [World.shape?, hb]) (by simp [World.frozen?, hb])).mono ?_
    rintro e w' ⟨rfl, rfl⟩
    refine ⟨rfl, ?_, rfl, rfl, rfl, by simp [World.setCell], fun j hj => Below.heap_setCell _ _ _ _ hj⟩
    simp [World.setCell, Array.getElem?_modify, hb]
  · refine (Any.Builder_copyCheck_used L X b w c0).mono ?_
    rintro e w' ⟨rfl, rfl⟩
    exact ⟨rfl, hb, rfl, rfl, rfl, rfl, fun _ _ => rfl⟩
end
end Go.Pv


set_option linter.unusedVariables false
namespace Go.Pv
open Go.RowKit Go.Proofs Go.Shelf
variable {P : Program} {ρ : Ren}
theorem whole_frame {w w' : World} {e : TypeId} {blk : Option Nat} {v : Value} {n : Nat} {olds : List Value} (h : Whole w e 1 blk v n olds) (hk : ∀ g, blk = some g → w'.heap[g]? = w.heap[g]?) : Whole w' e 1 blk v n olds := by
  refine ⟨h.1, h.2.imp id ?_⟩
  rintro ⟨b, cap, cur, h1, h2, h3, h4⟩
  exact ⟨b, cap, cur, h1, h2, by rw [hk b h1]; exact h3, h4⟩
set_option maxHeartbeats 2000000 in
set_option maxRecDepth 100000 in
theorem wstr (L : Lays.n166 P ρ) (X : Builder.Extra P ρ) : WStr P (ρ.f 166) (ρ.t 72) (ρ.t 5) := by
  intro b p v blk n olds s w hb hp hw hlen
  have hne : blk ≠ some b := by
    intro e
    rcases hw.2 with ⟨e1, _⟩ | ⟨g, cap, cur, e1, _, e3, _⟩
    · rw [e1] at e; cases e
    · rw [e1] at e; cases e
      rw [hb] at e3
      simp only [Option.some.injEq, Obj.cells.injEq] at e3
      exact X.neB5 e3.2.1
  obtain ⟨i0, hi, hz0, hz1, hz2⟩ := info_parts X.infoByte
  have mixed := L.mixed
  have t72 := L.t72; have a72 := L.a72; have z72 := L.z72; have v72 := L.v72; have u72 := run_underlying L.t72
  have t70 := L.t70; have a70 := L.a70; have z70 := L.z70; have v70 := L.v70; have u70 := run_underlying L.t70
  have t37 := L.t37; have a37 := L.a37; have z37 := L.z37; have v37 := L.v37; have u37 := run_underlying L.t37
  have t3 := L.t3; have a3 := L.a3; have z3 := L.z3; have v3 := L.v3; have u3 := run_underlying L.t3
  have t9 := L.t9; have a9 := L.a9; have z9 := L.z9; have v9 := L.v9; have u9 := run_underlying L.t9
  have t4 := L.t4; have a4 := L.a4; have z4 := L.z4; have v4 := L.v4; have u4 := run_underlying L.t4
  have t164 := L.t164; have a164 := L.a164; have z164 := L.z164; have v164 := L.v164; have u164 := run_underlying L.t164
  have t5 := X.t5; have a5 := X.a5; have z5 := X.z5; have v5 := X.v5; have u5 := run_underlying X.t5
  have e240 : ∀ args w, (callFunc (ρ.f 240) args).run P w = .ok (.enter (ρ.f 240) args) w := enters_of L.f240 (by kernel_rfl) rfl
  go_enter L.f166, Body.n166_ntmps ρ
  go_wp2_with (go_at_fn (ρ.f 240); refine (copyCheck_str { L with } X.toX72 b p v _ hb hp).mono ?_)
  rintro e w1 ⟨rfl, hbk, hO⟩
  have o5 := hO.2.2.2.2
  have hw1 : Whole w1 (ρ.t 5) 1 blk v n olds := whole_frame hw fun g hg => o5 g fun e => hne (by rw [hg, e])
  have HO := (show Hid _ from hO)
  clear hO o5
  have c0 : w1.cell? ⟨b, 0, none⟩ = some (.pointer (some ⟨b, 0, none⟩)) := by rw [Lib.cell_of_heap hbk]; rfl
  have c1 : w1.cell? ⟨b, 1, none⟩ = some v := by rw [Lib.cell_of_heap hbk]; rfl
  go_wp2_with (at_builtin; refine wpl_append_str rfl _ _ (ρ.t 37) (ρ.t 9) rfl (ρ.t 5) i0 L.t37 L.t9 hi hz0 hz1 hz2 blk _ _ _ rfl hw1 s rfl hlen ?_)
  intro v' w2 blk' hw2 q1 q2 q3 q4 q5 q6
  have ⟨o1, o2, o3, o4, o5⟩ := HO.out
  have hlt : b < w1.heap.size := (Array.getElem?_eq_some_iff.1 hbk).1
  have hb2 : w2.heap[b]? = some (.cells #[.pointer (some ⟨b, 0, none⟩), v] (ρ.t 72) (0, 0)) := by
    rcases q5 b hlt with e1 | e1
    · rw [e1]; exact hbk
    · exact absurd e1 hne
  have d0 : w2.cell? ⟨b, 0, none⟩ = some (.pointer (some ⟨b, 0, none⟩)) := by rw [Lib.cell_of_heap hb2]; rfl
  have d1 : w2.cell? ⟨b, 1, none⟩ = some v := by rw [Lib.cell_of_heap hb2]; rfl
  have f1 : w2.frozen? ⟨b, 1, none⟩ = false := Lib.frozen_of_heap hb2 1
  have hne' : blk' ≠ some b := fun e => by
    rcases (q6 b e).2 with e1 | e1
    · omega
    · exact hne e1
  have HQ := (show Hid _ from And.intro q1 (And.intro q2 (And.intro q3 (And.intro q4 (And.intro q5 q6)))))
  clear q1 q2 q3 q4 q5 q6 o1 o2 o3 o4 o5
  obtain ⟨ao, n', cap, rfl⟩ : ∃ ao n' cap, v' = .slice ao n' cap := by
    rcases hw2.2 with ⟨_, hv, _⟩ | ⟨g, cap, cur, _, hv, _⟩
    · exact ⟨_, _, _, hv⟩
    · exact ⟨_, _, _, hv⟩
  go_wp2
  go_ret2
  have ⟨o1, o2, o3, o4, o5⟩ := HO.out
  have ⟨q1, q2, q3, q4, q5, q6⟩ := HQ.out
  refine ⟨rfl, .slice ao n' cap, blk', ?_, whole_frame hw2 fun g hg => Below.heap_setCell _ _ _ _ (fun e => hne' (by rw [hg, e])), q1.trans o1, q2.trans o2, q3.trans o3, ?_, fun j hj hjb => ?_, fun j hj => ?_⟩
  · simp [World.setCell, Array.getElem?_modify, hb2]
  · simp [World.setCell]; omega
  · rw [Below.heap_setCell _ _ _ _ hjb]
    rcases q5 j (by omega) with e1 | e1
    · exact .inl (e1.trans (o5 j hjb))
    · exact .inr e1
  · have := q6 j hj
    refine ⟨by simp [World.setCell]; omega, this.2.imp (fun h => by omega) id⟩
set_option maxHeartbeats 4000000 in
set_option maxRecDepth 100000 in
theorem sstr (L : Lays.n169 P ρ) (X : Builder.Extra P ρ) : SStr P (ρ.f 169) (ρ.t 72) (ρ.t 5) := by
  intro b p v blk l w hb hw
  have hlt : b < w.heap.size := (Array.getElem?_eq_some_iff.1 hb).1
  have mixed := L.mixed
  have t72 := L.t72; have a72 := L.a72; have z72 := L.z72; have v72 := L.v72; have u72 := run_underlying L.t72
  have t70 := L.t70; have a70 := L.a70; have z70 := L.z70; have v70 := L.v70; have u70 := run_underlying L.t70
  have t37 := L.t37; have a37 := L.a37; have z37 := L.z37; have v37 := L.v37; have u37 := run_underlying L.t37
  have t127 := L.t127; have a127 := L.a127; have z127 := L.z127; have v127 := L.v127; have u127 := run_underlying L.t127
  have t3 := L.t3; have a3 := L.a3; have z3 := L.z3; have v3 := L.v3; have u3 := run_underlying L.t3
  have t9 := L.t9; have a9 := L.a9; have z9 := L.z9; have v9 := L.v9; have u9 := run_underlying L.t9
  have t5 := X.t5; have a5 := X.a5; have z5 := X.z5; have v5 := X.v5; have u5 := run_underlying X.t5
  have c1 : w.drew.cell? ⟨b, 1, none⟩ = some v := by
    have : w.drew.heap[b]? = some (.cells #[p, v] (ρ.t 72) (0, 0)) := hb
    rw [Lib.cell_of_heap this]; rfl
  by_cases hl0 : l = []
  · subst hl0
    have hUS := Any.unsafeString_none L X
    rcases hw.2 with ⟨rfl, rfl, _⟩ | ⟨g, cap, cur, rfl, rfl, hg, hnc, hcm, hcs, htake⟩
    · have hSD : (Builtin.unsafeSliceData_ #[(ρ.t 37)] (ρ.t 127) #[.slice none 0 0]).run P w.drew = .ok (.pointer none) w.drew := rfl
      go_enter L.f169, Body.n169_ntmps ρ
      go_wp2
      go_region_o
      all_goals (go_wp2; go_ret; exact ⟨rfl, rfl, rfl, rfl, Nat.le_refl _, fun _ _ => .inl rfl⟩)
    · by_cases hc0 : cap = 0
      · subst hc0
        have hSD : (Builtin.unsafeSliceData_ #[(ρ.t 37)] (ρ.t 127) #[.slice (some ⟨g, 0, none⟩) 0 0]).run P w.drew = .ok (.pointer (some ⟨w.drew.heap.size, 0, none⟩)) (w.drew.alloc (.view ⟨g, 0, none⟩ (ρ.t 5))) :=
          Lib.run_unsafeSliceData_zero w.drew _ _ (ρ.t 5) L.t127 ⟨g, 0, none⟩ 0 ((ρ.t 5), cur.size) (by have hg' : w.drew.heap[g]? = some (.cells cur (ρ.t 5) (0, 0)) := hg; simp [World.shape?, hg'])
        have c2 : (w.drew.alloc (.view ⟨g, 0, none⟩ (ρ.t 5))).cell? ⟨b, 1, none⟩ = some (.slice (some ⟨g, 0, none⟩) 0 0) := by
          have : (w.drew.alloc (.view ⟨g, 0, none⟩ (ρ.t 5))).heap[b]? = _ := (Lib.alloc_old w.drew _ b hlt).trans hb
          rw [Lib.cell_of_heap this]; rfl
        have c3 : (w.alloc (.view ⟨g, 0, none⟩ (ρ.t 5))).drew.cell? ⟨b, 1, none⟩ = some (.slice (some ⟨g, 0, none⟩) 0 0) := c2
        have c0 : w.cell? ⟨b, 1, none⟩ = some (.slice (some ⟨g, 0, none⟩) 0 0) := c1
        go_enter L.f169, Body.n169_ntmps ρ
        go_wp2
        go_region_o
        all_goals (go_wp2; go_ret; exact ⟨rfl, rfl, rfl, rfl, by simp, fun j hj => .inl (Below.heap_alloc w.drew _ j hj)⟩)
      · have hSD : (Builtin.unsafeSliceData_ #[(ρ.t 37)] (ρ.t 127) #[.slice (some ⟨g, 0, none⟩) 0 cap]).run P w.drew = .ok (.pointer (some ⟨g, 0, none⟩)) w.drew :=
          Lib.run_unsafeSliceData_row _ _ _ _ _ _ hc0
        have c1 : w.drew.cell? ⟨b, 1, none⟩ = some (.slice (some ⟨g, 0, none⟩) 0 cap) := c1
        clear hc0
        go_enter L.f169, Body.n169_ntmps ρ
        go_wp2
        go_region_o
        all_goals (go_wp2; go_ret; exact ⟨rfl, rfl, rfl, rfl, Nat.le_refl _, fun _ _ => .inl rfl⟩)
  · have hll : l.length ≠ 0 := by simpa using hl0
    obtain ⟨g, cap, cur, rfl, rfl, hg, hnc, hcm, hcs, htake⟩ : ∃ g cap cur, blk = some g ∧ v = .slice (some ⟨g, 0, none⟩) l.length cap ∧ w.heap[g]? = some (.cells cur (ρ.t 5) (0, 0)) ∧ l.length ≤ cap ∧ cap ≤ maxLen ∧ cur.size = cap * 1 ∧ cur.toList.take (l.length * 1) = Lib.byteCells l := by
      rcases hw.2 with ⟨_, _, hz⟩ | h
      · exact absurd hz hll
      · exact h
    have hSD : (Builtin.unsafeSliceData_ #[(ρ.t 37)] (ρ.t 127) #[.slice (some ⟨g, 0, none⟩) l.length cap]).run P w.drew = .ok (.pointer (some ⟨g, 0, none⟩)) w.drew :=
      Lib.run_unsafeSliceData_row _ _ _ _ _ _ (by omega)
    have hUS : (Builtin.unsafeString_ #[(ρ.t 127), (ρ.t 3)] (ρ.t 9) #[.pointer (some ⟨g, 0, none⟩), .int .i64 l.length]).run P w.drew = .ok (.string ⟨l.toArray⟩) (w.drew.freeze ⟨g, 0, none⟩ l.length) := by
      refine Lib.run_unsafeString_row w.drew (ρ.t 127) (ρ.t 3) (ρ.t 9) (ρ.t 5) L.t127 X.cellsByte g cur.size (by have hg' : w.drew.heap[g]? = some (.cells cur (ρ.t 5) (0, 0)) := hg; simp [World.shape?, hg']) l hl0 (by omega) (by unfold maxLen at hcm; omega) ?_
      intro j x hx
      have hg' : w.drew.heap[g]? = some (.cells cur (ρ.t 5) (0, 0)) := hg
      rw [Addr.add_mk, Nat.zero_add, cell_of_cells hg']
      have hu : (Lib.byteCells l)[j]? = some (.int .u8 x.toNat) := by simp [Lib.byteCells, hx]
      rw [← htake, List.getElem?_take] at hu
      split at hu
      · simpa using hu
      · cases hu
    have hfr : ∀ j, j ≠ g → (w.drew.freeze ⟨g, 0, none⟩ l.length).heap[j]? = w.heap[j]? := fun j hj => by
      unfold World.freeze
      split
      · rfl
      · show (w.heap.modify g _)[j]? = _
        rw [Array.getElem?_modify, if_neg (fun e => hj e.symm)]
    have hfs : (w.drew.freeze ⟨g, 0, none⟩ l.length).heap.size = w.heap.size ∧ (w.drew.freeze ⟨g, 0, none⟩ l.length).os = w.os ∧ (w.drew.freeze ⟨g, 0, none⟩ l.length).tape = w.tape ∧ (w.drew.freeze ⟨g, 0, none⟩ l.length).output = w.output := by
      unfold World.freeze
      split
      · exact ⟨rfl, rfl, rfl, rfl⟩
      · exact ⟨Array.size_modify, rfl, rfl, rfl⟩
    have HF := (show Hid _ from And.intro hfr hfs)
    clear hfr hfs
    go_enter L.f169, Body.n169_ntmps ρ
    go_wp2
    go_region_o
    all_goals (go_wp2; go_ret; have ⟨hfr, hfs⟩ := HF.out; exact ⟨rfl, hfs.2.1, hfs.2.2.1, hfs.2.2.2, by rw [hfs.1]; exact Nat.le_refl _, fun j hj => by
      by_cases e : j = g
      · exact .inr (by rw [e])
      · exact .inl (hfr j e)⟩)
end Go.Pv


set_option linter.unusedVariables false
namespace Go.Pv
open Go.RowKit
variable [Globs]
def rowB (c : UInt8) : List PV := [.int .u8 c.toNat]
def bldC (T kb gb n : Nat) : Cont := ⟨T + 1, 0, [[.int .i64 T, .als kb gb 0 n]], 5⟩
omit [Globs] in
theorem flat_cells (E : Env) (l : List UInt8) : FlatRep E 0 1 (l.map rowB) (Lib.byteCells l) := by
  refine ⟨by simp [Lib.byteCells], fun row hr => ?_, fun i j row pv e1 e2 => ?_⟩
  · obtain ⟨c, _, rfl⟩ := List.mem_map.1 hr
    rfl
  · rw [List.getElem?_map, Option.map_eq_some_iff] at e1
    obtain ⟨c, h1, rfl⟩ := e1
    have hj : j = 0 := by
      rcases j with _ | j
      · rfl
      · simp [rowB] at e2
    subst hj
    simp only [rowB, List.getElem?_cons_zero, Option.some.injEq] at e2
    subst e2
    refine ⟨.int .u8 c.toNat, by simp [Lib.byteCells, h1], rfl, ?_⟩
    exact .int _ _
omit [Globs] in
theorem flat_bytes {E : Env} {l : List UInt8} {olds : List Value} (h : FlatRep E 0 1 (l.map rowB) olds) : olds = Lib.byteCells l := by
  have hl : olds.length = l.length := by have := h.len; simpa using this
  refine List.ext_getElem? fun i => ?_
  rcases Nat.lt_or_ge i l.length with hi | hi
  · obtain ⟨v, h1, _, h3⟩ := h.at_ i 0 (rowB l[i]) (.int .u8 l[i].toNat) (by simp [hi]) rfl
    rw [show i * 1 + 0 = i by omega] at h1
    rw [h1]
    have h3 : DRep _ _ _ _ := h3
    cases h3
    simp [Lib.byteCells, hi]
  · rw [List.getElem?_eq_none (by omega), List.getElem?_eq_none (by simp [Lib.byteCells]; omega)]
section
variable {P : Program} {L : Lay} {s : St}
theorem pw_at (id : Nat) {ops : Array Oper} {d : Bool} {Q : Exit → St → Prop} (h : PWP P L (.region id ops d) Q s) : PWP P L (.region id ops d) Q s := h
theorem whole_als {w : World} {e : TypeId} {blk blk2 : Option Nat} {n : Nat} {v : Value} {vals : List Value} (h : Whole w e 1 blk v n vals) : AlsAt w ⟨blk, e, 1, n⟩ 0 n v := by
  rcases h.2 with ⟨rfl, rfl, h0⟩ | ⟨b, cap, cur, rfl, rfl, f1, f2, f3, f4, f5⟩
  · exact .inl ⟨rfl, rfl, h0, rfl⟩
  · exact .inr ⟨b, cap, cur, rfl, by simp, f1, f2, f3, by rw [f4, Nat.zero_add], by simp⟩
theorem Sim.bld {C : Ctx} {γ : Nat → Option Nat} {a : Act} {w : World} (hs : Sim C γ s a w) {x : Operand} {k g T e kb gb n : Nat} {l : List UInt8} (hx : s.ev x = .mi k g) (ho : s.own k = (g, some (bldC T kb gb n))) (hob : s.own kb = (gb, some ⟨e, 1, l.map rowB, 0⟩)) (hn : n = l.length) :
    ∃ b p v, γ k = some b ∧ a.eval x = .pointer (some ⟨b, 0, none⟩) ∧ w.heap[b]? = some (.cells #[p, v] T (0, 0)) ∧ (p = .pointer none ∨ p = .pointer (some ⟨b, 0, none⟩)) ∧ Whole w e 1 (γ kb) v l.length (Lib.byteCells l) := by
  have hxr := hs.ev x
  rw [hx] at hxr
  obtain ⟨_, b, hb, hv⟩ := hs.mi_at hxr ho
  have hit := (hs.sites k _ (by rw [ho])).it b hb rfl (show (3:Nat) ≤ 5 by decide)
  obtain ⟨T', kb', gb', n', p, v, h1, h2, h3, h4⟩ : BldAt (envOf C γ s w) b (bldC T kb gb n).rows := hit
  simp only [bldC, List.cons.injEq, PV.int.injEq, PV.als.injEq, and_true, true_and, Int.natCast_inj] at h1
  obtain ⟨rfl, rfl, rfl, rfl⟩ := h1
  refine ⟨b, p, v, hb, hv, h2, h3, ?_⟩
  rcases hs.als_at h4 hob with ⟨h5, _, h6, rfl⟩ | ⟨b2, cap, cur, f1, rfl, f3, f4, f5, f6, f7⟩
  · have hl : l = [] := List.eq_nil_of_length_eq_zero (by omega)
    subst hl
    exact ⟨rfl, .inl ⟨h5, rfl, rfl⟩⟩
  · simp only at f1 f3 f4 f5 f6
    have hsite := hs.sites kb _ (by rw [hob])
    rw [f1] at hsite
    obtain ⟨cur', g1, g2, g3, g4⟩ := hsite.flat (show 0 < 1 by decide)
    have g1 : w.heap[b2]? = some (.cells cur' e (0, 0)) := g1
    rw [g1] at f3
    simp only [Option.some.injEq, Obj.cells.injEq, and_true] at f3
    subst f3
    have hbytes := flat_bytes g4
    refine ⟨by simp [Lib.byteCells], .inr ⟨b2, cap, cur', f1, by simp [hn], g1, by omega, f5, by omega, ?_⟩⟩
    simpa using hbytes
theorem sm_bnew {d : Nat} {ty : TypeId} {pos : String} {af : Array Edge} {T : TypeId} {K : St → Prop} (k kb : Nat) (e : TypeId) {gk gkb : Nat} {oc ocb : Option Cont} (hne : Nat.beq k kb = false) (ho : s.own k = (gk, oc)) (hob : s.own kb = (gkb, ocb))
    (hz : ((P.info? T).bind (·.zero)).map (·.cells) = some #[.pointer none, .slice none 0 0])
    (h : K (((s.setOwn kb (gkb + 1) (some ⟨e, 1, [], 0⟩)).setOwn k (gk + 1) (some (bldC T kb (gkb + 1) 0))).putR d (.mi k (gk + 1)))) : Sm P L s ⟨some d, .alloc T, ty, pos, af, none⟩ K := by
  intro C a w Q hG ⟨γ, hs⟩ hN
  have hkk : k ≠ kb := fun e => by rw [e] at hne; simp at hne
  obtain ⟨zv, hzv, hzc⟩ := Option.map_eq_some_iff.1 hz
  obtain ⟨i, hi, hiz⟩ := Option.bind_eq_some_iff.1 hzv
  have ht1 : Turn C γ s w w kb none := ⟨rfl, rfl, rfl, Nat.le_refl _, fun b _ => .inl rfl, fun b hb => by cases hb⟩
  have hs1 := ht1.sim hs (c := ⟨e, 1, [], 0⟩) (.none_ rfl)
  have hfin1 : s.fin kb ⟨e, 1, [], 0⟩ = s.setOwn kb (gkb + 1) (some ⟨e, 1, [], 0⟩) := by rw [St.fin, hob]
  rw [hfin1] at hs1
  have ht2 : Turn C (upg γ kb none) (s.setOwn kb (gkb + 1) (some ⟨e, 1, [], 0⟩)) w (w.alloc (.cells #[.pointer none, .slice none 0 0] T)) k (some w.heap.size) := Turn.alloc _ k
  have hfin2 : (s.setOwn kb (gkb + 1) (some ⟨e, 1, [], 0⟩)).fin k (bldC T kb (gkb + 1) 0) = (s.setOwn kb (gkb + 1) (some ⟨e, 1, [], 0⟩)).setOwn k (gk + 1) (some (bldC T kb (gkb + 1) 0)) := by
    rw [St.fin, setOwn_ne hkk, ho]
  have hs2 := ht2.sim hs1 (c := bldC T kb (gkb + 1) 0) ⟨(fun e => by cases e), (fun b' _ _ hk => by simp [bldC] at hk), (fun b' hb' _ _ => by
    simp at hb'; subst hb'
    show BldAt _ _ _
    refine ⟨T, kb, gkb + 1, 0, .pointer none, .slice none 0 0, rfl, heap_alloc_at _ _, .inl rfl, ?_⟩
    rw [hfin2]
    refine .als ?_ fun _ l hl => ?_
    · show _ ≤ (((s.setOwn kb (gkb + 1) (some ⟨e, 1, [], 0⟩)).setOwn k (gk + 1) (some (bldC T kb (gkb + 1) 0))).own kb).1
      rw [setOwn_ne (Ne.symm hkk), setOwn_same]; exact Nat.le_refl _
    · simp only [envOf, setOwn_ne (Ne.symm hkk), setOwn_same, upg_ne (Ne.symm hkk), upg_same, Option.map_some, Option.some.injEq] at hl
      subst hl
      exact .inl ⟨rfl, rfl, rfl, rfl⟩), (fun b' _ hz => by simp [bldC] at hz)⟩
  rw [hfin2] at hs2
  have hrun : (execOp a.eval ⟨some d, .alloc T, ty, pos, af, none⟩).run P w = .ok (.value (.pointer (some ⟨w.heap.size, 0, none⟩))) (w.alloc (.cells #[.pointer none, .slice none 0 0] T)) := by
    simp [execOp, Instr.alloc, zeroValue, typeInfo, hi, hiz, hzc, newVar, newRow]
  unfold Oper.wp
  rw [hrun, Oper.upon_value]
  refine ⟨_, ⟨_, hs2.put (d := some d) hN (.mi ?_ fun _ l hl => ?_)⟩, h⟩
  · show _ ≤ (((s.setOwn kb (gkb + 1) (some ⟨e, 1, [], 0⟩)).setOwn k (gk + 1) (some (bldC T kb (gkb + 1) 0))).own k).1
    rw [setOwn_same]; exact Nat.le_refl _
  · simp only [envOf, setOwn_same, upg_same, Option.map_some, Option.some.injEq] at hl
    subst hl
    exact ⟨rfl, _, rfl, rfl⟩
theorem sm_bwrite {d : Nat} {ty : TypeId} {pos : String} {af : Array Edge} {f : FuncId} {x y : Operand} {tys : Array TypeId} {K : St → Prop} {k g T e kb gb n : Nat} {l s2 : List UInt8} (hc : callable P f) (hw : WStr P f T e) (hTe : Nat.beq T e = false) (hne : Nat.beq k kb = false)
    (hx : s.ev x = .mi k g) (hy : s.ev y = .str s2) (ho : s.own k = (g, some (bldC T kb gb n))) (hob : s.own kb = (gb, some ⟨e, 1, l.map rowB, 0⟩)) (hn : n = l.length) (hlen : l.length + s2.length ≤ 140737488355328)
    (h : K (((s.setOwn kb (gb + 1) (some ⟨e, 1, (l ++ s2).map rowB, 0⟩)).setOwn k g (some (bldC T kb (gb + 1) (l ++ s2).length))).putR d (.tup [.int .i64 s2.length, .raw .nilIface]))) :
    Sm P L s ⟨some d, .call ⟨.value (.func f), #[x, y], tys⟩, ty, pos, af, none⟩ K := by
  intro C a w Q hG ⟨γ, hs⟩ hN
  have hkk : k ≠ kb := fun e => by rw [e] at hne; simp at hne
  have hTe' : T ≠ e := fun h => by rw [h] at hTe; simp at hTe
  obtain ⟨b, p, v, hb, hv, hheap, hp, hwh⟩ := hs.bld hx ho hob hn
  have hyv := hs.ev y
  rw [hy] at hyv
  have hyv := hyv.str_inv
  have hblt : b < w.heap.size := (Array.getElem?_eq_some_iff.1 hheap).1
  unfold Oper.wp
  rw [run_call (f := f) (a := a) (vs := []) rfl rfl hc, Oper.upon_enter]
  rw [show (((#[x, y] : Array Operand).toList.map a.eval ++ ([] : List Value)).toArray : Array Value) = #[Value.pointer (some ⟨b, 0, none⟩), Value.string ⟨s2.toArray⟩] by simp [hv, hyv]]
  refine (hw b p v (γ kb) l.length (Lib.byteCells l) ⟨s2.toArray⟩ w hheap hp hwh (by rw [bytes_size]; exact hlen)).mono ?_
  rintro _ w' ⟨rfl, v', blk', q1, q2, q3, q4, q5, q6, q7, q8⟩
  rw [bytes_size] at q2
  have hcells : Lib.byteCells l ++ Lib.strCells ⟨s2.toArray⟩ = Lib.byteCells (l ++ s2) := by
    simp [Lib.byteCells, Lib.strCells]
  rw [hcells] at q2
  have hll : (l ++ s2).length = l.length + s2.length := List.length_append
  obtain ⟨w1, hw1⟩ : ∃ w1 : World, w1 = { w' with heap := w'.heap.setIfInBounds b (.cells #[p, v] T) } := ⟨_, rfl⟩
  have hb1 : w1.heap[b]? = some (.cells #[p, v] T (0, 0)) := by rw [hw1]; exact (put_set q1).2
  have ho1 : ∀ j, j ≠ b → w1.heap[j]? = w'.heap[j]? := fun j hj => by rw [hw1]; exact (put_set q1).1.other j hj
  have hsz1 : w1.heap.size = w'.heap.size := by rw [hw1]; simp
  have hblk : ∀ j, blk' = some j → j ≠ b := by
    rintro j hj rfl
    rcases q2.2 with ⟨e1, _⟩ | ⟨b2, cap, cur, e1, _, e3, _⟩
    · rw [e1] at hj; cases hj
    · rw [e1] at hj; cases hj
      rw [q1] at e3
      simp only [Option.some.injEq, Obj.cells.injEq] at e3
      exact hTe' e3.2.1
  have hwh1 : Whole w1 e 1 blk' v' (l.length + s2.length) (Lib.byteCells (l ++ s2)) := whole_frame q2 fun j hj => ho1 j (hblk j hj)
  have ht : Turn C γ s w w1 kb blk' := by
    refine ⟨by rw [hw1]; exact q3, by rw [hw1]; exact q4, by rw [hw1]; exact q5, by rw [hsz1]; exact q6, fun j hj => ?_, fun j hj => ?_⟩
    · by_cases hjb : j = b
      · subst hjb; exact .inl (by rw [hb1, hheap])
      · rw [ho1 j hjb]
        exact (q7 j hj hjb).imp id fun h => ⟨by rw [hob]; rfl, h⟩
    · rw [hsz1]
      exact ⟨(q8 j hj).1, (q8 j hj).2.imp id fun h => ⟨by rw [hob]; rfl, h⟩⟩
  have hfin : s.fin kb ⟨e, 1, (l ++ s2).map rowB, 0⟩ = s.setOwn kb (gb + 1) (some ⟨e, 1, (l ++ s2).map rowB, 0⟩) := by rw [St.fin, hob]
  have hs1 := ht.sim hs (c := ⟨e, 1, (l ++ s2).map rowB, 0⟩) (by
    rcases hwh1.2 with ⟨e1, e2, e3⟩ | ⟨b2, cap, cur, e1, e2, e3, e4, e5, e6, e7⟩
    · have hnil : l ++ s2 = [] := List.eq_nil_of_length_eq_zero (by omega)
      rw [hnil, e1]; exact .none_ rfl
    · rw [e1]
      refine SiteOk.of_flat (flat_cells _ _) (by decide) e3 ?_ ?_
      · simp; omega
      · rw [List.length_map, hll]; exact e7)
  rw [hfin] at hs1
  have hput : Put w1 w' b := ⟨by rw [hw1], by rw [hw1], by rw [hw1], hsz1.symm, fun j hj => (ho1 j hj).symm⟩
  have hs2 := put_simT (c' := bldC T kb (gb + 1) (l ++ s2).length) hs1 (k := k) (g := g) (b := b) (c := bldC T kb gb n) (by rw [setOwn_ne hkk]; exact ho) (by rw [upg_ne hkk]; exact hb) (fun cur => by
    rw [hb1]
    intro h
    exact absurd (Obj.cells.inj (Option.some.inj h)).2.1 (by show ¬ T = T + 1; omega)) hput rfl rfl (Nat.le_refl _) ⟨(fun e => by cases e), (fun b' _ _ hk => by simp [bldC] at hk), (fun b' hb' _ _ => by
    simp at hb'; subst hb'
    show BldAt _ _ _
    refine ⟨T, kb, gb + 1, (l ++ s2).length, _, v', rfl, q1, .inr rfl, .als ?_ fun _ lc hl => ?_⟩
    · show _ ≤ (((s.setOwn kb (gb + 1) (some ⟨e, 1, (l ++ s2).map rowB, 0⟩)).setOwn k g (some (bldC T kb (gb + 1) (l ++ s2).length))).own kb).1
      rw [setOwn_ne (Ne.symm hkk), setOwn_same]; exact Nat.le_refl _
    · simp only [envOf, setOwn_ne (Ne.symm hkk), setOwn_same, upg_same, Option.map_some, Option.some.injEq] at hl
      subst hl
      rw [List.length_map, hll]
      exact whole_als (blk2 := none) q2), (fun b' _ hz => by simp [bldC] at hz)⟩
  refine ⟨_, ⟨_, hs2.put (d := some d) hN ?_⟩, h⟩
  refine .d (.tup _ [.int .i64 s2.length, .nilIface] rfl fun i c u e1 e2 => ?_)
  rcases i with _ | _ | i
  · simp at e1 e2; subst e1; subst e2; exact .int _ _
  · simp at e1 e2; subst e1; subst e2; exact .raw _
  · simp at e1
theorem sm_bread {d : Nat} {ty : TypeId} {pos : String} {af : Array Edge} {f : FuncId} {x : Operand} {tys : Array TypeId} {K : St → Prop} {k g T e kb gb n : Nat} {l : List UInt8} (hc : callable P f) (hw : SStr P f T e)
    (hx : s.ev x = .mi k g) (ho : s.own k = (g, some (bldC T kb gb n))) (hob : s.own kb = (gb, some ⟨e, 1, l.map rowB, 0⟩)) (hn : n = l.length)
    (h : K ((s.setOwn kb (gb + 1) (some ⟨e, 1, [], 0⟩)).putR d (.str l))) :
    Sm P L s ⟨some d, .call ⟨.value (.func f), #[x], tys⟩, ty, pos, af, none⟩ K := by
  intro C a w Q hG ⟨γ, hs⟩ hN
  obtain ⟨b, p, v, hb, hv, hheap, hp, hwh⟩ := hs.bld hx ho hob hn
  unfold Oper.wp
  rw [run_call (f := f) (a := a) (vs := []) rfl rfl hc, Oper.upon_enter]
  rw [show (((#[x] : Array Operand).toList.map a.eval ++ ([] : List Value)).toArray : Array Value) = #[Value.pointer (some ⟨b, 0, none⟩)] by simp [hv]]
  refine (hw b p v (γ kb) l w hheap hwh).mono ?_
  rintro _ w' ⟨rfl, q3, q4, q5, q6, q7⟩
  have ht : Turn C γ s w w' kb none := ⟨q3, q4, q5, q6, fun j hj => (q7 j hj).imp id fun h => ⟨by rw [hob]; rfl, h⟩, fun b hb => by cases hb⟩
  have hfin : s.fin kb ⟨e, 1, [], 0⟩ = s.setOwn kb (gb + 1) (some ⟨e, 1, [], 0⟩) := by rw [St.fin, hob]
  have hs1 := ht.sim hs (c := ⟨e, 1, [], 0⟩) (.none_ rfl)
  rw [hfin] at hs1
  exact ⟨_, ⟨_, hs1.put (d := some d) hN (.d (.str _))⟩, h⟩
end
end Go.Pv


set_option maxHeartbeats 2000000
namespace Go.Pv
attribute [local irreducible] PWP POps PQuiet PSem XThen XBlock RetPost InlPost
open Go.Proofs
theorem wstr78 : WStr Tryz.prog 78 141 5 := wstr { Tryz.lays156 with } Tryz.Builder_Extra_156
theorem sstr79 : SStr Tryz.prog 79 141 5 := sstr Tryz.lays169 Tryz.Builder_Extra_169
def jrnS (q : Str × Int) (p : SPost) : Str × Int := (q.1 ++ lineT q.2 (textP p), sumF q.2 (textP p))
def jrnF (l : List SPost) : Str × Int := l.foldl jrnS ([], 1)
theorem jrn_snoc (l : List SPost) (p : SPost) : jrnF (l ++ [p]) = jrnS (jrnF l) p := by rw [jrnF, List.foldl_append]; rfl
theorem jrn_next {l : List SPost} {k : Nat} {p : SPost} (h : l[k]? = some p) : jrnF (l.take (k + 1)) = jrnS (jrnF (l.take k)) p := by rw [take_snoc h, jrn_snoc]
theorem line_len {n : Int} {t : Str} (h0 : 0 ≤ n) (h1 : n < 65521) (ht : t.length ≤ 200) : (lineT n t).length ≤ 250 := by
  have hr := sumF_range t h0 h1
  have := itoa_short (v := sumF n t) (by omega) (by omega)
  simp only [lineT, List.length_append, List.length_cons, List.length_nil]
  omega
theorem jrn_fine {l : List SPost} (h : ∀ p ∈ l, checkE p = 0) : ∀ k, k ≤ l.length → 0 ≤ (jrnF (l.take k)).2 ∧ (jrnF (l.take k)).2 < 65521 ∧ (jrnF (l.take k)).1.length ≤ 250 * k
  | 0, _ => ⟨by simp [jrnF], by simp [jrnF], by simp [jrnF]⟩
  | k + 1, hk => by
    obtain ⟨h1, h2, h3⟩ := jrn_fine h k (by omega)
    have hx : l[k]? = some l[k] := List.getElem?_eq_getElem (by omega)
    have hc := h l[k] (by simp)
    have hp := text_short hc
    have hr := sumF_range (textP l[k]) h1 h2
    have hl := line_len h1 h2 hp
    rw [jrn_next hx]
    refine ⟨hr.1, hr.2, ?_⟩
    simp only [jrnS, List.length_append]
    omega
set_option maxRecDepth 20000 in
theorem journal_ret (l : List SPost) (hc : ∀ p ∈ l, checkE p = 0) (hl : l.length ≤ 1000000) : Ret Tryz.prog .shared 23 [.dref (eBook l) 0] (.str (jrnF l).1) := by
  have hll : ((l.map ePost).length : Int) = l.length := by simp
  refine Ret.of_pwp layOk mixed Go.Proofs.Tryz.func23 rfl (by decide) rfl rfl ?_
  ((repeat ((fail_if_success (with_reducible refine pw_at 3 ?_)); (refine stp rfl ?_ ?_;·repeat' (first|exact True.intro|exact rfl|refine And.intro ?_ ?_)))); refine pw_regionS 0 ?_)
  refine ps_nil ?_
  refine psem_sm rfl (sm_bnew 3 1003 5 rfl rfl rfl (by kernel_rfl) ?_)
  refine psem_ops ?_
  repeat (refine stp rfl ?_ ?_;·repeat' constructor)
  refine pw_loop (fun k => k ≤ l.length) (fun k => [(3, .mi 3 1), (4, I (jrnF (l.take k)).2), (14, .sl (l.map ePost)), (15, I (l.map ePost).length), (16, I k)])
    (fun k => [(3, 1, bldC 141 1003 (1 + k) (jrnF (l.take k)).1.length), (1003, 1 + k, ⟨5, 1, (jrnF (l.take k)).1.map rowB, 0⟩)]) (fun k => l.length - k) 0 (Nat.zero_le _) ⟨rfl, rfl, rfl, rfl, rfl, rfl, rfl, trivial⟩ ?_
  intro k st hk
  have hf := jrn_fine hc k hk
  repeat (refine stp rfl ?_ ?_;·repeat' constructor)
  refine pw_cond rfl (fun h => ?_) (fun h => ?_)
  · have hlt : k < l.length := by have := of_decide_eq_true h; omega
    clear h
    obtain ⟨p, hx⟩ := get_lt hlt
    have hcp := hc p (List.mem_of_getElem? hx)
    have hcall := line_ret p (jrnF (l.take k)).2 hcp hf.1 hf.2.1
    have hll := line_len hf.1 hf.2.1 (text_short hcp)
    have hnx := jrn_next hx
    rw [jrnS] at hnx
    generalize jrnF (l.take k) = q at *
    generalize lineT q.2 (textP p) = t at *
    generalize sumF q.2 (textP p) = m at *
    repeat (refine stp rfl ?_ ?_;·repeat' constructor)
    apply qst;exact rfl;exact rfl;exact q_idxm rfl rfl rfl rfl rfl (by omega) hx rfl
    repeat (refine stp rfl ?_ ?_;·repeat' constructor)
    apply qst;exact rfl;exact rfl;exact q_callP rfl (hcall) rfl (by repeat' constructor) rfl rfl
    ((repeat ((fail_if_success (with_reducible refine pw_at 9 ?_)); (refine stp rfl ?_ ?_;·repeat' (first|exact True.intro|exact rfl|refine And.intro ?_ ?_)))); refine pw_regionS 1 ?_)
    iterate 1 (refine stp rfl ?_ ?_;·repeat' constructor)
    refine ps_nil ?_
    refine psem_sm rfl (sm_bwrite (T := 141) (e := 5) ⟨_, Go.Proofs.Tryz.func78, by decide, rfl⟩ wstr78 rfl rfl rfl rfl rfl rfl rfl (by omega) ?_)
    refine psem_ops ?_
    repeat (refine stp rfl ?_ ?_;·repeat' constructor)
    refine ⟨k + 1, by omega, by omega, ?_⟩
    rw [hnx]
    exact ⟨rfl, rfl, rfl, rfl, i64_next (by omega) (by omega), rfl, rfl, trivial⟩
  · have hz : k = l.length := by have := of_decide_eq_false h; omega
    subst hz
    rw [List.take_length] at *
    ((repeat ((fail_if_success (with_reducible refine pw_at 12 ?_)); (refine stp rfl ?_ ?_;·repeat' (first|exact True.intro|exact rfl|refine And.intro ?_ ?_)))); refine pw_regionS 0 ?_)
    refine ps_nil ?_
    refine psem_sm rfl (sm_bread (T := 141) (e := 5) ⟨_, Go.Proofs.Tryz.func79, by decide, rfl⟩ sstr79 rfl rfl rfl rfl ?_)
    refine psem_ops ?_
    repeat (refine stp rfl ?_ ?_;·repeat' constructor)
    exact end1 rfl rfl rfl trivial rfl
end Go.Pv


set_option maxHeartbeats 2000000
namespace Go.Pv
attribute [local irreducible] PWP POps PQuiet PSem XThen XBlock RetPost InlPost
open Go.Proofs Go.RowKit
theorem maxG : Tryz.prog.globalNamed "internal/bytealg.MaxLen" = some 2 := by kernel_rfl
theorem cut_mark (s sep : Str) (hs : s.length ≤ 1000000) : Ret Tryz.prog .shared 75 [.str s, .str sep] (.tup [.str (Lib.cut s sep).1, .str (Lib.cut s sep).2.1, .bool (Lib.cut s sep).2.2]) := by
  refine ⟨⟨_, Go.Proofs.Tryz.func75, by decide, rfl⟩, fun w X args hg hX hl hargs => ?_⟩
  match args, hl with
  | [v, u], _ =>
    have hv := hargs 0 _ v rfl rfl
    have hu := hargs 1 _ u rfl rfl
    cases hv
    cases hu
    obtain ⟨g, m, h1, h2⟩ := max_of hg
    have hg2 : g = 2 := Option.some.inj (h1.symm.trans maxG)
    subst hg2
    refine (Go.Proofs.Tryz.strings_Cut ⟨s.toArray⟩ ⟨sep.toArray⟩ m w (by rw [bytes_size]; omega) h2).mono ?_
    rintro e w' ⟨rfl, n, rfl⟩
    refine ⟨_, rfl, ⟨rfl, rfl, rfl, Nat.le_refl _, fun _ _ => rfl⟩, ?_⟩
    refine .tup _ [.string ⟨(Lib.cut s sep).1.toArray⟩, .string ⟨(Lib.cut s sep).2.1.toArray⟩, .bool (Lib.cut s sep).2.2] rfl fun i c u e1 e2 => ?_
    rcases i with _ | _ | _ | i
    · simp at e1 e2; subst e1; subst e2; exact .str _
    · simp at e1 e2; subst e1; subst e2; exact .str _
    · simp at e1 e2; subst e1; subst e2; exact .bool _
    · simp at e1
section
variable {P : Program} {L : Lay} {s : St} {T : TypeId} {d : Nat} {x lo hi : Operand} {r : LRow} {ty : TypeId} {pos : String} {af : Array Edge} {g : Option (Nat × Bool)}
theorem q_ssH [Globs] {kh : IntKind} {b : Int} {l : List UInt8} (hL : LOk P L) (hr : L T = some r) (hs : r.sh = .str) (hx : s.ev x = .str l) (hhi : s.ev hi = .int kh b) (h1 : 0 ≤ b) (h2 : b ≤ l.length) :
    QOp P L s ⟨some d, .slice T x none (some hi) none, ty, pos, af, g⟩ (.str (l.take b.toNat)) := by
  refine .semF (v := .string ⟨(l.take b.toNat).toArray⟩) (by simp [Op.operands]) (fun y hy => ?_) (fun ev w _ he => ?_) fun _ _ => .str _
  · simp [Op.operands] at hy
    rcases hy with rfl | rfl
    · rw [hx]; exact ⟨_, rfl⟩
    · rw [hhi]; exact ⟨_, rfl⟩
  · have e1 := he x (by simp [Op.operands])
    have e3 := he hi (by simp [Op.operands])
    rw [hx] at e1
    rw [hhi] at e3
    have e1 : ev x = .string ⟨l.toArray⟩ := (Option.some.inj e1).symm
    have e3 : ev hi = .int kh b := (Option.some.inj e3).symm
    have hu : P.underlying T = some .string := und_str (hL T r hr) hs
    have hsz : (⟨l.toArray⟩ : ByteArray).size = l.length := by simp [ByteArray.size]
    simp only [execOp, Option.map_some, Option.map_none, e1, e3]
    refine wrapW ?_
    rw [run_sliceAt_string w _ _ _ _ _ hu]
    have eb : (b.toNat : Int) = b := by omega
    simp [Instr.slice, run_underlying hu, Instr.sliceBounds, run_sliceBound, hsz, bytes_cut, h1, h2, eb]
theorem q_ssT [Globs] {kl : IntKind} {a : Int} {l : List UInt8} (hL : LOk P L) (hr : L T = some r) (hs : r.sh = .str) (hx : s.ev x = .str l) (hlo : s.ev lo = .int kl a) (h0 : 0 ≤ a) (h1 : a ≤ l.length) :
    QOp P L s ⟨some d, .slice T x (some lo) none none, ty, pos, af, g⟩ (.str (l.drop a.toNat)) := by
  refine .semF (v := .string ⟨(l.drop a.toNat).toArray⟩) (by simp [Op.operands]) (fun y hy => ?_) (fun ev w _ he => ?_) fun _ _ => .str _
  · simp [Op.operands] at hy
    rcases hy with rfl | rfl
    · rw [hx]; exact ⟨_, rfl⟩
    · rw [hlo]; exact ⟨_, rfl⟩
  · have e1 := he x (by simp [Op.operands])
    have e2 := he lo (by simp [Op.operands])
    rw [hx] at e1
    rw [hlo] at e2
    have e1 : ev x = .string ⟨l.toArray⟩ := (Option.some.inj e1).symm
    have e2 : ev lo = .int kl a := (Option.some.inj e2).symm
    have hu : P.underlying T = some .string := und_str (hL T r hr) hs
    have hsz : (⟨l.toArray⟩ : ByteArray).size = l.length := by simp [ByteArray.size]
    simp only [execOp, Option.map_some, Option.map_none, e1, e2]
    refine wrapW ?_
    rw [run_sliceAt_string w _ _ _ _ _ hu]
    have ea : (a.toNat : Int) = a := by omega
    have et : (l.drop a.toNat).take (l.length - a.toNat) = l.drop a.toNat := List.take_of_length_le (by simp)
    simp [Instr.slice, run_underlying hu, Instr.sliceBounds, run_sliceBound, hsz, bytes_cut, h0, h1, ea, et]
end
end Go.Pv

