/- Texts of one hand, gathered: SeM, SeE, SeF, SeN, SeD, SeG, SeH, SeI, SeJ, SeK. -/
import Derived.Test.YtfnjhhndbgidmaaEx4
import Derived.KernelRfl
/- Which items exclude each other: the reference's answer. -/
set_option maxHeartbeats 2000000
namespace Go.Pv
attribute [local irreducible] PWP POps PQuiet PSem XThen XBlock RetPost InlPost
open Go.Proofs

theorem nearP_02 (w : SWork) (a b : Str) : (nearP w a b = 0 ∧ a = b) ∨ ((nearP w a b = 1 ∨ nearP w a b = 2) ∧ a ≠ b) := by
  unfold nearP
  split
  · exact .inl ⟨rfl, ‹_›⟩
  · split
    · exact .inr ⟨.inl rfl, ‹_›⟩
    · exact .inr ⟨.inr rfl, ‹_›⟩
set_option maxRecDepth 20000 in
theorem excl_ref (w : SWork) (hw : Sane w) (hv : Well w) (hz : workE w = 0) (x y : SItem) (hx : x ∈ w.items) (hy : y ∈ w.items) : Ret Try.prog .shared 25 [.agg (eWork w), .agg (eItem x), .agg (eItem y)] (.bool (exclP w x y)) := by
  have h4 := hw.excls
  have hml : ((w.excls.map eExcl).length : Int) = w.excls.length := by simp
  have hix := hv.item x hx
  have hiy := hv.item y hy
  refine Ret.of_pwp layOk mixed Go.Proofs.Try.func25 rfl (by decide) rfl rfl ?_
  repeat (first|refine pq_end rfl ?_|(refine zs rfl ?_ ?_;·repeat' constructor)|(refine zq rfl ?_ ?_;·repeat' constructor)|refine zw rfl ?_|refine zx rfl ?_|refine zb rfl ?_)
  (first | refine ps_split rfl rfl (fun h => ?_) (fun h => ?_) | refine pq_split rfl rfl (fun h => ?_) (fun h => ?_))
  · have h1 := of_decide_eq_true h
    clear h
    repeat (first|refine pq_end rfl ?_|(refine zs rfl ?_ ?_;·repeat' constructor)|(refine zq rfl ?_ ?_;·repeat' constructor)|refine zw rfl ?_|refine zx rfl ?_|refine zb rfl ?_)
    exact end1b rfl rfl (by simp [exclP, h1])
  have h1 := of_decide_eq_false h
  clear h
  repeat (first|refine pq_end rfl ?_|(refine zs rfl ?_ ?_;·repeat' constructor)|(refine zq rfl ?_ ?_;·repeat' constructor)|refine zw rfl ?_|refine zx rfl ?_|refine zb rfl ?_)
  (first | refine ps_split rfl rfl (fun h => ?_) (fun h => ?_) | refine pq_split rfl rfl (fun h => ?_) (fun h => ?_))
  · have h2 := of_decide_eq_true h
    clear h
    repeat (first|refine pq_end rfl ?_|(refine zs rfl ?_ ?_;·repeat' constructor)|(refine zq rfl ?_ ?_;·repeat' constructor)|refine zw rfl ?_|refine zx rfl ?_|refine zb rfl ?_)
    exact end1b rfl rfl (by simp [exclP, h2])
  have h2 := of_decide_eq_false h
  clear h
  repeat (first|refine pq_end rfl ?_|(refine zs rfl ?_ ?_;·repeat' constructor)|(refine zq rfl ?_ ?_;·repeat' constructor)|refine zw rfl ?_|refine zx rfl ?_|refine zb rfl ?_)
  refine pw_cond rfl (fun h => ?_) (fun h => ?_)
  · have h3 := of_decide_eq_true h
    clear h
    repeat (first|refine pq_end rfl ?_|(refine zs rfl ?_ ?_;·repeat' constructor)|(refine zq rfl ?_ ?_;·repeat' constructor)|refine zw rfl ?_|refine zx rfl ?_|refine zb rfl ?_)
    exact end1b rfl rfl (by simp [exclP, h3])
  have h3 := of_decide_eq_false h
  clear h
  have hP : exclP w x y = w.excls.any (exclB w x y) := by simp [exclP, h1, h2, h3]
  obtain ⟨sx, hsx⟩ := spaceAt_of (hix.space (hix.kspace (by omega)))
  obtain ⟨sy, hsy⟩ := spaceAt_of (hiy.space (hiy.kspace (by omega)))
  repeat (first|refine pq_end rfl ?_|(refine zs rfl ?_ ?_;·repeat' constructor)|(refine zq rfl ?_ ?_;·repeat' constructor)|refine zw rfl ?_|refine zx rfl ?_|refine zb rfl ?_)
  refine pw_loop (Clear w.excls (exclB w x y)) (fun k => [(3, .ptr 3 1 0 0), (4, .ptr 4 1 0 0), (5, .ptr 5 1 0 0), (7, I k)]) (fun _ => [(3, 1, ⟨28, 9, [eWork w], 2⟩), (4, 1, ⟨57, 7, [eItem x], 2⟩), (5, 1, ⟨57, 7, [eItem y], 2⟩)])
    (fun k => w.excls.length - k) 0 .zero ⟨rfl, rfl, rfl, rfl, rfl, rfl, rfl, trivial⟩ ?_
  intro k s hk
  repeat (first|refine pq_end rfl ?_|(refine zs rfl ?_ ?_;·repeat' constructor)|(refine zq rfl ?_ ?_;·repeat' constructor)|refine zw rfl ?_|refine zx rfl ?_|refine zb rfl ?_)
  refine pw_cond rfl (fun h => ?_) (fun h => ?_)
  · have hlt : k < w.excls.length := by simpa using h
    obtain ⟨e, he⟩ := get_lt hlt
    clear h
    have heo := hv.excl e (List.mem_of_getElem? he)
    have hnp := nearP_02 w x.space y.space
    repeat (first|refine pq_end rfl ?_|(refine zs rfl ?_ ?_;·repeat' constructor)|(refine zq rfl ?_ ?_;·repeat' constructor)|refine zw rfl ?_|refine zx rfl ?_|refine zb rfl ?_)
    (first|refine zsq rfl (q_idxm rfl rfl rfl rfl rfl (by omega) he rfl) ?_|refine zqq rfl (q_idxm rfl rfl rfl rfl rfl (by omega) he rfl) ?_)
    repeat (first|refine pq_end rfl ?_|(refine zs rfl ?_ ?_;·repeat' constructor)|(refine zq rfl ?_ ?_;·repeat' constructor)|refine zw rfl ?_|refine zx rfl ?_|refine zb rfl ?_)
    refine ps_cut 100 [(3, .ptr 3 1 0 0), (4, .ptr 4 1 0 0), (5, .ptr 5 1 0 0), (7, I k), (8, .ptr 8 ((s.own 8).1 + 1) 0 0), (62, .bool (!exclK x y e))] [(3, 1, ⟨28, 9, [eWork w], 2⟩), (4, 1, ⟨57, 7, [eItem x], 2⟩), (5, 1, ⟨57, 7, [eItem y], 2⟩), (8, (s.own 8).1 + 1, ⟨117, 3, [eExcl e], 2⟩)] ?_ ?_
    · repeat' (first|refine pq_end rfl ?_|(refine zs rfl ?_ ?_;·repeat' constructor)|(refine zq rfl ?_ ?_;·repeat' constructor)|refine zw rfl ?_|refine zx rfl ?_|refine zb rfl ?_|refine ps_split rfl rfl (fun h => ?_) (fun h => ?_)|refine pq_split rfl rfl (fun h => ?_) (fun h => ?_))
      all_goals exact ⟨rfl, rfl, rfl, rfl, rfl, (congrArg PV.bool (by simp_all [exclK])), rfl, rfl, rfl, rfl, trivial⟩
    intro s2
    repeat (first|refine pq_end rfl ?_|(refine zs rfl ?_ ?_;·repeat' constructor)|(refine zq rfl ?_ ?_;·repeat' constructor)|refine zw rfl ?_|refine zx rfl ?_|refine zb rfl ?_)
    refine pw_cond rfl (fun h => ?_) (fun h => ?_)
    · have hK : exclK x y e = false := by simpa using h
      repeat (first|refine pq_end rfl ?_|(refine zs rfl ?_ ?_;·repeat' constructor)|(refine zq rfl ?_ ?_;·repeat' constructor)|refine zw rfl ?_|refine zx rfl ?_|refine zb rfl ?_)
      exact ⟨k + 1, hk.succ he (by simp [exclB, hK]), by omega, rfl, rfl, rfl, i64_next (by omega) (by omega), rfl, rfl, rfl, trivial⟩
    · have hK : exclK x y e = true := by simpa using h
      clear h
      repeat (first|refine pq_end rfl ?_|(refine zs rfl ?_ ?_;·repeat' constructor)|(refine zq rfl ?_ ?_;·repeat' constructor)|refine zw rfl ?_|refine zx rfl ?_|refine zb rfl ?_)
      refine ps_cut 100 [(3, .ptr 3 1 0 0), (4, .ptr 4 1 0 0), (5, .ptr 5 1 0 0), (7, I k), (85, .bool (decide (nearP w x.space y.space ≤ e.reach)))] [(3, 1, ⟨28, 9, [eWork w], 2⟩), (4, 1, ⟨57, 7, [eItem x], 2⟩), (5, 1, ⟨57, 7, [eItem y], 2⟩)] ?_ ?_
      · (first | refine ps_split rfl rfl (fun h => ?_) (fun h => ?_) | refine pq_split rfl rfl (fun h => ?_) (fun h => ?_))
        · have g1 := of_decide_eq_true h
          clear h
          repeat (first|refine pq_end rfl ?_|(refine zs rfl ?_ ?_;·repeat' constructor)|(refine zq rfl ?_ ?_;·repeat' constructor)|refine zw rfl ?_|refine zx rfl ?_|refine zb rfl ?_)
          exact ⟨rfl, rfl, rfl, rfl, (congrArg PV.bool (by symm; rw [decide_eq_true_eq]; omega)), rfl, rfl, rfl, trivial⟩
        have g1 := of_decide_eq_false h
        clear h
        repeat (first|refine pq_end rfl ?_|(refine zs rfl ?_ ?_;·repeat' constructor)|(refine zq rfl ?_ ?_;·repeat' constructor)|refine zw rfl ?_|refine zx rfl ?_|refine zb rfl ?_)
        (first | refine ps_split rfl rfl (fun h => ?_) (fun h => ?_) | refine pq_split rfl rfl (fun h => ?_) (fun h => ?_))
        · have g2 := of_decide_eq_true h
          clear h
          repeat (first|refine pq_end rfl ?_|(refine zs rfl ?_ ?_;·repeat' constructor)|(refine zq rfl ?_ ?_;·repeat' constructor)|refine zw rfl ?_|refine zx rfl ?_|refine zb rfl ?_)
          exact ⟨rfl, rfl, rfl, rfl, (congrArg PV.bool (by symm; rw [decide_eq_true_eq]; exact hnp.elim (fun h => by omega) fun h => absurd g2 h.2)), rfl, rfl, rfl, trivial⟩
        have g2 := of_decide_eq_false h
        clear h
        repeat (first|refine pq_end rfl ?_|(refine zs rfl ?_ ?_;·repeat' constructor)|(refine zq rfl ?_ ?_;·repeat' constructor)|refine zw rfl ?_|refine zx rfl ?_|refine zb rfl ?_)
        (first | refine ps_split rfl rfl (fun h => ?_) (fun h => ?_) | refine pq_split rfl rfl (fun h => ?_) (fun h => ?_))
        · have g3 := of_decide_eq_true h
          clear h
          repeat (first|refine pq_end rfl ?_|(refine zs rfl ?_ ?_;·repeat' constructor)|(refine zq rfl ?_ ?_;·repeat' constructor)|refine zw rfl ?_|refine zx rfl ?_|refine zb rfl ?_)
          (first|refine zsq rfl (q_callP rfl (near_ref w hw hz hw.next hsx hsy) rfl (by repeat' constructor) rfl rfl) ?_|refine zqq rfl (q_callP rfl (near_ref w hw hz hw.next hsx hsy) rfl (by repeat' constructor) rfl rfl) ?_)
          repeat (first|refine pq_end rfl ?_|(refine zs rfl ?_ ?_;·repeat' constructor)|(refine zq rfl ?_ ?_;·repeat' constructor)|refine zw rfl ?_|refine zx rfl ?_|refine zb rfl ?_)
          exact ⟨rfl, rfl, rfl, rfl, (congrArg PV.bool (by rw [g3])), rfl, rfl, rfl, trivial⟩
        · have g3 := of_decide_eq_false h
          clear h
          repeat (first|refine pq_end rfl ?_|(refine zs rfl ?_ ?_;·repeat' constructor)|(refine zq rfl ?_ ?_;·repeat' constructor)|refine zw rfl ?_|refine zx rfl ?_|refine zb rfl ?_)
          exact ⟨rfl, rfl, rfl, rfl, (congrArg PV.bool (by symm; rw [decide_eq_false_iff_not]; exact hnp.elim (fun h => absurd h.2 g2) fun h => by omega)), rfl, rfl, rfl, trivial⟩
      intro s3
      repeat (first|refine pq_end rfl ?_|(refine zs rfl ?_ ?_;·repeat' constructor)|(refine zq rfl ?_ ?_;·repeat' constructor)|refine zw rfl ?_|refine zx rfl ?_|refine zb rfl ?_)
      refine pw_cond rfl (fun h => ?_) (fun h => ?_)
      · have hB : exclB w x y e = true := by rw [exclB, hK]; exact h
        repeat (first|refine pq_end rfl ?_|(refine zs rfl ?_ ?_;·repeat' constructor)|(refine zq rfl ?_ ?_;·repeat' constructor)|refine zw rfl ?_|refine zx rfl ?_|refine zb rfl ?_)
        exact end1b rfl rfl (by rw [hP, any_of he hB])
      · have hB : exclB w x y e = false := by rw [exclB, hK]; exact h
        repeat (first|refine pq_end rfl ?_|(refine zs rfl ?_ ?_;·repeat' constructor)|(refine zq rfl ?_ ?_;·repeat' constructor)|refine zw rfl ?_|refine zx rfl ?_|refine zb rfl ?_)
        exact ⟨k + 1, hk.succ he hB, by omega, rfl, rfl, rfl, i64_next (by omega) (by omega), rfl, rfl, rfl, trivial⟩
  · have hge : ¬ k < w.excls.length := by simpa using h
    repeat (first|refine pq_end rfl ?_|(refine zs rfl ?_ ?_;·repeat' constructor)|(refine zq rfl ?_ ?_;·repeat' constructor)|refine zw rfl ?_|refine zx rfl ?_|refine zb rfl ?_)
    exact end1b rfl rfl (by rw [hP, hk.any hge])
end Go.Pv

/- Plain work. -/
set_option maxHeartbeats 2000000
namespace Go.Pv
attribute [local irreducible] PWP POps PQuiet PSem XThen XBlock RetPost InlPost
open Go.Proofs

def longS (s : Str) : Bool := decide (40 < s.length)
def badT (t : STrade) : Bool := longS t.name
def badS (x : SSpace) : Bool := longS x.name || decide (20 < x.next.length) || x.next.any longS
def badI (x : SItem) : Bool := longS x.name || longS x.trade || longS x.space || decide (6 < x.modes.length) || decide (12 < x.after.length) || x.after.any longS
def badW (w : SWork) (most : Int) : Bool := decide (8 < w.trades.length) || decide (14 < w.spaces.length) || decide (32 < w.excls.length) || decide (22 < w.outs.length) || (decide (most < w.items.length) && decide (w.items.length ≤ 40)) || decide (45 < w.items.length)
def plainB (w : SWork) (most : Int) : Bool := !(badW w most || w.trades.any badT || w.spaces.any badS || w.items.any badI)

theorem int_lt {a b : Nat} : decide ((a : Int) < (b : Int)) = decide (a < b) := by
  by_cases h : a < b
  · rw [decide_eq_true h, decide_eq_true (by omega)]
  · rw [decide_eq_false h, decide_eq_false (by omega)]

theorem plain_ret (w : SWork) (most : Int) : Ret Try.prog .shared 11 [.agg (eWork w), I most] (.bool (plainB w most)) := by
  have e1 : (w.trades.map eTrade).length = w.trades.length := by simp
  have e2 : (w.spaces.map eSpace).length = w.spaces.length := by simp
  have e3 : (w.excls.map eExcl).length = w.excls.length := by simp
  have e4 : (w.outs.map eOut).length = w.outs.length := by simp
  have e5 : (w.items.map eItem).length = w.items.length := by simp
  refine Ret.of_pwp layOk mixed Go.Proofs.Try.func11 rfl (by decide) rfl rfl ?_
  repeat (first|refine pq_end rfl ?_|(refine zs rfl ?_ ?_;·repeat' constructor)|(refine zq rfl ?_ ?_;·repeat' constructor)|refine zw rfl ?_|refine zx rfl ?_|refine zb rfl ?_)
  refine ps_cut 100 [(2, .ptr 2 1 0 0), (49, .bool (badW w most))] [(2, 1, ⟨28, 9, [eWork w], 2⟩)] ?_ ?_
  · repeat' (first|refine pq_end rfl ?_|(refine zs rfl ?_ ?_;·repeat' constructor)|(refine zq rfl ?_ ?_;·repeat' constructor)|refine zw rfl ?_|refine zx rfl ?_|refine zb rfl ?_|refine ps_split rfl rfl (fun h => ?_) (fun h => ?_)|refine pq_split rfl rfl (fun h => ?_) (fun h => ?_))
    all_goals
      refine ⟨rfl, congrArg PV.bool ?_, rfl, trivial⟩
      simp only [e1, e2, e3, e4, e5] at *
      rw [Bool.eq_iff_iff]
      simp only [badW, Bool.or_eq_true, Bool.and_eq_true, decide_eq_true_eq, decide_eq_false_iff_not, true_iff, iff_true, Bool.false_eq_true, false_iff] at *
      omega
  intro s
  repeat (first|refine pq_end rfl ?_|(refine zs rfl ?_ ?_;·repeat' constructor)|(refine zq rfl ?_ ?_;·repeat' constructor)|refine zw rfl ?_|refine zx rfl ?_|refine zb rfl ?_)
  refine pw_cond rfl (fun h => ?_) (fun h => ?_)
  · have hb : badW w most = true := h
    repeat (first|refine pq_end rfl ?_|(refine zs rfl ?_ ?_;·repeat' constructor)|(refine zq rfl ?_ ?_;·repeat' constructor)|refine zw rfl ?_|refine zx rfl ?_|refine zb rfl ?_)
    exact end1b rfl rfl (by rw [plainB, hb]; rfl)
  have hb : badW w most = false := h
  have hsm : w.trades.length ≤ 8 ∧ w.spaces.length ≤ 14 ∧ w.items.length ≤ 45 := by
    simp only [badW, Bool.or_eq_false_iff, decide_eq_false_iff_not] at hb
    omega
  clear h
  repeat (first|refine pq_end rfl ?_|(refine zs rfl ?_ ?_;·repeat' constructor)|(refine zq rfl ?_ ?_;·repeat' constructor)|refine zw rfl ?_|refine zx rfl ?_|refine zb rfl ?_)
  refine pw_loop (Clear w.trades badT) (fun k => [(2, .ptr 2 1 0 0), (5, I k)]) (fun _ => [(2, 1, ⟨28, 9, [eWork w], 2⟩)]) (fun k => w.trades.length - k) 0 .zero ⟨rfl, rfl, rfl, trivial⟩ ?_
  intro k s hk
  repeat (first|refine pq_end rfl ?_|(refine zs rfl ?_ ?_;·repeat' constructor)|(refine zq rfl ?_ ?_;·repeat' constructor)|refine zw rfl ?_|refine zx rfl ?_|refine zb rfl ?_)
  refine pw_cond rfl (fun h => ?_) (fun h => ?_)
  · have hlt : k < w.trades.length := by simpa using h
    obtain ⟨t, ht⟩ := get_lt hlt
    clear h
    repeat (first|refine pq_end rfl ?_|(refine zs rfl ?_ ?_;·repeat' constructor)|(refine zq rfl ?_ ?_;·repeat' constructor)|refine zw rfl ?_|refine zx rfl ?_|refine zb rfl ?_)
    (first|refine zsq rfl (q_idxm rfl rfl rfl rfl rfl (by omega) ht rfl) ?_|refine zqq rfl (q_idxm rfl rfl rfl rfl rfl (by omega) ht rfl) ?_)
    repeat (first|refine pq_end rfl ?_|(refine zs rfl ?_ ?_;·repeat' constructor)|(refine zq rfl ?_ ?_;·repeat' constructor)|refine zw rfl ?_|refine zx rfl ?_|refine zb rfl ?_)
    refine pw_cond rfl (fun h => ?_) (fun h => ?_)
    · have hbad : badT t = true := by have := of_decide_eq_true h; simp [badT, longS]; omega
      repeat (first|refine pq_end rfl ?_|(refine zs rfl ?_ ?_;·repeat' constructor)|(refine zq rfl ?_ ?_;·repeat' constructor)|refine zw rfl ?_|refine zx rfl ?_|refine zb rfl ?_)
      exact end1b rfl rfl (by rw [plainB, any_of ht hbad]; simp)
    · have hok : badT t = false := by have := of_decide_eq_false h; simp [badT, longS]; omega
      repeat (first|refine pq_end rfl ?_|(refine zs rfl ?_ ?_;·repeat' constructor)|(refine zq rfl ?_ ?_;·repeat' constructor)|refine zw rfl ?_|refine zx rfl ?_|refine zb rfl ?_)
      refine ⟨k + 1, hk.succ ht hok, by omega, rfl, ?_, rfl, trivial⟩
      exact i64_next (by omega) (by omega)
  have ht := hk.any (by simpa using h)
  clear h hk
  repeat (first|refine pq_end rfl ?_|(refine zs rfl ?_ ?_;·repeat' constructor)|(refine zq rfl ?_ ?_;·repeat' constructor)|refine zw rfl ?_|refine zx rfl ?_|refine zb rfl ?_)
  refine pw_loop (Clear w.spaces badS) (fun k => [(2, .ptr 2 1 0 0), (6, I k)]) (fun _ => [(2, 1, ⟨28, 9, [eWork w], 2⟩)]) (fun k => w.spaces.length - k) 0 .zero ⟨rfl, rfl, rfl, trivial⟩ ?_
  intro k s hk
  repeat (first|refine pq_end rfl ?_|(refine zs rfl ?_ ?_;·repeat' constructor)|(refine zq rfl ?_ ?_;·repeat' constructor)|refine zw rfl ?_|refine zx rfl ?_|refine zb rfl ?_)
  refine pw_cond rfl (fun h => ?_) (fun h => ?_)
  · have hlt : k < w.spaces.length := by simpa using h
    obtain ⟨x, hx⟩ := get_lt hlt
    clear h
    have yes : badS x = true → PV.bool false = .bool (plainB w most) := fun h => by rw [plainB, any_of hx h]; simp
    repeat (first|refine pq_end rfl ?_|(refine zs rfl ?_ ?_;·repeat' constructor)|(refine zq rfl ?_ ?_;·repeat' constructor)|refine zw rfl ?_|refine zx rfl ?_|refine zb rfl ?_)
    (first|refine zsq rfl (q_idxm rfl rfl rfl rfl rfl (by omega) hx rfl) ?_|refine zqq rfl (q_idxm rfl rfl rfl rfl rfl (by omega) hx rfl) ?_)
    repeat (first|refine pq_end rfl ?_|(refine zs rfl ?_ ?_;·repeat' constructor)|(refine zq rfl ?_ ?_;·repeat' constructor)|refine zw rfl ?_|refine zx rfl ?_|refine zb rfl ?_)
    (first | refine ps_split rfl rfl (fun h => ?_) (fun h => ?_) | refine pq_split rfl rfl (fun h => ?_) (fun h => ?_))
    · have h1 : longS x.name = true := by have := of_decide_eq_true h; simp [longS]; omega
      repeat (first|refine pq_end rfl ?_|(refine zs rfl ?_ ?_;·repeat' constructor)|(refine zq rfl ?_ ?_;·repeat' constructor)|refine zw rfl ?_|refine zx rfl ?_|refine zb rfl ?_)
      exact end1b rfl rfl (yes (by rw [badS, h1]; rfl))
    have h1 : longS x.name = false := by have := of_decide_eq_false h; simp [longS]; omega
    clear h
    repeat (first|refine pq_end rfl ?_|(refine zs rfl ?_ ?_;·repeat' constructor)|(refine zq rfl ?_ ?_;·repeat' constructor)|refine zw rfl ?_|refine zx rfl ?_|refine zb rfl ?_)
    (first|refine zsq rfl (q_idxm rfl rfl rfl rfl rfl (by omega) hx rfl) ?_|refine zqq rfl (q_idxm rfl rfl rfl rfl rfl (by omega) hx rfl) ?_)
    repeat (first|refine pq_end rfl ?_|(refine zs rfl ?_ ?_;·repeat' constructor)|(refine zq rfl ?_ ?_;·repeat' constructor)|refine zw rfl ?_|refine zx rfl ?_|refine zb rfl ?_)
    (first | refine ps_split rfl rfl (fun h => ?_) (fun h => ?_) | refine pq_split rfl rfl (fun h => ?_) (fun h => ?_))
    · have h2 : decide (20 < x.next.length) = true := by have := of_decide_eq_true h; rw [List.length_map] at this; simp; omega
      repeat (first|refine pq_end rfl ?_|(refine zs rfl ?_ ?_;·repeat' constructor)|(refine zq rfl ?_ ?_;·repeat' constructor)|refine zw rfl ?_|refine zx rfl ?_|refine zb rfl ?_)
      exact end1b rfl rfl (yes (by rw [badS, h1, h2]; rfl))
    have h2 : decide (20 < x.next.length) = false := by have := of_decide_eq_false h; rw [List.length_map] at this; simp; omega
    have hl2 := of_decide_eq_false h2
    clear h
    repeat (first|refine pq_end rfl ?_|(refine zs rfl ?_ ?_;·repeat' constructor)|(refine zq rfl ?_ ?_;·repeat' constructor)|refine zw rfl ?_|refine zx rfl ?_|refine zb rfl ?_)
    (first|refine zsq rfl (q_idxm rfl rfl rfl rfl rfl (by omega) hx rfl) ?_|refine zqq rfl (q_idxm rfl rfl rfl rfl rfl (by omega) hx rfl) ?_)
    repeat (first|refine pq_end rfl ?_|(refine zs rfl ?_ ?_;·repeat' constructor)|(refine zq rfl ?_ ?_;·repeat' constructor)|refine zw rfl ?_|refine zx rfl ?_|refine zb rfl ?_)
    (first|refine zsq rfl (q_callP rfl (texts_ret x.next (by omega)) rfl (by repeat' constructor) rfl rfl) ?_|refine zqq rfl (q_callP rfl (texts_ret x.next (by omega)) rfl (by repeat' constructor) rfl rfl) ?_)
    repeat (first|refine pq_end rfl ?_|(refine zs rfl ?_ ?_;·repeat' constructor)|(refine zq rfl ?_ ?_;·repeat' constructor)|refine zw rfl ?_|refine zx rfl ?_|refine zb rfl ?_)
    refine pw_cond rfl (fun h => ?_) (fun h => ?_)
    · have h3 : x.next.any longS = true := by simpa [longS] using h
      repeat (first|refine pq_end rfl ?_|(refine zs rfl ?_ ?_;·repeat' constructor)|(refine zq rfl ?_ ?_;·repeat' constructor)|refine zw rfl ?_|refine zx rfl ?_|refine zb rfl ?_)
      exact end1b rfl rfl (yes (by rw [badS, h1, h2, h3]; rfl))
    · have h3 : x.next.any longS = false := by
        have : (!(!x.next.any fun s => decide (40 < s.length))) = false := h
        simpa [longS] using this
      repeat (first|refine pq_end rfl ?_|(refine zs rfl ?_ ?_;·repeat' constructor)|(refine zq rfl ?_ ?_;·repeat' constructor)|refine zw rfl ?_|refine zx rfl ?_|refine zb rfl ?_)
      refine ⟨k + 1, hk.succ hx (by rw [badS, h1, h2, h3]; rfl), by omega, rfl, ?_, rfl, trivial⟩
      exact i64_next (by omega) (by omega)
  have hs := hk.any (by simpa using h)
  clear h hk
  repeat (first|refine pq_end rfl ?_|(refine zs rfl ?_ ?_;·repeat' constructor)|(refine zq rfl ?_ ?_;·repeat' constructor)|refine zw rfl ?_|refine zx rfl ?_|refine zb rfl ?_)
  refine pw_loop (Clear w.items badI) (fun k => [(2, .ptr 2 1 0 0), (7, I k)]) (fun _ => [(2, 1, ⟨28, 9, [eWork w], 2⟩)]) (fun k => w.items.length - k) 0 .zero ⟨rfl, rfl, rfl, trivial⟩ ?_
  intro k s hk
  repeat (first|refine pq_end rfl ?_|(refine zs rfl ?_ ?_;·repeat' constructor)|(refine zq rfl ?_ ?_;·repeat' constructor)|refine zw rfl ?_|refine zx rfl ?_|refine zb rfl ?_)
  refine pw_cond rfl (fun h => ?_) (fun h => ?_)
  · have hlt : k < w.items.length := by simpa using h
    obtain ⟨x, hx⟩ := get_lt hlt
    clear h
    have yes : badI x = true → PV.bool false = .bool (plainB w most) := fun h => by rw [plainB, any_of hx h]; simp
    repeat (first|refine pq_end rfl ?_|(refine zs rfl ?_ ?_;·repeat' constructor)|(refine zq rfl ?_ ?_;·repeat' constructor)|refine zw rfl ?_|refine zx rfl ?_|refine zb rfl ?_)
    (first|refine zsq rfl (q_idxm rfl rfl rfl rfl rfl (by omega) hx rfl) ?_|refine zqq rfl (q_idxm rfl rfl rfl rfl rfl (by omega) hx rfl) ?_)
    repeat (first|refine pq_end rfl ?_|(refine zs rfl ?_ ?_;·repeat' constructor)|(refine zq rfl ?_ ?_;·repeat' constructor)|refine zw rfl ?_|refine zx rfl ?_|refine zb rfl ?_)
    (first | refine ps_split rfl rfl (fun h => ?_) (fun h => ?_) | refine pq_split rfl rfl (fun h => ?_) (fun h => ?_))
    · have h1 : longS x.name = true := by have := of_decide_eq_true h; simp [longS]; omega
      repeat (first|refine pq_end rfl ?_|(refine zs rfl ?_ ?_;·repeat' constructor)|(refine zq rfl ?_ ?_;·repeat' constructor)|refine zw rfl ?_|refine zx rfl ?_|refine zb rfl ?_)
      exact end1b rfl rfl (yes (by rw [badI, h1]; rfl))
    have h1 : longS x.name = false := by have := of_decide_eq_false h; simp [longS]; omega
    clear h
    repeat (first|refine pq_end rfl ?_|(refine zs rfl ?_ ?_;·repeat' constructor)|(refine zq rfl ?_ ?_;·repeat' constructor)|refine zw rfl ?_|refine zx rfl ?_|refine zb rfl ?_)
    (first | refine ps_split rfl rfl (fun h => ?_) (fun h => ?_) | refine pq_split rfl rfl (fun h => ?_) (fun h => ?_))
    · have h2 : longS x.trade = true := by have := of_decide_eq_true h; simp [longS]; omega
      repeat (first|refine pq_end rfl ?_|(refine zs rfl ?_ ?_;·repeat' constructor)|(refine zq rfl ?_ ?_;·repeat' constructor)|refine zw rfl ?_|refine zx rfl ?_|refine zb rfl ?_)
      exact end1b rfl rfl (yes (by rw [badI, h1, h2]; rfl))
    have h2 : longS x.trade = false := by have := of_decide_eq_false h; simp [longS]; omega
    clear h
    repeat (first|refine pq_end rfl ?_|(refine zs rfl ?_ ?_;·repeat' constructor)|(refine zq rfl ?_ ?_;·repeat' constructor)|refine zw rfl ?_|refine zx rfl ?_|refine zb rfl ?_)
    (first | refine ps_split rfl rfl (fun h => ?_) (fun h => ?_) | refine pq_split rfl rfl (fun h => ?_) (fun h => ?_))
    · have h3 : longS x.space = true := by have := of_decide_eq_true h; simp [longS]; omega
      repeat (first|refine pq_end rfl ?_|(refine zs rfl ?_ ?_;·repeat' constructor)|(refine zq rfl ?_ ?_;·repeat' constructor)|refine zw rfl ?_|refine zx rfl ?_|refine zb rfl ?_)
      exact end1b rfl rfl (yes (by rw [badI, h1, h2, h3]; rfl))
    have h3 : longS x.space = false := by have := of_decide_eq_false h; simp [longS]; omega
    clear h
    repeat (first|refine pq_end rfl ?_|(refine zs rfl ?_ ?_;·repeat' constructor)|(refine zq rfl ?_ ?_;·repeat' constructor)|refine zw rfl ?_|refine zx rfl ?_|refine zb rfl ?_)
    (first | refine ps_split rfl rfl (fun h => ?_) (fun h => ?_) | refine pq_split rfl rfl (fun h => ?_) (fun h => ?_))
    · have h4 : decide (6 < x.modes.length) = true := by have := of_decide_eq_true h; rw [List.length_map] at this; simp; omega
      repeat (first|refine pq_end rfl ?_|(refine zs rfl ?_ ?_;·repeat' constructor)|(refine zq rfl ?_ ?_;·repeat' constructor)|refine zw rfl ?_|refine zx rfl ?_|refine zb rfl ?_)
      exact end1b rfl rfl (yes (by rw [badI, h1, h2, h3, h4]; rfl))
    have h4 : decide (6 < x.modes.length) = false := by have := of_decide_eq_false h; rw [List.length_map] at this; simp; omega
    clear h
    repeat (first|refine pq_end rfl ?_|(refine zs rfl ?_ ?_;·repeat' constructor)|(refine zq rfl ?_ ?_;·repeat' constructor)|refine zw rfl ?_|refine zx rfl ?_|refine zb rfl ?_)
    (first | refine ps_split rfl rfl (fun h => ?_) (fun h => ?_) | refine pq_split rfl rfl (fun h => ?_) (fun h => ?_))
    · have h5 : decide (12 < x.after.length) = true := by have := of_decide_eq_true h; rw [List.length_map] at this; simp; omega
      repeat (first|refine pq_end rfl ?_|(refine zs rfl ?_ ?_;·repeat' constructor)|(refine zq rfl ?_ ?_;·repeat' constructor)|refine zw rfl ?_|refine zx rfl ?_|refine zb rfl ?_)
      exact end1b rfl rfl (yes (by rw [badI, h1, h2, h3, h4, h5]; rfl))
    have h5 : decide (12 < x.after.length) = false := by have := of_decide_eq_false h; rw [List.length_map] at this; simp; omega
    have hl5 := of_decide_eq_false h5
    clear h
    repeat (first|refine pq_end rfl ?_|(refine zs rfl ?_ ?_;·repeat' constructor)|(refine zq rfl ?_ ?_;·repeat' constructor)|refine zw rfl ?_|refine zx rfl ?_|refine zb rfl ?_)
    (first|refine zsq rfl (q_callP rfl (texts_ret x.after (by omega)) rfl (by repeat' constructor) rfl rfl) ?_|refine zqq rfl (q_callP rfl (texts_ret x.after (by omega)) rfl (by repeat' constructor) rfl rfl) ?_)
    repeat (first|refine pq_end rfl ?_|(refine zs rfl ?_ ?_;·repeat' constructor)|(refine zq rfl ?_ ?_;·repeat' constructor)|refine zw rfl ?_|refine zx rfl ?_|refine zb rfl ?_)
    refine pw_cond rfl (fun h => ?_) (fun h => ?_)
    · have h6 : x.after.any longS = true := by simpa [longS] using h
      repeat (first|refine pq_end rfl ?_|(refine zs rfl ?_ ?_;·repeat' constructor)|(refine zq rfl ?_ ?_;·repeat' constructor)|refine zw rfl ?_|refine zx rfl ?_|refine zb rfl ?_)
      exact end1b rfl rfl (yes (by rw [badI, h1, h2, h3, h4, h5, h6]; rfl))
    · have h6 : x.after.any longS = false := by
        have : (!(!x.after.any fun s => decide (40 < s.length))) = false := h
        simpa [longS] using this
      repeat (first|refine pq_end rfl ?_|(refine zs rfl ?_ ?_;·repeat' constructor)|(refine zq rfl ?_ ?_;·repeat' constructor)|refine zw rfl ?_|refine zx rfl ?_|refine zb rfl ?_)
      refine ⟨k + 1, hk.succ hx (by rw [badI, h1, h2, h3, h4, h5, h6]; rfl), by omega, rfl, ?_, rfl, trivial⟩
      exact i64_next (by omega) (by omega)
  have hi := hk.any (by simpa using h)
  repeat (first|refine pq_end rfl ?_|(refine zs rfl ?_ ?_;·repeat' constructor)|(refine zq rfl ?_ ?_;·repeat' constructor)|refine zw rfl ?_|refine zx rfl ?_|refine zb rfl ?_)
  exact end1b rfl rfl (by rw [plainB, hb, ht, hs, hi]; rfl)
theorem sane_of {w : SWork} {most : Int} (h : plainB w most = true) : Sane w := by
  simp only [plainB, Bool.not_eq_true', Bool.or_eq_false_iff] at h
  obtain ⟨⟨⟨hb, ht⟩, hs⟩, hi⟩ := h
  simp only [badW, Bool.or_eq_false_iff, decide_eq_false_iff_not] at hb
  rw [List.any_eq_false] at hs hi
  refine ⟨by omega, by omega, by omega, by omega, by omega, fun x hx => ?_, fun x hx => ?_⟩
  · have := hs x hx
    simp only [badS, Bool.or_eq_true, decide_eq_true_eq, not_or] at this
    omega
  · have := hi x hx
    simp only [badI, Bool.or_eq_true, decide_eq_true_eq, not_or] at this
    omega
end Go.Pv

/- The law of the check of work and of the order. -/
set_option maxHeartbeats 2000000
namespace Go.Pv
attribute [local irreducible] PWP POps PQuiet PSem XThen XBlock RetPost InlPost
open Go.Proofs

theorem works_ret (aw : Ret Try.prog .shared 10 [] (.bool true)) (w : SWork) : Ret Try.prog .shared 4 [.agg (eWork w)] (.bool true) := by
  have h11 := plain_ret w 12
  cases hp : plainB w 12 with
  | false =>
    rw [hp] at h11
    refine Ret.of_pwp layOk mixed Go.Proofs.Try.func4 rfl (by decide) rfl rfl ?_
    repeat (first|refine pq_end rfl ?_|(refine zs rfl ?_ ?_;·repeat' constructor)|(refine zq rfl ?_ ?_;·repeat' constructor)|refine zw rfl ?_|refine zx rfl ?_|refine zb rfl ?_)
    (first|refine zsq rfl (q_callP rfl (aw) rfl (by repeat' constructor) rfl rfl) ?_|refine zqq rfl (q_callP rfl (aw) rfl (by repeat' constructor) rfl rfl) ?_)
    repeat (first|refine pq_end rfl ?_|(refine zs rfl ?_ ?_;·repeat' constructor)|(refine zq rfl ?_ ?_;·repeat' constructor)|refine zw rfl ?_|refine zx rfl ?_|refine zb rfl ?_)
    (first|refine zsq rfl (q_callP rfl (h11) rfl (by repeat' constructor) rfl rfl) ?_|refine zqq rfl (q_callP rfl (h11) rfl (by repeat' constructor) rfl rfl) ?_)
    repeat (first|refine pq_end rfl ?_|(refine zs rfl ?_ ?_;·repeat' constructor)|(refine zq rfl ?_ ?_;·repeat' constructor)|refine zw rfl ?_|refine zx rfl ?_|refine zb rfl ?_)
    exact end1b rfl rfl rfl
  | true =>
    rw [hp] at h11
    have hw := sane_of hp
    have h19 := order_ret w hw
    have h15 := refCheckWork_ret w hw
    have h20 := checkWork_ret w hw
    by_cases hz : workE w = 0
    · rw [orderR, if_pos hz] at h19
      rw [hz] at h15 h20
      have hol := ordS_len w
      have h1 := hw.items
      have hord := (refOrd_eq (good_of (workE_items hz))).1
      have h22 := order_ref w hw
      rw [hord] at h22
      have h21 := texts2_ret ((ordS w).map (nameAt w)) ((ordS w).map (nameAt w)) (by simp; omega)
      rw [decide_eq_true rfl] at h21
      refine Ret.of_pwp layOk mixed Go.Proofs.Try.func4 rfl (by decide) rfl rfl ?_
      repeat (first|refine pq_end rfl ?_|(refine zs rfl ?_ ?_;·repeat' constructor)|(refine zq rfl ?_ ?_;·repeat' constructor)|refine zw rfl ?_|refine zx rfl ?_|refine zb rfl ?_)
      (first|refine zsq rfl (q_callP rfl (aw) rfl (by repeat' constructor) rfl rfl) ?_|refine zqq rfl (q_callP rfl (aw) rfl (by repeat' constructor) rfl rfl) ?_)
      repeat (first|refine pq_end rfl ?_|(refine zs rfl ?_ ?_;·repeat' constructor)|(refine zq rfl ?_ ?_;·repeat' constructor)|refine zw rfl ?_|refine zx rfl ?_|refine zb rfl ?_)
      (first|refine zsq rfl (q_callP rfl (h11) rfl (by repeat' constructor) rfl rfl) ?_|refine zqq rfl (q_callP rfl (h11) rfl (by repeat' constructor) rfl rfl) ?_)
      repeat (first|refine pq_end rfl ?_|(refine zs rfl ?_ ?_;·repeat' constructor)|(refine zq rfl ?_ ?_;·repeat' constructor)|refine zw rfl ?_|refine zx rfl ?_|refine zb rfl ?_)
      (first|refine zsq rfl (q_call rfl (h19) rfl (by repeat' constructor) rfl) ?_|refine zqq rfl (q_call rfl (h19) rfl (by repeat' constructor) rfl) ?_)
      repeat (first|refine pq_end rfl ?_|(refine zs rfl ?_ ?_;·repeat' constructor)|(refine zq rfl ?_ ?_;·repeat' constructor)|refine zw rfl ?_|refine zx rfl ?_|refine zb rfl ?_)
      (first|refine zsq rfl (q_callP rfl (h15) rfl (by repeat' constructor) rfl rfl) ?_|refine zqq rfl (q_callP rfl (h15) rfl (by repeat' constructor) rfl rfl) ?_)
      repeat (first|refine pq_end rfl ?_|(refine zs rfl ?_ ?_;·repeat' constructor)|(refine zq rfl ?_ ?_;·repeat' constructor)|refine zw rfl ?_|refine zx rfl ?_|refine zb rfl ?_)
      (first|refine zsq rfl (q_callP rfl (h20) rfl (by repeat' constructor) rfl rfl) ?_|refine zqq rfl (q_callP rfl (h20) rfl (by repeat' constructor) rfl rfl) ?_)
      repeat (first|refine pq_end rfl ?_|(refine zs rfl ?_ ?_;·repeat' constructor)|(refine zq rfl ?_ ?_;·repeat' constructor)|refine zw rfl ?_|refine zx rfl ?_|refine zb rfl ?_)
      (first|refine zsq rfl (q_call rfl (h22) rfl (by repeat' constructor) rfl) ?_|refine zqq rfl (q_call rfl (h22) rfl (by repeat' constructor) rfl) ?_)
      repeat (first|refine pq_end rfl ?_|(refine zs rfl ?_ ?_;·repeat' constructor)|(refine zq rfl ?_ ?_;·repeat' constructor)|refine zw rfl ?_|refine zx rfl ?_|refine zb rfl ?_)
      (first|refine zsq rfl (q_callP rfl (h21) rfl (by repeat' constructor) rfl rfl) ?_|refine zqq rfl (q_callP rfl (h21) rfl (by repeat' constructor) rfl rfl) ?_)
      repeat (first|refine pq_end rfl ?_|(refine zs rfl ?_ ?_;·repeat' constructor)|(refine zq rfl ?_ ?_;·repeat' constructor)|refine zw rfl ?_|refine zx rfl ?_|refine zb rfl ?_)
      exact end1b rfl rfl rfl
    · rw [orderR, if_neg hz] at h19
      refine Ret.of_pwp layOk mixed Go.Proofs.Try.func4 rfl (by decide) rfl rfl ?_
      repeat (first|refine pq_end rfl ?_|(refine zs rfl ?_ ?_;·repeat' constructor)|(refine zq rfl ?_ ?_;·repeat' constructor)|refine zw rfl ?_|refine zx rfl ?_|refine zb rfl ?_)
      (first|refine zsq rfl (q_callP rfl (aw) rfl (by repeat' constructor) rfl rfl) ?_|refine zqq rfl (q_callP rfl (aw) rfl (by repeat' constructor) rfl rfl) ?_)
      repeat (first|refine pq_end rfl ?_|(refine zs rfl ?_ ?_;·repeat' constructor)|(refine zq rfl ?_ ?_;·repeat' constructor)|refine zw rfl ?_|refine zx rfl ?_|refine zb rfl ?_)
      (first|refine zsq rfl (q_callP rfl (h11) rfl (by repeat' constructor) rfl rfl) ?_|refine zqq rfl (q_callP rfl (h11) rfl (by repeat' constructor) rfl rfl) ?_)
      repeat (first|refine pq_end rfl ?_|(refine zs rfl ?_ ?_;·repeat' constructor)|(refine zq rfl ?_ ?_;·repeat' constructor)|refine zw rfl ?_|refine zx rfl ?_|refine zb rfl ?_)
      (first|refine zsq rfl (q_call rfl (h19) rfl (by repeat' constructor) rfl) ?_|refine zqq rfl (q_call rfl (h19) rfl (by repeat' constructor) rfl) ?_)
      repeat (first|refine pq_end rfl ?_|(refine zs rfl ?_ ?_;·repeat' constructor)|(refine zq rfl ?_ ?_;·repeat' constructor)|refine zw rfl ?_|refine zx rfl ?_|refine zb rfl ?_)
      (first|refine zsq rfl (q_callP rfl (h15) rfl (by repeat' constructor) rfl rfl) ?_|refine zqq rfl (q_callP rfl (h15) rfl (by repeat' constructor) rfl rfl) ?_)
      repeat (first|refine pq_end rfl ?_|(refine zs rfl ?_ ?_;·repeat' constructor)|(refine zq rfl ?_ ?_;·repeat' constructor)|refine zw rfl ?_|refine zx rfl ?_|refine zb rfl ?_)
      (first|refine zsq rfl (q_callP rfl (h20) rfl (by repeat' constructor) rfl rfl) ?_|refine zqq rfl (q_callP rfl (h20) rfl (by repeat' constructor) rfl rfl) ?_)
      repeat (first|refine pq_end rfl ?_|(refine zs rfl ?_ ?_;·repeat' constructor)|(refine zq rfl ?_ ?_;·repeat' constructor)|refine zw rfl ?_|refine zx rfl ?_|refine zb rfl ?_)
      (first | refine ps_split rfl rfl (fun h => ?_) (fun h => ?_) | refine pq_split rfl rfl (fun h => ?_) (fun h => ?_))
      · simp at h
      clear h
      repeat (first|refine pq_end rfl ?_|(refine zs rfl ?_ ?_;·repeat' constructor)|(refine zq rfl ?_ ?_;·repeat' constructor)|refine zw rfl ?_|refine zx rfl ?_|refine zb rfl ?_)
      refine pw_cond rfl (fun h => ?_) (fun h => ?_)
      · simp at h
      clear h
      repeat (first|refine pq_end rfl ?_|(refine zs rfl ?_ ?_;·repeat' constructor)|(refine zq rfl ?_ ?_;·repeat' constructor)|refine zw rfl ?_|refine zx rfl ?_|refine zb rfl ?_)
      (first | refine ps_split rfl rfl (fun h => ?_) (fun h => ?_) | refine pq_split rfl rfl (fun h => ?_) (fun h => ?_))
      · repeat (first|refine pq_end rfl ?_|(refine zs rfl ?_ ?_;·repeat' constructor)|(refine zq rfl ?_ ?_;·repeat' constructor)|refine zw rfl ?_|refine zx rfl ?_|refine zb rfl ?_)
        exact end1b rfl rfl rfl
      · exact absurd (by simpa using h) hz
end Go.Pv

/- The law of exclusions, but for its example. -/
set_option maxHeartbeats 2000000
namespace Go.Pv
attribute [local irreducible] PWP POps PQuiet PSem XThen XBlock RetPost InlPost
open Go.Proofs

theorem idx_some {α : Type} {l : List α} {p : α → Bool} (h : ¬ idx l p < 0) : ∃ x, l[(idx l p).toNat]? = some x := by
  unfold idx at h ⊢
  cases hf : l.findIdx? p with
  | none => rw [hf] at h; simp at h
  | some i =>
    rw [List.findIdx?_eq_some_iff_getElem] at hf
    obtain ⟨hi, _, _⟩ := hf
    exact ⟨l[i], by simp [hi]⟩
theorem nearP_comm (w : SWork) (a b : Str) : nearP w a b = nearP w b a := by
  have h : (fun s => nearS a b s) = nearS b a := by funext s; unfold nearS; rw [Bool.or_comm]
  unfold nearP
  rw [show w.spaces.any (nearS a b) = w.spaces.any (nearS b a) from congrArg _ h]
  by_cases hab : a = b
  · rw [if_pos hab, if_pos hab.symm]
  · rw [if_neg hab, if_neg (Ne.symm hab)]
theorem exclP_comm (w : SWork) (x y : SItem) : exclP w x y = exclP w y x := by
  have h : exclB w x y = exclB w y x := by funext e; unfold exclB; rw [nearP_comm]; congr 1; unfold exclK; rw [Bool.or_comm]
  unfold exclP
  rw [h, show decide (x.name = y.name) = decide (y.name = x.name) from by rw [decide_eq_decide]; exact eq_comm]
  cases decide (y.name = x.name) <;> cases decide (x.kind < 0) <;> cases decide (y.kind < 0) <;> rfl

theorem index_names (w : SWork) (hw : Sane w) (a : Str) : Ret Try.prog .shared 74 [.sl ((w.items.map (·.name)).map eS), .str a] (I (idx w.items (·.name == a))) := by
  have h := index_ret (w.items.map (·.name)) a (by have := hw.items; simp; omega)
  rw [idx_map] at h
  exact h
theorem excl0_ret (w : SWork) (hw : Sane w) (hz : workE w ≠ 0) (a b : Str) : Ret Try.prog .shared 23 [.agg (eWork w), .str a, .str b] (.tup [.bool false, I (workE w)]) := by
  refine Ret.of_pwp layOk mixed Go.Proofs.Try.func23 rfl (by decide) rfl rfl ?_
  repeat (first|refine pq_end rfl ?_|(refine zs rfl ?_ ?_;·repeat' constructor)|(refine zq rfl ?_ ?_;·repeat' constructor)|refine zw rfl ?_|refine zx rfl ?_|refine zb rfl ?_)
  (first|refine zsq rfl (q_callP rfl (checkWork_ret w hw) rfl (by repeat' constructor) rfl rfl) ?_|refine zqq rfl (q_callP rfl (checkWork_ret w hw) rfl (by repeat' constructor) rfl rfl) ?_)
  repeat (first|refine pq_end rfl ?_|(refine zs rfl ?_ ?_;·repeat' constructor)|(refine zq rfl ?_ ?_;·repeat' constructor)|refine zw rfl ?_|refine zx rfl ?_|refine zb rfl ?_)
  refine pw_cond rfl (fun h => ?_) (fun h => ?_)
  · repeat (first|refine pq_end rfl ?_|(refine zs rfl ?_ ?_;·repeat' constructor)|(refine zq rfl ?_ ?_;·repeat' constructor)|refine zw rfl ?_|refine zx rfl ?_|refine zb rfl ?_)
    exact end2 rfl rfl rfl rfl rfl trivial trivial rfl
  · exact absurd (by simpa using h) hz
theorem excl6_ret (w : SWork) (hw : Sane w) (hz : workE w = 0) (a b : Str) (h6 : idx w.items (·.name == a) < 0 ∨ idx w.items (·.name == b) < 0) : Ret Try.prog .shared 23 [.agg (eWork w), .str a, .str b] (.tup [.bool false, I 6]) := by
  have h20 := checkWork_ret w hw
  rw [hz] at h20
  have hi := hw.items
  refine Ret.of_pwp layOk mixed Go.Proofs.Try.func23 rfl (by decide) rfl rfl ?_
  repeat (first|refine pq_end rfl ?_|(refine zs rfl ?_ ?_;·repeat' constructor)|(refine zq rfl ?_ ?_;·repeat' constructor)|refine zw rfl ?_|refine zx rfl ?_|refine zb rfl ?_)
  (first|refine zsq rfl (q_callP rfl (h20) rfl (by repeat' constructor) rfl rfl) ?_|refine zqq rfl (q_callP rfl (h20) rfl (by repeat' constructor) rfl rfl) ?_)
  repeat (first|refine pq_end rfl ?_|(refine zs rfl ?_ ?_;·repeat' constructor)|(refine zq rfl ?_ ?_;·repeat' constructor)|refine zw rfl ?_|refine zx rfl ?_|refine zb rfl ?_)
  (first|refine zsq rfl (q_call rfl (itemNames_ret w (by omega)) rfl (by repeat' constructor) rfl) ?_|refine zqq rfl (q_call rfl (itemNames_ret w (by omega)) rfl (by repeat' constructor) rfl) ?_)
  repeat (first|refine pq_end rfl ?_|(refine zs rfl ?_ ?_;·repeat' constructor)|(refine zq rfl ?_ ?_;·repeat' constructor)|refine zw rfl ?_|refine zx rfl ?_|refine zb rfl ?_)
  (first|refine zsq rfl (q_callP rfl (index_names w hw a) rfl (by repeat' constructor) rfl rfl) ?_|refine zqq rfl (q_callP rfl (index_names w hw a) rfl (by repeat' constructor) rfl rfl) ?_)
  repeat (first|refine pq_end rfl ?_|(refine zs rfl ?_ ?_;·repeat' constructor)|(refine zq rfl ?_ ?_;·repeat' constructor)|refine zw rfl ?_|refine zx rfl ?_|refine zb rfl ?_)
  (first|refine zsq rfl (q_callP rfl (index_names w hw b) rfl (by repeat' constructor) rfl rfl) ?_|refine zqq rfl (q_callP rfl (index_names w hw b) rfl (by repeat' constructor) rfl rfl) ?_)
  repeat (first|refine pq_end rfl ?_|(refine zs rfl ?_ ?_;·repeat' constructor)|(refine zq rfl ?_ ?_;·repeat' constructor)|refine zw rfl ?_|refine zx rfl ?_|refine zb rfl ?_)
  (first | refine ps_split rfl rfl (fun h => ?_) (fun h => ?_) | refine pq_split rfl rfl (fun h => ?_) (fun h => ?_))
  · repeat (first|refine pq_end rfl ?_|(refine zs rfl ?_ ?_;·repeat' constructor)|(refine zq rfl ?_ ?_;·repeat' constructor)|refine zw rfl ?_|refine zx rfl ?_|refine zb rfl ?_)
    exact end2 rfl rfl rfl rfl rfl trivial trivial rfl
  have g := of_decide_eq_false h
  clear h
  repeat (first|refine pq_end rfl ?_|(refine zs rfl ?_ ?_;·repeat' constructor)|(refine zq rfl ?_ ?_;·repeat' constructor)|refine zw rfl ?_|refine zx rfl ?_|refine zb rfl ?_)
  refine pw_cond rfl (fun h => ?_) (fun h => ?_)
  · repeat (first|refine pq_end rfl ?_|(refine zs rfl ?_ ?_;·repeat' constructor)|(refine zq rfl ?_ ?_;·repeat' constructor)|refine zw rfl ?_|refine zx rfl ?_|refine zb rfl ?_)
    exact end2 rfl rfl rfl rfl rfl trivial trivial rfl
  · exact absurd h6 (by have := of_decide_eq_false h; omega)
theorem excl1R_ret (w : SWork) (hw : Sane w) (hz : workE w = 0) (a b : Str) (ha : ¬ idx w.items (·.name == a) < 0) (hb : ¬ idx w.items (·.name == b) < 0) {x y : SItem}
    (hx : w.items[(idx w.items (·.name == a)).toNat]? = some x) (hy : w.items[(idx w.items (·.name == b)).toNat]? = some y) : Ret Try.prog .shared 23 [.agg (eWork w), .str a, .str b] (.tup [.bool (exclP w x y), I 0]) := by
  have h20 := checkWork_ret w hw
  rw [hz] at h20
  have hi := hw.items
  refine Ret.of_pwp layOk mixed Go.Proofs.Try.func23 rfl (by decide) rfl rfl ?_
  repeat (first|refine pq_end rfl ?_|(refine zs rfl ?_ ?_;·repeat' constructor)|(refine zq rfl ?_ ?_;·repeat' constructor)|refine zw rfl ?_|refine zx rfl ?_|refine zb rfl ?_)
  (first|refine zsq rfl (q_callP rfl (h20) rfl (by repeat' constructor) rfl rfl) ?_|refine zqq rfl (q_callP rfl (h20) rfl (by repeat' constructor) rfl rfl) ?_)
  repeat (first|refine pq_end rfl ?_|(refine zs rfl ?_ ?_;·repeat' constructor)|(refine zq rfl ?_ ?_;·repeat' constructor)|refine zw rfl ?_|refine zx rfl ?_|refine zb rfl ?_)
  (first|refine zsq rfl (q_call rfl (itemNames_ret w (by omega)) rfl (by repeat' constructor) rfl) ?_|refine zqq rfl (q_call rfl (itemNames_ret w (by omega)) rfl (by repeat' constructor) rfl) ?_)
  repeat (first|refine pq_end rfl ?_|(refine zs rfl ?_ ?_;·repeat' constructor)|(refine zq rfl ?_ ?_;·repeat' constructor)|refine zw rfl ?_|refine zx rfl ?_|refine zb rfl ?_)
  (first|refine zsq rfl (q_callP rfl (index_names w hw a) rfl (by repeat' constructor) rfl rfl) ?_|refine zqq rfl (q_callP rfl (index_names w hw a) rfl (by repeat' constructor) rfl rfl) ?_)
  repeat (first|refine pq_end rfl ?_|(refine zs rfl ?_ ?_;·repeat' constructor)|(refine zq rfl ?_ ?_;·repeat' constructor)|refine zw rfl ?_|refine zx rfl ?_|refine zb rfl ?_)
  (first|refine zsq rfl (q_callP rfl (index_names w hw b) rfl (by repeat' constructor) rfl rfl) ?_|refine zqq rfl (q_callP rfl (index_names w hw b) rfl (by repeat' constructor) rfl rfl) ?_)
  repeat (first|refine pq_end rfl ?_|(refine zs rfl ?_ ?_;·repeat' constructor)|(refine zq rfl ?_ ?_;·repeat' constructor)|refine zw rfl ?_|refine zx rfl ?_|refine zb rfl ?_)
  (first | refine ps_split rfl rfl (fun h => ?_) (fun h => ?_) | refine pq_split rfl rfl (fun h => ?_) (fun h => ?_))
  · exact absurd (of_decide_eq_true h) ha
  clear h
  repeat (first|refine pq_end rfl ?_|(refine zs rfl ?_ ?_;·repeat' constructor)|(refine zq rfl ?_ ?_;·repeat' constructor)|refine zw rfl ?_|refine zx rfl ?_|refine zb rfl ?_)
  refine pw_cond rfl (fun h => ?_) (fun h => ?_)
  · exact absurd (of_decide_eq_true h) hb
  clear h
  repeat (first|refine pq_end rfl ?_|(refine zs rfl ?_ ?_;·repeat' constructor)|(refine zq rfl ?_ ?_;·repeat' constructor)|refine zw rfl ?_|refine zx rfl ?_|refine zb rfl ?_)
  refine pw_draw 14 [31, 32, 33, 34, 35, 36, 37, 38, 39, 40, 41, 42, 6, 7] (by decide +kernel) ?_
  repeat (first|refine pq_end rfl ?_|(refine zs rfl ?_ ?_;·repeat' constructor)|(refine zq rfl ?_ ?_;·repeat' constructor)|refine zw rfl ?_|refine zx rfl ?_|refine zb rfl ?_)
  (first|refine zsq rfl (q_idxm rfl rfl rfl rfl rfl (by omega) hx rfl) ?_|refine zqq rfl (q_idxm rfl rfl rfl rfl rfl (by omega) hx rfl) ?_)
  repeat (first|refine pq_end rfl ?_|(refine zs rfl ?_ ?_;·repeat' constructor)|(refine zq rfl ?_ ?_;·repeat' constructor)|refine zw rfl ?_|refine zx rfl ?_|refine zb rfl ?_)
  (first|refine zsq rfl (q_idxm rfl rfl rfl rfl rfl (by omega) hy rfl) ?_|refine zqq rfl (q_idxm rfl rfl rfl rfl rfl (by omega) hy rfl) ?_)
  repeat (first|refine pq_end rfl ?_|(refine zs rfl ?_ ?_;·repeat' constructor)|(refine zq rfl ?_ ?_;·repeat' constructor)|refine zw rfl ?_|refine zx rfl ?_|refine zb rfl ?_)
  (first|refine zsq rfl (q_callP rfl (excludes_ret w hw x y) rfl (by repeat' constructor) rfl rfl) ?_|refine zqq rfl (q_callP rfl (excludes_ret w hw x y) rfl (by repeat' constructor) rfl rfl) ?_)
  repeat (first|refine pq_end rfl ?_|(refine zs rfl ?_ ?_;·repeat' constructor)|(refine zq rfl ?_ ?_;·repeat' constructor)|refine zw rfl ?_|refine zx rfl ?_|refine zb rfl ?_)
  exact end2 rfl rfl rfl rfl rfl trivial trivial rfl

set_option maxRecDepth 20000 in
theorem excludes_law (aw : Ret Try.prog .shared 10 [] (.bool true)) (w : SWork) (a b : Str) : Ret Try.prog .shared 5 [.agg (eWork w), .str a, .str b] (.bool true) := by
  have h11 := plain_ret w 12
  cases hp : plainB w 12 with
  | false =>
    rw [hp] at h11
    refine Ret.of_pwp layOk mixed Go.Proofs.Try.func5 rfl (by decide) rfl rfl ?_
    repeat (first|refine pq_end rfl ?_|(refine zs rfl ?_ ?_;·repeat' constructor)|(refine zq rfl ?_ ?_;·repeat' constructor)|refine zw rfl ?_|refine zx rfl ?_|refine zb rfl ?_)
    (first|refine zsq rfl (q_callP rfl (aw) rfl (by repeat' constructor) rfl rfl) ?_|refine zqq rfl (q_callP rfl (aw) rfl (by repeat' constructor) rfl rfl) ?_)
    repeat (first|refine pq_end rfl ?_|(refine zs rfl ?_ ?_;·repeat' constructor)|(refine zq rfl ?_ ?_;·repeat' constructor)|refine zw rfl ?_|refine zx rfl ?_|refine zb rfl ?_)
    (first|refine zsq rfl (q_callP rfl (h11) rfl (by repeat' constructor) rfl rfl) ?_|refine zqq rfl (q_callP rfl (h11) rfl (by repeat' constructor) rfl rfl) ?_)
    repeat (first|refine pq_end rfl ?_|(refine zs rfl ?_ ?_;·repeat' constructor)|(refine zq rfl ?_ ?_;·repeat' constructor)|refine zw rfl ?_|refine zx rfl ?_|refine zb rfl ?_)
    exact end1b rfl rfl rfl
  | true =>
    rw [hp] at h11
    have hw := sane_of hp
    have hi := hw.items
    have h15 := refCheckWork_ret w hw
    by_cases hz : workE w = 0
    · rw [hz] at h15
      by_cases h6 : idx w.items (·.name == a) < 0 ∨ idx w.items (·.name == b) < 0
      · have e1 := excl6_ret w hw hz a b h6
        have e2 := excl6_ret w hw hz b a h6.symm
        refine Ret.of_pwp layOk mixed Go.Proofs.Try.func5 rfl (by decide) rfl rfl ?_
        repeat (first|refine pq_end rfl ?_|(refine zs rfl ?_ ?_;·repeat' constructor)|(refine zq rfl ?_ ?_;·repeat' constructor)|refine zw rfl ?_|refine zx rfl ?_|refine zb rfl ?_)
        (first|refine zsq rfl (q_callP rfl (aw) rfl (by repeat' constructor) rfl rfl) ?_|refine zqq rfl (q_callP rfl (aw) rfl (by repeat' constructor) rfl rfl) ?_)
        repeat (first|refine pq_end rfl ?_|(refine zs rfl ?_ ?_;·repeat' constructor)|(refine zq rfl ?_ ?_;·repeat' constructor)|refine zw rfl ?_|refine zx rfl ?_|refine zb rfl ?_)
        (first|refine zsq rfl (q_callP rfl (h11) rfl (by repeat' constructor) rfl rfl) ?_|refine zqq rfl (q_callP rfl (h11) rfl (by repeat' constructor) rfl rfl) ?_)
        repeat (first|refine pq_end rfl ?_|(refine zs rfl ?_ ?_;·repeat' constructor)|(refine zq rfl ?_ ?_;·repeat' constructor)|refine zw rfl ?_|refine zx rfl ?_|refine zb rfl ?_)
        (first | refine ps_split rfl rfl (fun h => ?_) (fun h => ?_) | refine pq_split rfl rfl (fun h => ?_) (fun h => ?_))
        · repeat (first|refine pq_end rfl ?_|(refine zs rfl ?_ ?_;·repeat' constructor)|(refine zq rfl ?_ ?_;·repeat' constructor)|refine zw rfl ?_|refine zx rfl ?_|refine zb rfl ?_)
          exact end1b rfl rfl rfl
        clear h
        repeat (first|refine pq_end rfl ?_|(refine zs rfl ?_ ?_;·repeat' constructor)|(refine zq rfl ?_ ?_;·repeat' constructor)|refine zw rfl ?_|refine zx rfl ?_|refine zb rfl ?_)
        refine pw_cond rfl (fun h => ?_) (fun h => ?_)
        · repeat (first|refine pq_end rfl ?_|(refine zs rfl ?_ ?_;·repeat' constructor)|(refine zq rfl ?_ ?_;·repeat' constructor)|refine zw rfl ?_|refine zx rfl ?_|refine zb rfl ?_)
          exact end1b rfl rfl rfl
        clear h
        repeat (first|refine pq_end rfl ?_|(refine zs rfl ?_ ?_;·repeat' constructor)|(refine zq rfl ?_ ?_;·repeat' constructor)|refine zw rfl ?_|refine zx rfl ?_|refine zb rfl ?_)
        (first|refine zsq rfl (q_callP rfl (e1) rfl (by repeat' constructor) rfl rfl) ?_|refine zqq rfl (q_callP rfl (e1) rfl (by repeat' constructor) rfl rfl) ?_)
        repeat (first|refine pq_end rfl ?_|(refine zs rfl ?_ ?_;·repeat' constructor)|(refine zq rfl ?_ ?_;·repeat' constructor)|refine zw rfl ?_|refine zx rfl ?_|refine zb rfl ?_)
        (first|refine zsq rfl (q_callP rfl (e2) rfl (by repeat' constructor) rfl rfl) ?_|refine zqq rfl (q_callP rfl (e2) rfl (by repeat' constructor) rfl rfl) ?_)
        repeat (first|refine pq_end rfl ?_|(refine zs rfl ?_ ?_;·repeat' constructor)|(refine zq rfl ?_ ?_;·repeat' constructor)|refine zw rfl ?_|refine zx rfl ?_|refine zb rfl ?_)
        (first|refine zsq rfl (q_callP rfl (h15) rfl (by repeat' constructor) rfl rfl) ?_|refine zqq rfl (q_callP rfl (h15) rfl (by repeat' constructor) rfl rfl) ?_)
        repeat (first|refine pq_end rfl ?_|(refine zs rfl ?_ ?_;·repeat' constructor)|(refine zq rfl ?_ ?_;·repeat' constructor)|refine zw rfl ?_|refine zx rfl ?_|refine zb rfl ?_)
        refine pw_draw 8 [63, 64, 65, 66, 67, 68, 12, 13] (by decide +kernel) ?_
        repeat (first|refine pq_end rfl ?_|(refine zs rfl ?_ ?_;·repeat' constructor)|(refine zq rfl ?_ ?_;·repeat' constructor)|refine zw rfl ?_|refine zx rfl ?_|refine zb rfl ?_)
        (first|refine zsq rfl (q_callP rfl (itemOf_ret w a (by omega)) rfl (by repeat' constructor) rfl rfl) ?_|refine zqq rfl (q_callP rfl (itemOf_ret w a (by omega)) rfl (by repeat' constructor) rfl rfl) ?_)
        repeat (first|refine pq_end rfl ?_|(refine zs rfl ?_ ?_;·repeat' constructor)|(refine zq rfl ?_ ?_;·repeat' constructor)|refine zw rfl ?_|refine zx rfl ?_|refine zb rfl ?_)
        (first|refine zsq rfl (q_callP rfl (itemOf_ret w b (by omega)) rfl (by repeat' constructor) rfl rfl) ?_|refine zqq rfl (q_callP rfl (itemOf_ret w b (by omega)) rfl (by repeat' constructor) rfl rfl) ?_)
        repeat (first|refine pq_end rfl ?_|(refine zs rfl ?_ ?_;·repeat' constructor)|(refine zq rfl ?_ ?_;·repeat' constructor)|refine zw rfl ?_|refine zx rfl ?_|refine zb rfl ?_)
        (first | refine ps_split rfl rfl (fun h => ?_) (fun h => ?_) | refine pq_split rfl rfl (fun h => ?_) (fun h => ?_))
        · repeat (first|refine pq_end rfl ?_|(refine zs rfl ?_ ?_;·repeat' constructor)|(refine zq rfl ?_ ?_;·repeat' constructor)|refine zw rfl ?_|refine zx rfl ?_|refine zb rfl ?_)
          exact end1b rfl rfl rfl
        have g := of_decide_eq_false h
        clear h
        repeat (first|refine pq_end rfl ?_|(refine zs rfl ?_ ?_;·repeat' constructor)|(refine zq rfl ?_ ?_;·repeat' constructor)|refine zw rfl ?_|refine zx rfl ?_|refine zb rfl ?_)
        refine pw_cond rfl (fun h => ?_) (fun h => ?_)
        · repeat (first|refine pq_end rfl ?_|(refine zs rfl ?_ ?_;·repeat' constructor)|(refine zq rfl ?_ ?_;·repeat' constructor)|refine zw rfl ?_|refine zx rfl ?_|refine zb rfl ?_)
          exact end1b rfl rfl rfl
        · exact absurd h6 (by have := of_decide_eq_false h; omega)
      · have ha : ¬ idx w.items (·.name == a) < 0 := fun h => h6 (.inl h)
        have hb : ¬ idx w.items (·.name == b) < 0 := fun h => h6 (.inr h)
        obtain ⟨x, hx⟩ := idx_some ha
        obtain ⟨y, hy⟩ := idx_some hb
        have e1 := excl1R_ret w hw hz a b ha hb hx hy
        have e2 := excl1R_ret w hw hz b a hb ha hy hx
        rw [exclP_comm] at e2
        have e25 := excl_ref w hw (well_of hz) hz x y (List.mem_of_getElem? hx) (List.mem_of_getElem? hy)
        generalize exclP w x y = v at e1 e2 e25
        refine Ret.of_pwp layOk mixed Go.Proofs.Try.func5 rfl (by decide) rfl rfl ?_
        repeat (first|refine pq_end rfl ?_|(refine zs rfl ?_ ?_;·repeat' constructor)|(refine zq rfl ?_ ?_;·repeat' constructor)|refine zw rfl ?_|refine zx rfl ?_|refine zb rfl ?_)
        (first|refine zsq rfl (q_callP rfl (aw) rfl (by repeat' constructor) rfl rfl) ?_|refine zqq rfl (q_callP rfl (aw) rfl (by repeat' constructor) rfl rfl) ?_)
        repeat (first|refine pq_end rfl ?_|(refine zs rfl ?_ ?_;·repeat' constructor)|(refine zq rfl ?_ ?_;·repeat' constructor)|refine zw rfl ?_|refine zx rfl ?_|refine zb rfl ?_)
        (first|refine zsq rfl (q_callP rfl (h11) rfl (by repeat' constructor) rfl rfl) ?_|refine zqq rfl (q_callP rfl (h11) rfl (by repeat' constructor) rfl rfl) ?_)
        repeat (first|refine pq_end rfl ?_|(refine zs rfl ?_ ?_;·repeat' constructor)|(refine zq rfl ?_ ?_;·repeat' constructor)|refine zw rfl ?_|refine zx rfl ?_|refine zb rfl ?_)
        (first | refine ps_split rfl rfl (fun h => ?_) (fun h => ?_) | refine pq_split rfl rfl (fun h => ?_) (fun h => ?_))
        · repeat (first|refine pq_end rfl ?_|(refine zs rfl ?_ ?_;·repeat' constructor)|(refine zq rfl ?_ ?_;·repeat' constructor)|refine zw rfl ?_|refine zx rfl ?_|refine zb rfl ?_)
          exact end1b rfl rfl rfl
        clear h
        repeat (first|refine pq_end rfl ?_|(refine zs rfl ?_ ?_;·repeat' constructor)|(refine zq rfl ?_ ?_;·repeat' constructor)|refine zw rfl ?_|refine zx rfl ?_|refine zb rfl ?_)
        refine pw_cond rfl (fun h => ?_) (fun h => ?_)
        · repeat (first|refine pq_end rfl ?_|(refine zs rfl ?_ ?_;·repeat' constructor)|(refine zq rfl ?_ ?_;·repeat' constructor)|refine zw rfl ?_|refine zx rfl ?_|refine zb rfl ?_)
          exact end1b rfl rfl rfl
        clear h
        repeat (first|refine pq_end rfl ?_|(refine zs rfl ?_ ?_;·repeat' constructor)|(refine zq rfl ?_ ?_;·repeat' constructor)|refine zw rfl ?_|refine zx rfl ?_|refine zb rfl ?_)
        (first|refine zsq rfl (q_callP rfl (e1) rfl (by repeat' constructor) rfl rfl) ?_|refine zqq rfl (q_callP rfl (e1) rfl (by repeat' constructor) rfl rfl) ?_)
        repeat (first|refine pq_end rfl ?_|(refine zs rfl ?_ ?_;·repeat' constructor)|(refine zq rfl ?_ ?_;·repeat' constructor)|refine zw rfl ?_|refine zx rfl ?_|refine zb rfl ?_)
        (first|refine zsq rfl (q_callP rfl (e2) rfl (by repeat' constructor) rfl rfl) ?_|refine zqq rfl (q_callP rfl (e2) rfl (by repeat' constructor) rfl rfl) ?_)
        repeat (first|refine pq_end rfl ?_|(refine zs rfl ?_ ?_;·repeat' constructor)|(refine zq rfl ?_ ?_;·repeat' constructor)|refine zw rfl ?_|refine zx rfl ?_|refine zb rfl ?_)
        (first|refine zsq rfl (q_callP rfl (h15) rfl (by repeat' constructor) rfl rfl) ?_|refine zqq rfl (q_callP rfl (h15) rfl (by repeat' constructor) rfl rfl) ?_)
        repeat (first|refine pq_end rfl ?_|(refine zs rfl ?_ ?_;·repeat' constructor)|(refine zq rfl ?_ ?_;·repeat' constructor)|refine zw rfl ?_|refine zx rfl ?_|refine zb rfl ?_)
        refine pw_draw 8 [63, 64, 65, 66, 67, 68, 12, 13] (by decide +kernel) ?_
        repeat (first|refine pq_end rfl ?_|(refine zs rfl ?_ ?_;·repeat' constructor)|(refine zq rfl ?_ ?_;·repeat' constructor)|refine zw rfl ?_|refine zx rfl ?_|refine zb rfl ?_)
        (first|refine zsq rfl (q_callP rfl (itemOf_ret w a (by omega)) rfl (by repeat' constructor) rfl rfl) ?_|refine zqq rfl (q_callP rfl (itemOf_ret w a (by omega)) rfl (by repeat' constructor) rfl rfl) ?_)
        repeat (first|refine pq_end rfl ?_|(refine zs rfl ?_ ?_;·repeat' constructor)|(refine zq rfl ?_ ?_;·repeat' constructor)|refine zw rfl ?_|refine zx rfl ?_|refine zb rfl ?_)
        (first|refine zsq rfl (q_callP rfl (itemOf_ret w b (by omega)) rfl (by repeat' constructor) rfl rfl) ?_|refine zqq rfl (q_callP rfl (itemOf_ret w b (by omega)) rfl (by repeat' constructor) rfl rfl) ?_)
        repeat (first|refine pq_end rfl ?_|(refine zs rfl ?_ ?_;·repeat' constructor)|(refine zq rfl ?_ ?_;·repeat' constructor)|refine zw rfl ?_|refine zx rfl ?_|refine zb rfl ?_)
        (first | refine ps_split rfl rfl (fun h => ?_) (fun h => ?_) | refine pq_split rfl rfl (fun h => ?_) (fun h => ?_))
        · exact absurd (of_decide_eq_true h) ha
        clear h
        repeat (first|refine pq_end rfl ?_|(refine zs rfl ?_ ?_;·repeat' constructor)|(refine zq rfl ?_ ?_;·repeat' constructor)|refine zw rfl ?_|refine zx rfl ?_|refine zb rfl ?_)
        refine pw_cond rfl (fun h => ?_) (fun h => ?_)
        · exact absurd (of_decide_eq_true h) hb
        clear h
        repeat (first|refine pq_end rfl ?_|(refine zs rfl ?_ ?_;·repeat' constructor)|(refine zq rfl ?_ ?_;·repeat' constructor)|refine zw rfl ?_|refine zx rfl ?_|refine zb rfl ?_)
        refine pw_draw 28 [89, 90, 91, 92, 93, 94, 95, 96, 97, 98, 99, 100, 101, 102, 103, 104, 105, 106, 107, 108, 109, 110, 111, 112, 113, 114, 115, 6] (by decide +kernel) ?_
        repeat (first|refine pq_end rfl ?_|(refine zs rfl ?_ ?_;·repeat' constructor)|(refine zq rfl ?_ ?_;·repeat' constructor)|refine zw rfl ?_|refine zx rfl ?_|refine zb rfl ?_)
        cases v
        all_goals (repeat (first|refine pq_end rfl ?_|(refine zs rfl ?_ ?_;·repeat' constructor)|(refine zq rfl ?_ ?_;·repeat' constructor)|refine zw rfl ?_|refine zx rfl ?_|refine zb rfl ?_))
        all_goals (first|refine zsq rfl (q_idxm rfl rfl rfl rfl rfl (by omega) hx rfl) ?_|refine zqq rfl (q_idxm rfl rfl rfl rfl rfl (by omega) hx rfl) ?_)
        all_goals (repeat (first|refine pq_end rfl ?_|(refine zs rfl ?_ ?_;·repeat' constructor)|(refine zq rfl ?_ ?_;·repeat' constructor)|refine zw rfl ?_|refine zx rfl ?_|refine zb rfl ?_))
        all_goals (first|refine zsq rfl (q_idxm rfl rfl rfl rfl rfl (by omega) hy rfl) ?_|refine zqq rfl (q_idxm rfl rfl rfl rfl rfl (by omega) hy rfl) ?_)
        all_goals (repeat (first|refine pq_end rfl ?_|(refine zs rfl ?_ ?_;·repeat' constructor)|(refine zq rfl ?_ ?_;·repeat' constructor)|refine zw rfl ?_|refine zx rfl ?_|refine zb rfl ?_))
        all_goals (first|refine zsq rfl (q_callP rfl (e25) rfl (by repeat' constructor) rfl rfl) ?_|refine zqq rfl (q_callP rfl (e25) rfl (by repeat' constructor) rfl rfl) ?_)
        all_goals (repeat (first|refine pq_end rfl ?_|(refine zs rfl ?_ ?_;·repeat' constructor)|(refine zq rfl ?_ ?_;·repeat' constructor)|refine zw rfl ?_|refine zx rfl ?_|refine zb rfl ?_))
        all_goals exact end1b rfl rfl rfl
    · have e1 := excl0_ret w hw hz a b
      have e2 := excl0_ret w hw hz b a
      refine Ret.of_pwp layOk mixed Go.Proofs.Try.func5 rfl (by decide) rfl rfl ?_
      repeat (first|refine pq_end rfl ?_|(refine zs rfl ?_ ?_;·repeat' constructor)|(refine zq rfl ?_ ?_;·repeat' constructor)|refine zw rfl ?_|refine zx rfl ?_|refine zb rfl ?_)
      (first|refine zsq rfl (q_callP rfl (aw) rfl (by repeat' constructor) rfl rfl) ?_|refine zqq rfl (q_callP rfl (aw) rfl (by repeat' constructor) rfl rfl) ?_)
      repeat (first|refine pq_end rfl ?_|(refine zs rfl ?_ ?_;·repeat' constructor)|(refine zq rfl ?_ ?_;·repeat' constructor)|refine zw rfl ?_|refine zx rfl ?_|refine zb rfl ?_)
      (first|refine zsq rfl (q_callP rfl (h11) rfl (by repeat' constructor) rfl rfl) ?_|refine zqq rfl (q_callP rfl (h11) rfl (by repeat' constructor) rfl rfl) ?_)
      repeat (first|refine pq_end rfl ?_|(refine zs rfl ?_ ?_;·repeat' constructor)|(refine zq rfl ?_ ?_;·repeat' constructor)|refine zw rfl ?_|refine zx rfl ?_|refine zb rfl ?_)
      (first | refine ps_split rfl rfl (fun h => ?_) (fun h => ?_) | refine pq_split rfl rfl (fun h => ?_) (fun h => ?_))
      · repeat (first|refine pq_end rfl ?_|(refine zs rfl ?_ ?_;·repeat' constructor)|(refine zq rfl ?_ ?_;·repeat' constructor)|refine zw rfl ?_|refine zx rfl ?_|refine zb rfl ?_)
        exact end1b rfl rfl rfl
      clear h
      repeat (first|refine pq_end rfl ?_|(refine zs rfl ?_ ?_;·repeat' constructor)|(refine zq rfl ?_ ?_;·repeat' constructor)|refine zw rfl ?_|refine zx rfl ?_|refine zb rfl ?_)
      refine pw_cond rfl (fun h => ?_) (fun h => ?_)
      · repeat (first|refine pq_end rfl ?_|(refine zs rfl ?_ ?_;·repeat' constructor)|(refine zq rfl ?_ ?_;·repeat' constructor)|refine zw rfl ?_|refine zx rfl ?_|refine zb rfl ?_)
        exact end1b rfl rfl rfl
      clear h
      repeat (first|refine pq_end rfl ?_|(refine zs rfl ?_ ?_;·repeat' constructor)|(refine zq rfl ?_ ?_;·repeat' constructor)|refine zw rfl ?_|refine zx rfl ?_|refine zb rfl ?_)
      (first|refine zsq rfl (q_callP rfl (e1) rfl (by repeat' constructor) rfl rfl) ?_|refine zqq rfl (q_callP rfl (e1) rfl (by repeat' constructor) rfl rfl) ?_)
      repeat (first|refine pq_end rfl ?_|(refine zs rfl ?_ ?_;·repeat' constructor)|(refine zq rfl ?_ ?_;·repeat' constructor)|refine zw rfl ?_|refine zx rfl ?_|refine zb rfl ?_)
      (first|refine zsq rfl (q_callP rfl (e2) rfl (by repeat' constructor) rfl rfl) ?_|refine zqq rfl (q_callP rfl (e2) rfl (by repeat' constructor) rfl rfl) ?_)
      repeat (first|refine pq_end rfl ?_|(refine zs rfl ?_ ?_;·repeat' constructor)|(refine zq rfl ?_ ?_;·repeat' constructor)|refine zw rfl ?_|refine zx rfl ?_|refine zb rfl ?_)
      (first|refine zsq rfl (q_callP rfl (h15) rfl (by repeat' constructor) rfl rfl) ?_|refine zqq rfl (q_callP rfl (h15) rfl (by repeat' constructor) rfl rfl) ?_)
      repeat (first|refine pq_end rfl ?_|(refine zs rfl ?_ ?_;·repeat' constructor)|(refine zq rfl ?_ ?_;·repeat' constructor)|refine zw rfl ?_|refine zx rfl ?_|refine zb rfl ?_)
      refine pw_cond rfl (fun h => ?_) (fun h => ?_)
      · clear h
        repeat (first|refine pq_end rfl ?_|(refine zs rfl ?_ ?_;·repeat' constructor)|(refine zq rfl ?_ ?_;·repeat' constructor)|refine zw rfl ?_|refine zx rfl ?_|refine zb rfl ?_)
        (first | refine ps_split rfl rfl (fun h => ?_) (fun h => ?_) | refine pq_split rfl rfl (fun h => ?_) (fun h => ?_))
        · repeat (first|refine pq_end rfl ?_|(refine zs rfl ?_ ?_;·repeat' constructor)|(refine zq rfl ?_ ?_;·repeat' constructor)|refine zw rfl ?_|refine zx rfl ?_|refine zb rfl ?_)
          (first | refine ps_split rfl rfl (fun h => ?_) (fun h => ?_) | refine pq_split rfl rfl (fun h => ?_) (fun h => ?_))
          · repeat (first|refine pq_end rfl ?_|(refine zs rfl ?_ ?_;·repeat' constructor)|(refine zq rfl ?_ ?_;·repeat' constructor)|refine zw rfl ?_|refine zx rfl ?_|refine zb rfl ?_)
            exact end1b rfl rfl rfl
          · simp at h
        · simp at h
      · exact absurd (by simpa using h) hz
end Go.Pv

/- The least days and the least work of an item. -/
set_option maxHeartbeats 2000000
namespace Go.Pv
attribute [local irreducible] PWP POps PQuiet PSem XThen XBlock RetPost InlPost
open Go.Proofs

def imin (a b : Int) : Int := if b < a then b else a
def leastF (a : Int) (m : SMode) : Int := imin a m.days
def workF (a : Int) (m : SMode) : Int := imin a (m.days * m.crew)
def leastP (x : SItem) : Int := x.modes.foldl leastF (modeAt x 0).days
def lwP (x : SItem) : Int := x.modes.foldl workF ((modeAt x 0).days * (modeAt x 0).crew)

theorem least_ret (x : SItem) (h1 : 1 ≤ x.modes.length) (h2 : x.modes.length ≤ 1000) (hm : ∀ m ∈ x.modes, (1 ≤ m.days ∧ m.days ≤ 60) ∧ 0 ≤ m.crew ∧ m.crew ≤ 1000) : Ret Try.prog .shared 118 [.agg (eItem x)] (.tup [I (leastP x), I (lwP x)]) := by
  have hm0 : x.modes[0]? = some (modeAt x 0) := by rw [modeAt]; show _ = some ((x.modes[0]?).getD _); rw [List.getElem?_eq_getElem (by omega)]; rfl
  refine Ret.of_pwp layOk mixed Go.Proofs.Try.func118 rfl (by decide) rfl rfl ?_
  repeat (first|refine pq_end rfl ?_|(refine zs rfl ?_ ?_;·repeat' constructor)|(refine zq rfl ?_ ?_;·repeat' constructor)|refine zw rfl ?_|refine zx rfl ?_|refine zb rfl ?_)
  refine pw_draw 18 [6, 7, 8, 9, 10, 11, 12, 13, 14, 15, 16, 17, 18, 19, 20, 21, 2, 3] (by decide +kernel) ?_
  repeat (first|refine pq_end rfl ?_|(refine zs rfl ?_ ?_;·repeat' constructor)|(refine zq rfl ?_ ?_;·repeat' constructor)|refine zw rfl ?_|refine zx rfl ?_|refine zb rfl ?_)
  (first|refine zsq rfl (q_idxm (n := (((0:Nat):Int) : Int)) rfl rfl rfl rfl rfl (by omega) hm0 rfl) ?_|refine zqq rfl (q_idxm (n := (((0:Nat):Int) : Int)) rfl rfl rfl rfl rfl (by omega) hm0 rfl) ?_)
  repeat (first|refine pq_end rfl ?_|(refine zs rfl ?_ ?_;·repeat' constructor)|(refine zq rfl ?_ ?_;·repeat' constructor)|refine zw rfl ?_|refine zx rfl ?_|refine zb rfl ?_)
  (first|refine zsq rfl (q_idxm (n := (((0:Nat):Int) : Int)) rfl rfl rfl rfl rfl (by omega) hm0 rfl) ?_|refine zqq rfl (q_idxm (n := (((0:Nat):Int) : Int)) rfl rfl rfl rfl rfl (by omega) hm0 rfl) ?_)
  repeat (first|refine pq_end rfl ?_|(refine zs rfl ?_ ?_;·repeat' constructor)|(refine zq rfl ?_ ?_;·repeat' constructor)|refine zw rfl ?_|refine zx rfl ?_|refine zb rfl ?_)
  (first|refine zsq rfl (q_idxm (n := (((0:Nat):Int) : Int)) rfl rfl rfl rfl rfl (by omega) hm0 rfl) ?_|refine zqq rfl (q_idxm (n := (((0:Nat):Int) : Int)) rfl rfl rfl rfl rfl (by omega) hm0 rfl) ?_)
  repeat (first|refine pq_end rfl ?_|(refine zs rfl ?_ ?_;·repeat' constructor)|(refine zq rfl ?_ ?_;·repeat' constructor)|refine zw rfl ?_|refine zx rfl ?_|refine zb rfl ?_)
  have hml : (x.modes.map eMode).length = x.modes.length := by simp
  have hb0 := mul_bound (A := 60) (B := 1000) (by have := (hm _ (List.mem_of_getElem? hm0)).1; omega) (hm _ (List.mem_of_getElem? hm0)).1.2 (hm _ (List.mem_of_getElem? hm0)).2.1 (hm _ (List.mem_of_getElem? hm0)).2.2
  refine pw_loop (fun k => k ≤ x.modes.length) (fun k => [(1, .ptr 1 1 0 0), (2, I ((x.modes.take k).foldl leastF (modeAt x 0).days)), (3, I ((x.modes.take k).foldl workF ((modeAt x 0).days * (modeAt x 0).crew))), (23, .sl (x.modes.map eMode)), (24, I x.modes.length), (25, I k)])
    (fun k => [(1, 1, ⟨57, 7, [eItem x], 2⟩)]) (fun k => x.modes.length - k) 0 (Nat.zero_le _) ⟨rfl, rfl, ?_, rfl, ?_, rfl, rfl, trivial⟩ ?_
  · exact congrArg I (wrap_i64 (by omega) (by omega))
  · show I ((x.modes.map eMode).length) = _
    rw [hml]
  intro k s hk
  repeat (first|refine pq_end rfl ?_|(refine zs rfl ?_ ?_;·repeat' constructor)|(refine zq rfl ?_ ?_;·repeat' constructor)|refine zw rfl ?_|refine zx rfl ?_|refine zb rfl ?_)
  refine pw_cond rfl (fun h => ?_) (fun h => ?_)
  · have hlt : k < x.modes.length := by simpa using h
    obtain ⟨m, hmk⟩ := get_lt hlt
    clear h
    have hmm := hm m (List.mem_of_getElem? hmk)
    have hb := mul_bound (A := 60) (B := 1000) (by omega) hmm.1.2 hmm.2.1 hmm.2.2
    have hs := take_snoc hmk
    repeat (first|refine pq_end rfl ?_|(refine zs rfl ?_ ?_;·repeat' constructor)|(refine zq rfl ?_ ?_;·repeat' constructor)|refine zw rfl ?_|refine zx rfl ?_|refine zb rfl ?_)
    (first|refine zsq rfl (q_idxm rfl rfl rfl rfl rfl (by omega) hmk rfl) ?_|refine zqq rfl (q_idxm rfl rfl rfl rfl rfl (by omega) hmk rfl) ?_)
    repeat (first|refine pq_end rfl ?_|(refine zs rfl ?_ ?_;·repeat' constructor)|(refine zq rfl ?_ ?_;·repeat' constructor)|refine zw rfl ?_|refine zx rfl ?_|refine zb rfl ?_)
    refine pw_ghost (Ghost.data (k := 5) (t := 5) (row := eMode m) rfl rfl rfl rfl) ?_
    refine pw_draw2 11 0 [29, 30, 31, 32, 33, 34, 35, 36, 37, 38, 39] [4,5,6,7,8,9,10] (by decide +kernel) rfl ?_
    repeat (first|refine pq_end rfl ?_|(refine zs rfl ?_ ?_;·repeat' constructor)|(refine zq rfl ?_ ?_;·repeat' constructor)|refine zw rfl ?_|refine zx rfl ?_|refine zb rfl ?_)
    refine ⟨k + 1, hlt, by omega, rfl, ?_, ?_, rfl, rfl, ?_, rfl, trivial⟩
    · rw [hs, List.foldl_append]; rfl
    · rw [hs, List.foldl_append]
      refine congrArg I ?_
      show (if IntKind.i64.wrap (m.days * m.crew) < _ then IntKind.i64.wrap (m.days * m.crew) else _) = workF _ m
      rw [wrap_i64 (by omega) (by omega)]; rfl
    · exact i64_next (by omega) (by omega)
  · have hge : k = x.modes.length := by have := of_decide_eq_false h; omega
    subst hge
    rw [List.take_length]
    repeat (first|refine pq_end rfl ?_|(refine zs rfl ?_ ?_;·repeat' constructor)|(refine zq rfl ?_ ?_;·repeat' constructor)|refine zw rfl ?_|refine zx rfl ?_|refine zb rfl ?_)
    exact end2 rfl rfl rfl rfl rfl trivial trivial rfl
end Go.Pv

/- The longest chains from each item. -/
set_option maxHeartbeats 2000000
namespace Go.Pv
attribute [local irreducible] PWP POps PQuiet PSem XThen XBlock RetPost InlPost RetPostO
open Go.Proofs

theorem flat_eI (l : List Int) : (l.map eI).all (·.all PV.flat1) = true := by
  induction l with
  | nil => rfl
  | cons a l ih => rw [List.map_cons, List.all_cons, ih]; rfl

theorem ordered_own (w : SWork) (h1 : w.items.length ≤ 100000) (h2 : ∀ x ∈ w.items, x.after.length ≤ 100000) : RetO Try.prog 58 [.agg (eWork w)] 3 1 ((ordS w).map eI) := by
  have hbl : (bef w).length = w.items.length := by simp [bef]
  have hbe : ∀ l ∈ bef w, l.length ≤ 1000000 := fun l hl => by
    obtain ⟨x, hx, rfl⟩ := List.mem_map.1 hl
    have := h2 x hx
    simp [aft]; omega
  have hml : ((bef w).map eL).length = w.items.length := by rw [List.length_map, hbl]
  refine RetO.of_pwp layOk mixed Go.Proofs.Try.func58 rfl (by decide) rfl rfl ?_
  repeat (first|refine pq_end rfl ?_|(refine zs rfl ?_ ?_;·repeat' constructor)|(refine zq rfl ?_ ?_;·repeat' constructor)|refine zw rfl ?_|refine zx rfl ?_|refine zb rfl ?_)
  (first|refine zsq rfl (q_call rfl (before_ret w h1 h2) rfl (by repeat' constructor) rfl) ?_|refine zqq rfl (q_call rfl (before_ret w h1 h2) rfl (by repeat' constructor) rfl) ?_)
  repeat (first|refine pq_end rfl ?_|(refine zs rfl ?_ ?_;·repeat' constructor)|(refine zq rfl ?_ ?_;·repeat' constructor)|refine zw rfl ?_|refine zx rfl ?_|refine zb rfl ?_)
  refine pw_ghost (Ghost.nilcell (k := 42) (k0 := 4) (i := 0) (j := 0) 3 1 0 rfl rfl rfl rfl (row := [.nil]) rfl rfl rfl) ?_
  refine pw_loop (fun out : List Int => out.length ≤ w.items.length ∧ ordS w = orderF ((bef w).length - out.length) (bef w) out) (fun _ => [(1, .ptr 1 1 0 0), (3, .sl ((bef w).map eL)), (4, .ptr 4 1 0 0)])
    (fun out => [(1, 1, ⟨28, 9, [eWork w], 2⟩), (4, 1, ⟨72, 1, [[.als 42 (1 + out.length) 0 (out.map eI).length]], 2⟩), (42, 1 + out.length, ⟨3, 1, out.map eI, 0⟩)]) (fun out => w.items.length - out.length) [] ⟨by simp, rfl⟩ ⟨rfl, rfl, rfl, rfl, rfl, rfl, trivial⟩ ?_
  rintro out s ⟨hol, hos⟩
  have hoe : (out.map eI).length = out.length := by simp
  repeat (first|refine pq_end rfl ?_|(refine zs rfl ?_ ?_;·repeat' constructor)|(refine zq rfl ?_ ?_;·repeat' constructor)|refine zw rfl ?_|refine zx rfl ?_|refine zb rfl ?_)
  refine pw_cond rfl (fun h => ?_) (fun h => ?_)
  · have hlt : out.length < w.items.length := by have := of_decide_eq_true h; omega
    clear h
    repeat (first|refine pq_end rfl ?_|(refine zs rfl ?_ ?_;·repeat' constructor)|(refine zq rfl ?_ ?_;·repeat' constructor)|refine zw rfl ?_|refine zx rfl ?_|refine zb rfl ?_)
    (first|refine zsq rfl (q_callP rfl (indexFL_ret (bef w) 99 [.sl (out.map eI)] (readyB out) (by omega) (fun l hl => ord1_ret out (by omega) l (hbe l hl))) rfl (by repeat' constructor) rfl rfl) ?_|refine zqq rfl (q_callP rfl (indexFL_ret (bef w) 99 [.sl (out.map eI)] (readyB out) (by omega) (fun l hl => ord1_ret out (by omega) l (hbe l hl))) rfl (by repeat' constructor) rfl rfl) ?_)
    repeat (first|refine pq_end rfl ?_|(refine zs rfl ?_ ?_;·repeat' constructor)|(refine zq rfl ?_ ?_;·repeat' constructor)|refine zw rfl ?_|refine zx rfl ?_|refine zb rfl ?_)
    refine pw_loop (fun nx : Int => NextAt (bef w) out nx) (fun nx => [(1, .ptr 1 1 0 0), (3, .sl ((bef w).map eL)), (4, .ptr 4 1 0 0), (5, I nx)])
      (fun _ => [(1, 1, ⟨28, 9, [eWork w], 2⟩), (4, 1, ⟨72, 1, [[.als 42 (1 + out.length) 0 (out.map eI).length]], 2⟩), (42, 1 + out.length, ⟨3, 1, out.map eI, 0⟩)]) (fun nx => if nx < 0 then 0 else ((bef w).length - nx).toNat + 1) _ (.start _ _) ⟨rfl, rfl, rfl, rfl, rfl, rfl, rfl, trivial⟩ ?_
    intro nx s' hnx
    have hb := hnx.lt
    repeat (first|refine pq_end rfl ?_|(refine zs rfl ?_ ?_;·repeat' constructor)|(refine zq rfl ?_ ?_;·repeat' constructor)|refine zw rfl ?_|refine zx rfl ?_|refine zb rfl ?_)
    (first | refine ps_split rfl rfl (fun h => ?_) (fun h => ?_) | refine pq_split rfl rfl (fun h => ?_) (fun h => ?_))
    · have h0 := of_decide_eq_true h
      repeat (first|refine pq_end rfl ?_|(refine zs rfl ?_ ?_;·repeat' constructor)|(refine zq rfl ?_ ?_;·repeat' constructor)|refine zw rfl ?_|refine zx rfl ?_|refine zb rfl ?_)
      (first|refine zsq rfl (q_callP rfl (containsI_ret out nx (by omega)) rfl (by repeat' constructor) rfl rfl) ?_|refine zqq rfl (q_callP rfl (containsI_ret out nx (by omega)) rfl (by repeat' constructor) rfl rfl) ?_)
      repeat (first|refine pq_end rfl ?_|(refine zs rfl ?_ ?_;·repeat' constructor)|(refine zq rfl ?_ ?_;·repeat' constructor)|refine zw rfl ?_|refine zx rfl ?_|refine zb rfl ?_)
      refine pw_cond rfl (fun h => ?_) (fun h => ?_)
      · have hin := h
        clear h
        obtain ⟨i, rfl⟩ : ∃ i : Nat, nx = i := ⟨nx.toNat, by omega⟩
        have hw1 : IntKind.i64.wrap ((i : Int) + 1) = (i + 1 : Nat) := by rw [wrap_i64 (by omega) (by omega)]; omega
        have hst := hnx.step hin
        have hrl := (NextAt.start ((bef w).drop (i + 1)) out).lt
        rw [List.length_drop] at hrl
        repeat (first|refine pq_end rfl ?_|(refine zs rfl ?_ ?_;·repeat' constructor)|(refine zq rfl ?_ ?_;·repeat' constructor)|refine zw rfl ?_|refine zx rfl ?_|refine zb rfl ?_)
        rw [hw1]
        refine ps_q (q_slcm rfl rfl rfl rfl rfl (by omega) (by omega) (fun _ => rfl)) ?_
        rw [Int.toNat_natCast]
        repeat (first|refine pq_end rfl ?_|(refine zs rfl ?_ ?_;·repeat' constructor)|(refine zq rfl ?_ ?_;·repeat' constructor)|refine zw rfl ?_|refine zx rfl ?_|refine zb rfl ?_)
        (first|refine zsq rfl (q_callP rfl (indexFL_ret ((bef w).drop (i + 1)) 103 [.sl (out.map eI)] (readyB out) (by rw [List.length_drop]; omega) (fun l hl => ord2_ret out (by omega) l (hbe l (List.mem_of_mem_drop hl)))) rfl (by repeat' constructor) rfl rfl) ?_|refine zqq rfl (q_callP rfl (indexFL_ret ((bef w).drop (i + 1)) 103 [.sl (out.map eI)] (readyB out) (by rw [List.length_drop]; omega) (fun l hl => ord2_ret out (by omega) l (hbe l (List.mem_of_mem_drop hl)))) rfl (by repeat' constructor) rfl rfl) ?_)
        repeat (first|refine pq_end rfl ?_|(refine zs rfl ?_ ?_;·repeat' constructor)|(refine zq rfl ?_ ?_;·repeat' constructor)|refine zw rfl ?_|refine zx rfl ?_|refine zb rfl ?_)
        refine pw_cond rfl (fun h => ?_) (fun h => ?_)
        · have hneg := of_decide_eq_true h
          rw [if_pos hneg] at hst
          repeat (first|refine pq_end rfl ?_|(refine zs rfl ?_ ?_;·repeat' constructor)|(refine zq rfl ?_ ?_;·repeat' constructor)|refine zw rfl ?_|refine zx rfl ?_|refine zb rfl ?_)
          refine ⟨-1, hst, by rw [if_pos (by omega), if_neg (by omega)]; omega, rfl, rfl, rfl, rfl, rfl, rfl, rfl, trivial⟩
        · have hneg := of_decide_eq_false h
          rw [if_neg hneg] at hst
          have hlt2 := hst.lt
          repeat (first|refine pq_end rfl ?_|(refine zs rfl ?_ ?_;·repeat' constructor)|(refine zq rfl ?_ ?_;·repeat' constructor)|refine zw rfl ?_|refine zx rfl ?_|refine zb rfl ?_)
          refine ⟨_, hst, by rw [if_neg (by omega), if_neg (by omega)]; omega, rfl, rfl, rfl, ?_, rfl, rfl, rfl, trivial⟩
          show PV.int .i64 (IntKind.i64.wrap (_ + IntKind.i64.wrap (1 + _))) = _
          rw [wrap_i64 (n := 1 + _) (by omega) (by omega), wrap_i64 (by omega) (by omega)]
      · have hnin := h
        clear h
        have hnext := hnx.done (.inr hnin)
        have hol2 : (out ++ [nx]).length = out.length + 1 := by simp
        have hoapp : (out ++ [nx]).map eI = out.map eI ++ [eI nx] := by rw [List.map_append]; rfl
        repeat (first|refine pq_end rfl ?_|(refine zs rfl ?_ ?_;·repeat' constructor)|(refine zq rfl ?_ ?_;·repeat' constructor)|refine zw rfl ?_|refine zx rfl ?_|refine zb rfl ?_)
        refine pw_cond rfl (fun h => ?_) (fun h => ?_)
        · have := of_decide_eq_true h; omega
        repeat (first|refine pq_end rfl ?_|(refine zs rfl ?_ ?_;·repeat' constructor)|(refine zq rfl ?_ ?_;·repeat' constructor)|refine zw rfl ?_|refine zx rfl ?_|refine zb rfl ?_)
        refine ps_run (o_slit 0 rfl rfl rfl rfl rfl rfl rfl rfl rfl rfl rfl (by repeat' constructor) rfl ?_)
        repeat (first|refine pq_end rfl ?_|(refine zs rfl ?_ ?_;·repeat' constructor)|(refine zq rfl ?_ ?_;·repeat' constructor)|refine zw rfl ?_|refine zx rfl ?_|refine zb rfl ?_)
        refine ps_run (o_app 0 rfl rfl rfl rfl rfl rfl rfl rfl rfl rfl rfl (by repeat' constructor) (by intro row hr; first | (simp at hr; subst hr; rfl) | simp at hr) rfl rfl (by simp; omega) (by simp; omega) ?_)
        repeat (first|refine pq_end rfl ?_|(refine zs rfl ?_ ?_;·repeat' constructor)|(refine zq rfl ?_ ?_;·repeat' constructor)|refine zw rfl ?_|refine zx rfl ?_|refine zb rfl ?_)
        refine ⟨out ++ [nx], ⟨by simp; omega, ?_⟩, by simp; omega, rfl, rfl, rfl, rfl, ?_, ?_, trivial⟩
        · rw [hos, show (bef w).length - out.length = ((bef w).length - (out ++ [nx]).length) + 1 by simp; omega, orderF, hnext, if_neg (by omega)]
        · show (1, some (Cont.mk 72 1 [[PV.als 42 (1 + out.length + 1) 0 (out.map eI ++ [eI nx]).length]] 2)) = _
          rw [hoapp, hol2]; rfl
        · show (1 + out.length + 1, some (Cont.mk 3 1 (out.map eI ++ [eI nx]) 0)) = _
          rw [hoapp, hol2]; rfl
    · have h0 := of_decide_eq_false h
      have hnext := hnx.done (.inl (by omega))
      repeat (first|refine pq_end rfl ?_|(refine zs rfl ?_ ?_;·repeat' constructor)|(refine zq rfl ?_ ?_;·repeat' constructor)|refine zw rfl ?_|refine zx rfl ?_|refine zb rfl ?_)
      refine pw_cond rfl (fun h => ?_) (fun h => ?_)
      · repeat (first|refine pq_end rfl ?_|(refine zs rfl ?_ ?_;·repeat' constructor)|(refine zq rfl ?_ ?_;·repeat' constructor)|refine zw rfl ?_|refine zx rfl ?_|refine zb rfl ?_)
        exact endO rfl rfl rfl rfl (flat_eI _) (by rw [hos, show (bef w).length - out.length = ((bef w).length - out.length - 1) + 1 by omega, orderF, hnext, if_pos (by omega)])
      · have := of_decide_eq_false h; omega
  · have hge : (bef w).length - out.length = 0 := by have := of_decide_eq_false h; omega
    repeat (first|refine pq_end rfl ?_|(refine zs rfl ?_ ?_;·repeat' constructor)|(refine zq rfl ?_ ?_;·repeat' constructor)|refine zw rfl ?_|refine zx rfl ?_|refine zb rfl ?_)
    exact endO rfl rfl rfl rfl (flat_eI _) (by rw [hos, hge]; rfl)
/-! ### A list turned round in place -/
/-- After 'i' swaps. -/
def RevAt (l : List Int) (q : Nat × List Int) : Prop :=
  q.2.length = l.length ∧ q.1 ≤ l.length ∧ ∀ p, p < l.length → q.2[p]? = if p < q.1 ∨ l.length < p + 1 + q.1 then l[l.length - 1 - p]? else l[p]?
theorem RevAt.zero (l : List Int) : RevAt l (0, l) := ⟨rfl, Nat.zero_le _, fun p hp => by rw [if_neg (by omega)]⟩
theorem RevAt.done {l r : List Int} {i : Nat} (h : RevAt l (i, r)) (hi : l.length ≤ 2 * i + 1) : r = l.reverse := by
  obtain ⟨h1, h2, h3⟩ := h
  apply List.ext_getElem?
  intro p
  rcases Nat.lt_or_ge p l.length with hp | hp
  · have := h3 p hp
    simp only at this
    rw [this, List.getElem?_reverse hp]
    split
    · rfl
    · congr 1; omega
  · rw [List.getElem?_eq_none (by simp only at h1; omega), List.getElem?_eq_none (by simp; omega)]
theorem RevAt.step {l r : List Int} {i : Nat} {x y : Int} (h : RevAt l (i, r)) (hi : 2 * i + 1 < l.length) (hx : r[i]? = some x) (hy : r[l.length - 1 - i]? = some y) : RevAt l (i + 1, (r.set i y).set (l.length - 1 - i) x) := by
  obtain ⟨h1, h2, h3⟩ := h
  simp only at h1 h2 h3
  refine ⟨by simpa using h1, by show i + 1 ≤ _; omega, fun p hp => ?_⟩
  show ((r.set i y).set (l.length - 1 - i) x)[p]? = if p < i + 1 ∨ l.length < p + 1 + (i + 1) then _ else _
  have ex := h3 i (by omega)
  have ey := h3 (l.length - 1 - i) (by omega)
  rw [hx, if_neg (by omega)] at ex
  rw [hy, if_neg (by omega)] at ey
  by_cases hp1 : p = l.length - 1 - i
  · subst hp1
    rw [List.getElem?_set_self (by simp; omega), if_pos (by omega), ex]
    congr 1; omega
  · rw [List.getElem?_set_ne (Ne.symm hp1)]
    by_cases hp2 : p = i
    · subst hp2
      rw [List.getElem?_set_self (by omega), if_pos (by omega), ey]
    · rw [List.getElem?_set_ne (Ne.symm hp2), h3 p hp]
      by_cases hc : p < i ∨ l.length < p + 1 + i
      · rw [if_pos hc, if_pos (by omega)]
      · rw [if_neg hc, if_neg (by omega)]

theorem inl_end0 {L : Lay} {fn : Func} {K : St → PV → Prop} {s : St} (h : fn.results.toList = []) (hk : K s (.tup [])) : InlPost L fn K .normal s := by
  unfold InlPost
  exact ⟨[], True, by rw [h]; rfl, trivial, hk⟩

set_option maxRecDepth 20000 in
theorem reverse18 {K : St → Prop} {s : St} {d : Nat} {x : Operand} {tys : Array TypeId} {ty : TypeId} {pos : String} {af : Array Edge} (w : SWork) (R : List (List PV)) (l : List Int) (hl : l.length ≤ 1000000) (hx : s.ev x = .als 18 1 0 (l.map eI).length) (ho : FitO s [(1, 1, ⟨28, 9, [eWork w], 2⟩), (16, 1, ⟨3, 1, R, 0⟩), (18, 1, ⟨3, 1, l.map eI, 0⟩)])
    (hK : ∀ s1 : St, K (({ reg := s.reg, own := (s1.over [] [(1, 1, ⟨28, 9, [eWork w], 2⟩), (16, 1, ⟨3, 1, R, 0⟩), (18, 1, ⟨3, 1, l.reverse.map eI, 0⟩)]).own } : St).putR d (.tup []))) :
    Sm Try.prog lay.get s ⟨some d, .call ⟨.value (.func 124), #[x], tys⟩, ty, pos, af, none⟩ K := by
  have hsub : ∀ (r : List Int), ((r.map eI).length : Int) = r.length := fun r => by simp
  refine sm_inline layOk rfl rfl Try.func124 rfl (by decide) rfl rfl ?_
  have hargs : (([x] : List Operand).map s.ev ++ ([] : List PV)) = [.als 18 1 0 (l.map eI).length] := by simp [hx]
  show PWP _ _ _ _ (callSt s (([x] : List Operand).map s.ev ++ []))
  rw [hargs]
  rw [show callSt s [.als 18 1 0 (l.map eI).length] = callSt (s.over [] [(1, 1, ⟨28, 9, [eWork w], 2⟩), (16, 1, ⟨3, 1, R, 0⟩), (18, 1, ⟨3, 1, l.map eI, 0⟩)]) [.als 18 1 0 (l.map eI).length] by rw [Fit.over (l := []) ho]]
  repeat (first|refine pq_end rfl ?_|(refine zs rfl ?_ ?_;·repeat' constructor)|(refine zq rfl ?_ ?_;·repeat' constructor)|refine zw rfl ?_|refine zx rfl ?_|refine zb rfl ?_)
  refine pw_loop (RevAt l) (fun q => [(0, .als 18 1 0 (l.map eI).length), (2, I q.1), (3, I ((l.length : Int) - 1 - q.1))]) (fun q => [(1, 1, ⟨28, 9, [eWork w], 2⟩), (16, 1, ⟨3, 1, R, 0⟩), (18, 1, ⟨3, 1, q.2.map eI, 0⟩)]) (fun q => l.length - q.1) (0, l) (.zero l) ⟨rfl, rfl, ?_, rfl, rfl, rfl, trivial⟩ ?_
  · show PV.int .i64 (IntKind.i64.wrap (((l.map eI).length : Int) - 1)) = _
    rw [wrap_i64 (by rw [hsub]; omega) (by rw [hsub]; omega), hsub]
    exact congrArg I (by simp)
  rintro ⟨i, r⟩ s1 hr
  have h1 : r.length = l.length := hr.1
  have h2 : i ≤ l.length := hr.2.1
  repeat (first|refine pq_end rfl ?_|(refine zs rfl ?_ ?_;·repeat' constructor)|(refine zq rfl ?_ ?_;·repeat' constructor)|refine zw rfl ?_|refine zx rfl ?_|refine zb rfl ?_)
  refine pw_cond rfl (fun h => ?_) (fun h => ?_)
  · have hlt : 2 * i + 1 < l.length := by have := of_decide_eq_true h; omega
    clear h
    obtain ⟨u, hu⟩ := get_lt (show i < r.length by omega)
    obtain ⟨v, hv⟩ := get_lt (show l.length - 1 - i < r.length by omega)
    have hj : ((l.length : Int) - 1 - i) = ((l.length - 1 - i : Nat) : Int) := by omega
    have hui : (r.map eI)[i]? = some (eI u) := by rw [List.getElem?_map, hu]; rfl
    have hvj : (r.map eI)[l.length - 1 - i]? = some (eI v) := by rw [List.getElem?_map, hv]; rfl
    have hll : (l.map eI).length = l.length := by simp
    repeat (first|refine pq_end rfl ?_|(refine zs rfl ?_ ?_;·repeat' constructor)|(refine zq rfl ?_ ?_;·repeat' constructor)|refine zw rfl ?_|refine zx rfl ?_|refine zb rfl ?_)
    refine pw_draw2 13 0 [14, 15, 16, 17, 18, 19, 20, 21, 22, 23, 24, 25, 26] [2,3] (by decide +kernel) rfl ?_
    repeat (first|refine pq_end rfl ?_|(refine zs rfl ?_ ?_;·repeat' constructor)|(refine zq rfl ?_ ?_;·repeat' constructor)|refine zw rfl ?_|refine zx rfl ?_|refine zb rfl ?_)
    rw [hj]
    refine pq_q (q_idxA rfl rfl rfl rfl rfl rfl rfl (by omega) (by rw [hll]; omega)) ?_
    rw [Int.toNat_natCast, Nat.zero_add (l.length - 1 - i)]
    refine pq_q (q_ldp rfl rfl rfl hvj rfl) ?_
    repeat (first|refine pq_end rfl ?_|(refine zs rfl ?_ ?_;·repeat' constructor)|(refine zq rfl ?_ ?_;·repeat' constructor)|refine zw rfl ?_|refine zx rfl ?_|refine zb rfl ?_)
    refine pq_q (q_idxA rfl rfl rfl rfl rfl rfl rfl (by omega) (by rw [hll]; omega)) ?_
    rw [Int.toNat_natCast, Nat.zero_add i]
    refine pq_q (q_ldp rfl rfl rfl hui rfl) ?_
    repeat (first|refine pq_end rfl ?_|(refine zs rfl ?_ ?_;·repeat' constructor)|(refine zq rfl ?_ ?_;·repeat' constructor)|refine zw rfl ?_|refine zx rfl ?_|refine zb rfl ?_)
    refine pq_q (q_idxA rfl rfl rfl rfl rfl rfl rfl (by omega) (by rw [hll]; omega)) ?_
    rw [Int.toNat_natCast, Nat.zero_add i]
    repeat (first|refine pq_end rfl ?_|(refine zs rfl ?_ ?_;·repeat' constructor)|(refine zq rfl ?_ ?_;·repeat' constructor)|refine zw rfl ?_|refine zx rfl ?_|refine zb rfl ?_)
    refine ps_run0 (o_store (kd' := 0) rfl rfl rfl hui rfl rfl (by repeat' constructor) rfl rfl rfl rfl ?_)
    refine ps_q (q_idxA rfl rfl rfl rfl rfl rfl rfl (by omega) (by rw [hll]; omega)) ?_
    rw [Int.toNat_natCast, Nat.zero_add (l.length - 1 - i)]
    refine ps_run0 (o_store (kd' := 0) rfl rfl rfl (row := eI v) (by
      show ((r.map eI).set i _)[l.length - 1 - i]? = _
      rw [List.getElem?_set_ne (by omega)]; exact hvj) rfl rfl (by repeat' constructor) rfl rfl rfl rfl ?_)
    repeat (first|refine pq_end rfl ?_|(refine zs rfl ?_ ?_;·repeat' constructor)|(refine zq rfl ?_ ?_;·repeat' constructor)|refine zw rfl ?_|refine zx rfl ?_|refine zb rfl ?_)
    refine ⟨(i + 1, (r.set i v).set (l.length - 1 - i) u), hr.step hlt hu hv, by show l.length - (i + 1) < l.length - i; omega, rfl, ?_, ?_, rfl, rfl, ?_, trivial⟩
    · exact i64_next (by omega) (by omega)
    · show PV.int .i64 (IntKind.i64.wrap (((l.length - 1 - i : Nat) : Int) - 1)) = _
      rw [wrap_i64 (by omega) (by omega)]
      exact congrArg I (by show ((l.length - 1 - i : Nat) : Int) - 1 = (l.length : Int) - 1 - ((i + 1 : Nat) : Int); omega)
    · refine Eq.trans (b := (1, some (Cont.mk 3 1 (((r.map eI).set i (eI v)).set (l.length - 1 - i) (eI u)) 0))) rfl ?_
      rw [← List.map_set, ← List.map_set]
  · have hd := hr.done (by have := of_decide_eq_false h; omega)
    subst hd
    repeat (first|refine pq_end rfl ?_|(refine zs rfl ?_ ?_;·repeat' constructor)|(refine zq rfl ?_ ?_;·repeat' constructor)|refine zw rfl ?_|refine zx rfl ?_|refine zb rfl ?_)
    exact inl_end0 rfl (hK s1)
end Go.Pv

/- The longest chains from each item: what the program reckons. -/
set_option maxHeartbeats 2000000
namespace Go.Pv
attribute [local irreducible] PWP POps PQuiet PSem XThen XBlock RetPost InlPost
open Go.Proofs

theorem fold_bound {α : Type} {f : Int → α → Int} {A B : Int} (hf : ∀ a m, A ≤ a → a ≤ B → A ≤ f a m ∧ f a m ≤ B) : ∀ (l : List α) (a : Int), A ≤ a → a ≤ B → A ≤ l.foldl f a ∧ l.foldl f a ≤ B
  | [], a, h1, h2 => ⟨h1, h2⟩
  | m :: l, a, h1, h2 => by
    have := hf a m h1 h2
    exact fold_bound hf l (f a m) this.1 this.2
theorem fold_bound' {α : Type} {f : Int → α → Int} {A B : Int} : ∀ (l : List α) (a : Int), (∀ a m, m ∈ l → A ≤ a → a ≤ B → A ≤ f a m ∧ f a m ≤ B) → A ≤ a → a ≤ B → A ≤ l.foldl f a ∧ l.foldl f a ≤ B
  | [], a, _, h1, h2 => ⟨h1, h2⟩
  | m :: l, a, hf, h1, h2 => by
    have := hf a m (by simp) h1 h2
    exact fold_bound' l (f a m) (fun a m' hm => hf a m' (by simp [hm])) this.1 this.2
theorem leastP_bound {w : SWork} {x : SItem} (h : ItemOk w x) : 1 ≤ leastP x ∧ leastP x ≤ 60 := by
  have hm0 : x.modes[0]? = some (modeAt x 0) := by rw [modeAt]; show _ = some ((x.modes[0]?).getD _); rw [List.getElem?_eq_getElem (by have := h.modes; omega)]; rfl
  have h0 := (h.mode _ (List.mem_of_getElem? hm0)).1
  refine fold_bound' x.modes _ (fun a m hm ha hb => ?_) h0.1 h0.2
  have := (h.mode m hm).1
  unfold leastF imin
  split <;> omega

def bestF (w : SWork) (out : List Int) (i : Int) (a : Int) (j : Nat) : Int := if ((bef w).getD j []).any (· == i) = true then imax a (out.getD j 0) else a
def bestC (w : SWork) (out : List Int) (i : Int) (n : Nat) : Int := (List.range n).foldl (bestF w out i) 0
def stepC (w : SWork) (out : List Int) (i : Int) : List Int := out.set i.toNat (leastP (itP w i) + bestC w out i w.items.length)
def chainK (w : SWork) (k : Nat) : List Int := ((ordS w).reverse.take k).foldl (stepC w) (List.replicate w.items.length 0)
def chainS (w : SWork) : List Int := (ordS w).reverse.foldl (stepC w) (List.replicate w.items.length 0)
theorem bestC_succ (w : SWork) (out : List Int) (i : Int) (n : Nat) : bestC w out i (n + 1) = bestF w out i (bestC w out i n) n := by rw [bestC, List.range_succ, List.foldl_append]; rfl
theorem bestC_bound {w : SWork} {out : List Int} {B : Int} (h : ∀ v ∈ out, 0 ≤ v ∧ v ≤ B) (hB : 0 ≤ B) (i : Int) (n : Nat) : 0 ≤ bestC w out i n ∧ bestC w out i n ≤ B := by
  refine fold_bound (fun a j ha hb => ?_) _ _ (Int.le_refl _) hB
  have hv : 0 ≤ out.getD j 0 ∧ out.getD j 0 ≤ B := by
    rw [List.getD_eq_getElem?_getD]
    cases hq : out[j]? with
    | none => exact ⟨Int.le_refl _, hB⟩
    | some v => exact h v (List.mem_of_getElem? hq)
  unfold bestF imax
  split
  · split <;> omega
  · omega
theorem chainK_ok {w : SWork} (hv : Well w) (k : Nat) (hk : k ≤ (ordS w).length) : (chainK w k).length = w.items.length ∧ ∀ v ∈ chainK w k, 0 ≤ v ∧ v ≤ 60 * k := by
  induction k with
  | zero => exact ⟨by simp [chainK], fun v hm => by simp [chainK] at hm; omega⟩
  | succ k ih =>
    obtain ⟨h1, h2⟩ := ih (by omega)
    obtain ⟨y, hy⟩ := get_lt (show k < (ordS w).reverse.length by simp; omega)
    have hs : chainK w (k + 1) = stepC w (chainK w k) y := by rw [chainK, take_snoc hy, List.foldl_append]; rfl
    obtain ⟨i, x, rfl, hx⟩ := (refOrd_eq hv.good).2 y (by simpa using List.mem_of_getElem? hy)
    rw [hs]
    have hb := bestC_bound (w := w) h2 (by omega) (i : Int) w.items.length
    have hl := leastP_bound (hv.item x (List.mem_of_getElem? hx))
    rw [← itP_at hx] at hl
    refine ⟨by simp [stepC, h1], fun v hm => ?_⟩
    rcases List.mem_or_eq_of_mem_set hm with hm | rfl
    · have := h2 v hm; omega
    · omega

set_option maxRecDepth 20000 in
theorem chainFrom_ret (w : SWork) (hw : Sane w) (hv : Well w) : Ret Try.prog .shared 116 [.agg (eWork w)] (.sl ((chainS w).map eI)) := by
  have h1 := hw.items
  have hn40 := hv.n40
  have hbl : ((bef w).map eL).length = w.items.length := by simp [bef]
  have hol := ordS_len w
  have hLl : ((ordS w).map eI).length = (ordS w).reverse.length := by simp
  refine Ret.of_pwp layOk mixed Go.Proofs.Try.func116 rfl (by decide) rfl rfl ?_
  repeat (first|refine pq_end rfl ?_|(refine zs rfl ?_ ?_;·repeat' constructor)|(refine zq rfl ?_ ?_;·repeat' constructor)|refine zw rfl ?_|refine zx rfl ?_|refine zb rfl ?_)
  (first|refine zsq rfl (q_call rfl (before_ret w h1 hw.after) rfl (by repeat' constructor) rfl) ?_|refine zqq rfl (q_call rfl (before_ret w h1 hw.after) rfl (by repeat' constructor) rfl) ?_)
  repeat (first|refine pq_end rfl ?_|(refine zs rfl ?_ ?_;·repeat' constructor)|(refine zq rfl ?_ ?_;·repeat' constructor)|refine zw rfl ?_|refine zx rfl ?_|refine zb rfl ?_)
  refine ps_run (o_make rfl rfl rfl rfl rfl rfl rfl rfl (by omega) (by rw [hbl]; show ((8 : Nat) : Int) * _ ≤ _; omega) (by rw [hbl]; omega) ?_)
  refine ps_v rfl trivial ?_
  refine ps_nil ?_
  refine x_norm ?_
  refine pw_seq ?_
  refine pw_regionS 1 ?_
  first | refine ps_v rfl trivial ?_ | refine ps_v rfl rfl ?_
  refine ps_nil ?_
  refine psem_sm rfl (sm_callO rfl (ordered_own w h1 hw.after) rfl (by repeat' constructor) rfl ?_)
  refine psem_ops ?_
  refine ps_v rfl trivial ?_
  refine ps_nil ?_
  refine x_norm ?_
  refine pw_seq ?_
  refine pw_regionS 1 ?_
  first | refine ps_v rfl trivial ?_ | refine ps_v rfl rfl ?_
  refine ps_nil ?_
  refine psem_sm rfl (reverse18 w (List.replicate w.items.length [I 0]) (ordS w) (by omega) rfl ⟨rfl, ?_, rfl, trivial⟩ (fun s1 => ?_))
  · show (1, some (Cont.mk 3 1 (List.replicate (Int.toNat ((bef w).map eL).length) _) 0)) = _
    rw [hbl]; rfl
  refine psem_ops ?_
  repeat (first|refine pq_end rfl ?_|(refine zs rfl ?_ ?_;·repeat' constructor)|(refine zq rfl ?_ ?_;·repeat' constructor)|refine zw rfl ?_|refine zx rfl ?_|refine zb rfl ?_)
  refine pw_loop (fun k => k ≤ (ordS w).reverse.length) (fun k => [(1, .ptr 1 1 0 0), (3, .sl ((bef w).map eL)), (4, .als 16 1 0 w.items.length), (21, .als 18 1 0 ((ordS w).map eI).length), (22, I ((ordS w).map eI).length), (23, I k)])
    (fun k => [(1, 1, ⟨28, 9, [eWork w], 2⟩), (16, 1, ⟨3, 1, (chainK w k).map eI, 0⟩), (18, 1, ⟨3, 1, (ordS w).reverse.map eI, 0⟩)]) (fun k => (ordS w).reverse.length - k) 0 (Nat.zero_le _) ⟨rfl, rfl, ?_, rfl, rfl, rfl, rfl, ?_, rfl, trivial⟩ ?_
  · show PV.als 16 1 0 (List.length (List.replicate (Int.toNat ((bef w).map eL).length) _)) = _
    rw [hbl]; simp
  · show (1, some (Cont.mk 3 1 (List.replicate w.items.length [I 0]) 0)) = _
    simp [chainK, eI]
  intro k s hk
  obtain ⟨hc1, hc2⟩ := chainK_ok hv k (by simpa using hk)
  have hrl : (ordS w).reverse.length = (ordS w).length := by simp
  repeat (first|refine pq_end rfl ?_|(refine zs rfl ?_ ?_;·repeat' constructor)|(refine zq rfl ?_ ?_;·repeat' constructor)|refine zw rfl ?_|refine zx rfl ?_|refine zb rfl ?_)
  refine pw_cond rfl (fun h => ?_) (fun h => ?_)
  · have hlt : k < (ordS w).reverse.length := by have := of_decide_eq_true h; omega
    clear h
    obtain ⟨y, hy⟩ := get_lt hlt
    obtain ⟨i, x, rfl, hx⟩ := (refOrd_eq hv.good).2 y (by simpa using List.mem_of_getElem? hy)
    have hil := (List.getElem?_eq_some_iff.1 hx).1
    have hyr : ((ordS w).reverse.map eI)[k]? = some (eI i) := by rw [List.getElem?_map, hy]; rfl
    have hio := hv.item x (List.mem_of_getElem? hx)
    have hlb := leastP_bound hio
    repeat (first|refine pq_end rfl ?_|(refine zs rfl ?_ ?_;·repeat' constructor)|(refine zq rfl ?_ ?_;·repeat' constructor)|refine zw rfl ?_|refine zx rfl ?_|refine zb rfl ?_)
    refine ps_q (q_idxA rfl rfl rfl rfl rfl rfl rfl (by omega) (by omega)) ?_
    rw [Int.toNat_natCast, Nat.zero_add k]
    refine ps_q (q_ldp rfl rfl rfl hyr rfl) ?_
    repeat (first|refine pq_end rfl ?_|(refine zs rfl ?_ ?_;·repeat' constructor)|(refine zq rfl ?_ ?_;·repeat' constructor)|refine zw rfl ?_|refine zx rfl ?_|refine zb rfl ?_)
    refine pw_loop (fun j => j ≤ w.items.length) (fun j => [(1, .ptr 1 1 0 0), (3, .sl ((bef w).map eL)), (4, .als 16 1 0 w.items.length), (7, I i), (8, I (bestC w (chainK w k) i j)), (21, .als 18 1 0 ((ordS w).map eI).length), (22, I ((ordS w).map eI).length), (23, I k), (28, I w.items.length), (29, I j)])
      (fun j => [(1, 1, ⟨28, 9, [eWork w], 2⟩), (16, 1, ⟨3, 1, (chainK w k).map eI, 0⟩), (18, 1, ⟨3, 1, (ordS w).reverse.map eI, 0⟩)]) (fun j => w.items.length - j) 0 (Nat.zero_le _) ⟨rfl, rfl, rfl, rfl, rfl, rfl, rfl, rfl, ?_, rfl, rfl, rfl, rfl, trivial⟩ ?_
    · show I (((bef w).map eL).length) = _
      rw [hbl]
    intro j s' hj
    have hbb := bestC_bound (w := w) hc2 (by omega) (i : Int) j
    repeat (first|refine pq_end rfl ?_|(refine zs rfl ?_ ?_;·repeat' constructor)|(refine zq rfl ?_ ?_;·repeat' constructor)|refine zw rfl ?_|refine zx rfl ?_|refine zb rfl ?_)
    refine pw_cond rfl (fun h => ?_) (fun h => ?_)
    · have hlt' : j < w.items.length := by simpa using h
      clear h
      obtain ⟨z, hz⟩ := get_lt hlt'
      obtain ⟨v, hvj⟩ := get_lt (show j < (chainK w k).length by omega)
      have hbz : (bef w)[j]? = some (aft w z) := by rw [bef, List.getElem?_map, hz]; rfl
      have haz := hw.after z (List.mem_of_getElem? hz)
      have hvr : ((chainK w k).map eI)[j]? = some (eI v) := by rw [List.getElem?_map, hvj]; rfl
      have hbf : ∀ a, bestF w (chainK w k) i a j = if (aft w z).any (· == (i : Int)) = true then imax a v else a := fun a => by rw [bestF, List.getD_eq_getElem?_getD, hbz, List.getD_eq_getElem?_getD, hvj]; rfl
      repeat (first|refine pq_end rfl ?_|(refine zs rfl ?_ ?_;·repeat' constructor)|(refine zq rfl ?_ ?_;·repeat' constructor)|refine zw rfl ?_|refine zx rfl ?_|refine zb rfl ?_)
      (first|refine zsq rfl (q_idxm rfl rfl rfl rfl rfl (by omega) hbz rfl) ?_|refine zqq rfl (q_idxm rfl rfl rfl rfl rfl (by omega) hbz rfl) ?_)
      repeat (first|refine pq_end rfl ?_|(refine zs rfl ?_ ?_;·repeat' constructor)|(refine zq rfl ?_ ?_;·repeat' constructor)|refine zw rfl ?_|refine zx rfl ?_|refine zb rfl ?_)
      (first|refine zsq rfl (q_callP rfl (containsI_ret (aft w z) i (by simp [aft]; omega)) rfl (by repeat' constructor) rfl rfl) ?_|refine zqq rfl (q_callP rfl (containsI_ret (aft w z) i (by simp [aft]; omega)) rfl (by repeat' constructor) rfl rfl) ?_)
      repeat (first|refine pq_end rfl ?_|(refine zs rfl ?_ ?_;·repeat' constructor)|(refine zq rfl ?_ ?_;·repeat' constructor)|refine zw rfl ?_|refine zx rfl ?_|refine zb rfl ?_)
      refine pw_cond rfl (fun h => ?_) (fun h => ?_)
      · have hin : (aft w z).any (· == (i : Int)) = true := h
        clear h
        repeat (first|refine pq_end rfl ?_|(refine zs rfl ?_ ?_;·repeat' constructor)|(refine zq rfl ?_ ?_;·repeat' constructor)|refine zw rfl ?_|refine zx rfl ?_|refine zb rfl ?_)
        refine ps_q (q_idxA rfl rfl rfl rfl rfl rfl rfl (by omega) (by omega)) ?_
        rw [Int.toNat_natCast, Nat.zero_add j]
        refine ps_q (q_ldp rfl rfl rfl hvr rfl) ?_
        repeat (first|refine pq_end rfl ?_|(refine zs rfl ?_ ?_;·repeat' constructor)|(refine zq rfl ?_ ?_;·repeat' constructor)|refine zw rfl ?_|refine zx rfl ?_|refine zb rfl ?_)
        refine ⟨j + 1, hlt', by omega, rfl, rfl, rfl, rfl, ?_, rfl, rfl, rfl, rfl, ?_, rfl, rfl, rfl, trivial⟩
        · rw [bestC_succ, hbf, if_pos hin]; rfl
        · exact i64_next (by omega) (by omega)
      · have hin : ¬ (aft w z).any (· == (i : Int)) = true := by rw [show (aft w z).any (· == (i : Int)) = false from h]; simp
        clear h
        repeat (first|refine pq_end rfl ?_|(refine zs rfl ?_ ?_;·repeat' constructor)|(refine zq rfl ?_ ?_;·repeat' constructor)|refine zw rfl ?_|refine zx rfl ?_|refine zb rfl ?_)
        refine ⟨j + 1, hlt', by omega, rfl, rfl, rfl, rfl, ?_, rfl, rfl, rfl, rfl, ?_, rfl, rfl, rfl, trivial⟩
        · rw [bestC_succ, hbf, if_neg hin]; rfl
        · exact i64_next (by omega) (by omega)
    · have hge : j = w.items.length := by have := of_decide_eq_false h; omega
      subst hge
      clear h
      have hrow : ∃ v0, ((chainK w k).map eI)[i]? = some (eI v0) := by
        obtain ⟨v0, hv0⟩ := get_lt (show i < (chainK w k).length by omega)
        exact ⟨v0, by rw [List.getElem?_map, hv0]; rfl⟩
      obtain ⟨v0, hrow⟩ := hrow
      have hs : chainK w (k + 1) = (chainK w k).set i (leastP x + bestC w (chainK w k) i w.items.length) := by
        rw [chainK, take_snoc hy, List.foldl_append]
        show stepC w (chainK w k) i = _
        rw [stepC, itP_at hx, Int.toNat_natCast]
      repeat (first|refine pq_end rfl ?_|(refine zs rfl ?_ ?_;·repeat' constructor)|(refine zq rfl ?_ ?_;·repeat' constructor)|refine zw rfl ?_|refine zx rfl ?_|refine zb rfl ?_)
      (first|refine zsq rfl (q_idxm rfl rfl rfl rfl rfl (by omega) hx rfl) ?_|refine zqq rfl (q_idxm rfl rfl rfl rfl rfl (by omega) hx rfl) ?_)
      repeat (first|refine pq_end rfl ?_|(refine zs rfl ?_ ?_;·repeat' constructor)|(refine zq rfl ?_ ?_;·repeat' constructor)|refine zw rfl ?_|refine zx rfl ?_|refine zb rfl ?_)
      (first|refine zsq rfl (q_callP rfl (least_ret x hio.modes.1 (by have := hio.modes; omega) (fun m hm => by have := hio.mode m hm; exact ⟨this.1, this.2.1⟩)) rfl (by repeat' constructor) rfl rfl) ?_|refine zqq rfl (q_callP rfl (least_ret x hio.modes.1 (by have := hio.modes; omega) (fun m hm => by have := hio.mode m hm; exact ⟨this.1, this.2.1⟩)) rfl (by repeat' constructor) rfl rfl) ?_)
      repeat (first|refine pq_end rfl ?_|(refine zs rfl ?_ ?_;·repeat' constructor)|(refine zq rfl ?_ ?_;·repeat' constructor)|refine zw rfl ?_|refine zx rfl ?_|refine zb rfl ?_)
      refine ps_q (q_idxA rfl rfl rfl rfl rfl rfl rfl (by omega) (by omega)) ?_
      rw [Int.toNat_natCast, Nat.zero_add i]
      refine ps_run0 (o_store (kd' := 0) rfl rfl rfl hrow rfl rfl (by repeat' constructor) rfl rfl rfl rfl ?_)
      repeat (first|refine pq_end rfl ?_|(refine zs rfl ?_ ?_;·repeat' constructor)|(refine zq rfl ?_ ?_;·repeat' constructor)|refine zw rfl ?_|refine zx rfl ?_|refine zb rfl ?_)
      refine ⟨k + 1, hlt, by omega, rfl, rfl, rfl, rfl, rfl, ?_, rfl, ?_, rfl, trivial⟩
      · exact i64_next (by omega) (by omega)
      · rw [hs, List.map_set]
        refine Eq.trans (b := (1, some (Cont.mk 3 1 (((chainK w k).map eI).set i [PV.int .i64 (IntKind.i64.wrap (leastP x + bestC w (chainK w k) i w.items.length))]) 0))) rfl ?_
        rw [wrap_i64 (by omega) (by omega)]; rfl
  · have hge : k = (ordS w).reverse.length := by have := of_decide_eq_false h; omega
    subst hge
    have hfin : chainK w (ordS w).reverse.length = chainS w := by rw [chainK, List.take_length, chainS]
    repeat (first|refine pq_end rfl ?_|(refine zs rfl ?_ ?_;·repeat' constructor)|(refine zq rfl ?_ ?_;·repeat' constructor)|refine zw rfl ?_|refine zx rfl ?_|refine zb rfl ?_)
    exact end1 rfl rfl rfl ⟨rfl, rfl, by rw [List.length_map, hc1]⟩ (by rw [hfin])
end Go.Pv

/- The example, and the bound of a trade. -/
set_option maxHeartbeats 2000000
namespace Go.Pv
attribute [local irreducible] PWP POps PQuiet PSem XThen XBlock RetPost InlPost
open Go.Proofs

/-- Nil slices, told as empty ones. -/
def dn : Nat → PV → PV
  | 0, c => c
  | _ + 1, .nil => .sl []
  | n + 1, .agg cs => .agg (cs.map (dn n))
  | n + 1, .sl rows => .sl (rows.map (·.map (dn n)))
  | _ + 1, c => c
theorem dn_drep {w : World} {ok : Nat → Prop} : ∀ (n : Nat) (c : PV) (v : Value), DRep w ok c v → DRep w ok (dn n c) v
  | 0, _, _, h => h
  | n + 1, c, v, h => by
    cases h with
    | nil => exact .sl0 none 0
    | agg cs vs hl hd =>
      refine .agg _ vs (by simp [hl]) fun i c v e1 e2 => ?_
      rw [List.getElem?_map] at e1
      cases hq : cs[i]? with
      | none => rw [hq] at e1; simp at e1
      | some c0 => rw [hq] at e1; simp at e1; subst e1; exact dn_drep n _ _ (hd i c0 v hq e2)
    | sl0 a cap => exact .sl0 a cap
    | sl rows b off cap sz vals hb hs hcap hrow hcell hd =>
      have at_ : ∀ (i j : Nat) (row : List PV) (c : PV), (rows.map (·.map (dn n)))[i]? = some row → row[j]? = some c → ∃ row0 c0, rows[i]? = some row0 ∧ row0[j]? = some c0 ∧ dn n c0 = c := fun i j row c e1 e2 => map_at e1 e2
      have := DRep.sl (w := w) (ok := ok) (rows.map (·.map (dn n))) b off cap sz vals hb hs (by simpa using hcap) (fun row hr => by
        obtain ⟨r0, h0, rfl⟩ := List.mem_map.1 hr
        simpa using hrow r0 h0) (fun i j row c e1 e2 => by
        obtain ⟨row0, c0, f1, f2, _⟩ := at_ i j row c e1 e2
        exact hcell i j row0 c0 f1 f2) (fun i j row c e1 e2 => by
        obtain ⟨row0, c0, f1, f2, rfl⟩ := at_ i j row c e1 e2
        exact dn_drep n _ _ (hd i j row0 c0 f1 f2))
      rwa [List.length_map] at this
    | bool b => exact .bool b
    | int k m => exact .int k m
    | str s => exact .str s
    | tup cs vs hl hd => exact .tup cs vs hl hd
    | dref cs j b off vals h1 h2 h3 => exact .dref cs j b off vals h1 h2 h3
    | clo f caps vs hl hd => exact .clo f caps vs hl hd
    | mapd rows b es h1 h2 h3 h4 h5 h6 h7 => exact .mapd rows b es h1 h2 h3 h4 h5 h6 h7
    | raw u =>
      show DRep w ok (.raw v) v
      exact .raw v
theorem Ret.dn {P : Program} {m : Mode} {f : FuncId} {args : List PV} {r : PV} (n : Nat) (h : Ret P m f args r) : Ret P m f args (Pv.dn n r) :=
  ⟨h.1, fun w X args h1 h2 h3 => (h.2 w X args h1 h2 h3).mono fun _ _ ⟨v, e1, e2, e3⟩ => ⟨v, e1, e2, dn_drep n _ _ e3⟩⟩

def itemA : SItem := ⟨[97], [119], [⟨2, 1⟩], [], -1, false, []⟩
def itemB : SItem := ⟨[98], [119], [⟨1, 2⟩], [], -1, false, []⟩
def tradeW : STrade := ⟨[119], 2, 100⟩
def pairW : SWork := ⟨[itemA, itemB], [tradeW], [], [], [], 10, 0, 0, 9⟩
def pairS : List SSlot := [⟨[97], 0, 0⟩, ⟨[98], 0, 2⟩]
theorem pair_sane : Sane pairW := by
  refine ⟨by decide, by decide, by decide, by decide, by decide, by decide, fun x hx => ?_⟩
  simp [pairW] at hx
  rcases hx with rfl | rfl <;> decide
theorem pair_ret : Ret Try.prog .shared 42 [] (.agg (eWork pairW)) := by
  have : Ret Try.prog .shared 42 [] (.agg [.sl [[.str [97], .str [119], .sl [[I 2, I 1]], .str [], I (-1), .bool false, .nil], [.str [98], .str [119], .sl [[I 1, I 2]], .str [], I (-1), .bool false, .nil]], .sl [[.str [119], I 2, I 100]], .nil, .nil, .nil, I 10, I 0, I 0, I 9]) := by
    refine Ret.of_pwp layOk mixed Go.Proofs.Try.func42 rfl (by decide) rfl rfl ?_
    repeat (first|refine pq_end rfl ?_|(refine zs rfl ?_ ?_;·repeat' constructor)|(refine zq rfl ?_ ?_;·repeat' constructor)|refine zw rfl ?_|refine zx rfl ?_|refine zb rfl ?_)
    (first|refine zsq rfl (q_slit rfl rfl rfl rfl rfl rfl rfl rfl rfl rfl (by repeat' constructor) rfl) ?_|refine zqq rfl (q_slit rfl rfl rfl rfl rfl rfl rfl rfl rfl rfl (by repeat' constructor) rfl) ?_)
    repeat (first|refine pq_end rfl ?_|(refine zs rfl ?_ ?_;·repeat' constructor)|(refine zq rfl ?_ ?_;·repeat' constructor)|refine zw rfl ?_|refine zx rfl ?_|refine zb rfl ?_)
    (first|refine zsq rfl (q_slit rfl rfl rfl rfl rfl rfl rfl rfl rfl rfl (by repeat' constructor) rfl) ?_|refine zqq rfl (q_slit rfl rfl rfl rfl rfl rfl rfl rfl rfl rfl (by repeat' constructor) rfl) ?_)
    repeat (first|refine pq_end rfl ?_|(refine zs rfl ?_ ?_;·repeat' constructor)|(refine zq rfl ?_ ?_;·repeat' constructor)|refine zw rfl ?_|refine zx rfl ?_|refine zb rfl ?_)
    (first|refine zsq rfl (q_slit rfl rfl rfl rfl rfl rfl rfl rfl rfl rfl (by repeat' constructor) rfl) ?_|refine zqq rfl (q_slit rfl rfl rfl rfl rfl rfl rfl rfl rfl rfl (by repeat' constructor) rfl) ?_)
    repeat (first|refine pq_end rfl ?_|(refine zs rfl ?_ ?_;·repeat' constructor)|(refine zq rfl ?_ ?_;·repeat' constructor)|refine zw rfl ?_|refine zx rfl ?_|refine zb rfl ?_)
    (first|refine zsq rfl (q_slit rfl rfl rfl rfl rfl rfl rfl rfl rfl rfl (by repeat' constructor) rfl) ?_|refine zqq rfl (q_slit rfl rfl rfl rfl rfl rfl rfl rfl rfl rfl (by repeat' constructor) rfl) ?_)
    repeat (first|refine pq_end rfl ?_|(refine zs rfl ?_ ?_;·repeat' constructor)|(refine zq rfl ?_ ?_;·repeat' constructor)|refine zw rfl ?_|refine zx rfl ?_|refine zb rfl ?_)
    exact endc rfl rfl rfl rfl (by repeat' constructor) rfl
  exact this.dn 6
theorem pair_work : workE pairW = 0 := by decide +kernel
theorem pair_cost : Ret Try.prog .shared 41 [.agg (eWork pairW), .sl (pairS.map eSlot)] (.tup [I 430, I 0]) := by
  have h := costF_ret pairW pair_sane pairS
  have h1 : planE pairW pairS = 0 := by decide +kernel
  have h2 : costP pairW (placed pairW pairS) = 430 := by decide +kernel
  rw [h1, if_pos rfl, h2] at h
  exact h

/-! ### The bound of a trade -/
def sumT (w : SWork) (t : STrade) (a : Int) (x : SItem) : Int := if x.trade = t.name then a + lwP x else a
def sumB (w : SWork) (t : STrade) : Int := w.items.foldl (sumT w t) 0
def tradeB (w : SWork) (t : STrade) : Int := if sumB w t = 0 then 0 else (sumB w t + t.crew - 1).tdiv t.crew
theorem lwP_bound {w : SWork} {x : SItem} (h : ItemOk w x) : 0 ≤ lwP x ∧ lwP x ≤ 60000 := by
  have hm0 : x.modes[0]? = some (modeAt x 0) := by rw [modeAt]; show _ = some ((x.modes[0]?).getD _); rw [List.getElem?_eq_getElem (by have := h.modes; omega)]; rfl
  have h0 := h.mode _ (List.mem_of_getElem? hm0)
  have hb := mul_bound (A := 60) (B := 1000) (by omega) h0.1.2 h0.2.1.1 h0.2.1.2
  refine fold_bound' x.modes _ (fun a m hm ha hb => ?_) hb.1 hb.2
  have h1 := h.mode m hm
  have h2 := mul_bound (A := 60) (B := 1000) (by omega) h1.1.2 h1.2.1.1 h1.2.1.2
  unfold workF imin
  split <;> omega
theorem sumK_bound {w : SWork} (hv : Well w) (t : STrade) (k : Nat) (hk : k ≤ w.items.length) : 0 ≤ (w.items.take k).foldl (sumT w t) 0 ∧ (w.items.take k).foldl (sumT w t) 0 ≤ 60000 * k := by
  induction k with
  | zero => simp
  | succ k ih =>
    have ih := ih (by omega)
    obtain ⟨x, hx⟩ := get_lt (show k < w.items.length by omega)
    have hl := lwP_bound (hv.item x (List.mem_of_getElem? hx))
    rw [take_snoc hx, List.foldl_append]
    generalize List.foldl (sumT w t) 0 (w.items.take k) = a at ih ⊢
    show 0 ≤ sumT w t a x ∧ sumT w t a x ≤ _
    unfold sumT
    split <;> omega
theorem tradeBound_ret (w : SWork) (hv : Well w) (t : STrade) (ht : 0 ≤ t.crew ∧ t.crew ≤ 1000) (hc : sumB w t ≠ 0 → t.crew ≠ 0) : Ret Try.prog .shared 78 [.agg (eWork w), .agg (eTrade t)] (I (tradeB w t)) := by
  have hn := hv.n40
  have hsb := sumK_bound hv t w.items.length (Nat.le_refl _)
  rw [List.take_length] at hsb
  replace hsb : 0 ≤ sumB w t ∧ sumB w t ≤ 60000 * w.items.length := hsb
  have hml : (w.items.map eItem).length = w.items.length := by simp
  refine Ret.of_pwp layOk mixed Go.Proofs.Try.func78 rfl (by decide) rfl rfl ?_
  repeat (first|refine pq_end rfl ?_|(refine zs rfl ?_ ?_;·repeat' constructor)|(refine zq rfl ?_ ?_;·repeat' constructor)|refine zw rfl ?_|refine zx rfl ?_|refine zb rfl ?_)
  refine pw_loop (fun k => k ≤ w.items.length) (fun k => [(2, .ptr 2 1 0 0), (3, .ptr 3 1 0 0), (5, I ((w.items.take k).foldl (sumT w t) 0)), (11, .sl (w.items.map eItem)), (12, I w.items.length), (13, I k)]) (fun _ => [(2, 1, ⟨28, 9, [eWork w], 2⟩), (3, 1, ⟨86, 3, [eTrade t], 2⟩)]) (fun k => w.items.length - k) 0 (Nat.zero_le _) ⟨rfl, rfl, rfl, rfl, ?_, rfl, rfl, rfl, trivial⟩ ?_
  · show I ((w.items.map eItem).length) = _
    rw [hml]
  intro k s hk
  repeat (first|refine pq_end rfl ?_|(refine zs rfl ?_ ?_;·repeat' constructor)|(refine zq rfl ?_ ?_;·repeat' constructor)|refine zw rfl ?_|refine zx rfl ?_|refine zb rfl ?_)
  refine pw_cond rfl (fun h => ?_) (fun h => ?_)
  · have hlt : k < w.items.length := by simpa using h
    obtain ⟨x, hx⟩ := get_lt hlt
    clear h
    have hio := hv.item x (List.mem_of_getElem? hx)
    have hb := sumK_bound hv t (k + 1) hlt
    have hs := take_snoc hx
    rw [hs, List.foldl_append] at hb
    replace hb : 0 ≤ sumT w t ((w.items.take k).foldl (sumT w t) 0) x ∧ sumT w t ((w.items.take k).foldl (sumT w t) 0) x ≤ _ := hb
    repeat (first|refine pq_end rfl ?_|(refine zs rfl ?_ ?_;·repeat' constructor)|(refine zq rfl ?_ ?_;·repeat' constructor)|refine zw rfl ?_|refine zx rfl ?_|refine zb rfl ?_)
    (first|refine zsq rfl (q_idxm rfl rfl rfl rfl rfl (by omega) hx rfl) ?_|refine zqq rfl (q_idxm rfl rfl rfl rfl rfl (by omega) hx rfl) ?_)
    repeat (first|refine pq_end rfl ?_|(refine zs rfl ?_ ?_;·repeat' constructor)|(refine zq rfl ?_ ?_;·repeat' constructor)|refine zw rfl ?_|refine zx rfl ?_|refine zb rfl ?_)
    refine pw_cond rfl (fun h => ?_) (fun h => ?_)
    · have he : x.trade = t.name := of_decide_eq_true h
      clear h
      have hst : ∀ a, sumT w t a x = a + lwP x := fun a => by rw [sumT, if_pos he]
      rw [hst] at hb
      repeat (first|refine pq_end rfl ?_|(refine zs rfl ?_ ?_;·repeat' constructor)|(refine zq rfl ?_ ?_;·repeat' constructor)|refine zw rfl ?_|refine zx rfl ?_|refine zb rfl ?_)
      (first|refine zsq rfl (q_callP rfl (least_ret x hio.modes.1 (by have := hio.modes; omega) (fun m hm => by have := hio.mode m hm; exact ⟨this.1, this.2.1⟩)) rfl (by repeat' constructor) rfl rfl) ?_|refine zqq rfl (q_callP rfl (least_ret x hio.modes.1 (by have := hio.modes; omega) (fun m hm => by have := hio.mode m hm; exact ⟨this.1, this.2.1⟩)) rfl (by repeat' constructor) rfl rfl) ?_)
      repeat (first|refine pq_end rfl ?_|(refine zs rfl ?_ ?_;·repeat' constructor)|(refine zq rfl ?_ ?_;·repeat' constructor)|refine zw rfl ?_|refine zx rfl ?_|refine zb rfl ?_)
      refine ⟨k + 1, hlt, by omega, rfl, rfl, ?_, rfl, rfl, ?_, rfl, rfl, trivial⟩
      · rw [hs, List.foldl_append]
        show PV.int .i64 (IntKind.i64.wrap ((w.items.take k).foldl (sumT w t) 0 + lwP x)) = I (sumT w t ((w.items.take k).foldl (sumT w t) 0) x)
        rw [wrap_i64 (by omega) (by omega), hst]
      · exact i64_next (by omega) (by omega)
    · have he : ¬ x.trade = t.name := of_decide_eq_false h
      clear h
      have hst : ∀ a, sumT w t a x = a := fun a => by rw [sumT, if_neg he]
      repeat (first|refine pq_end rfl ?_|(refine zs rfl ?_ ?_;·repeat' constructor)|(refine zq rfl ?_ ?_;·repeat' constructor)|refine zw rfl ?_|refine zx rfl ?_|refine zb rfl ?_)
      refine ⟨k + 1, hlt, by omega, rfl, rfl, ?_, rfl, rfl, ?_, rfl, rfl, trivial⟩
      · rw [hs, List.foldl_append]
        show _ = I (sumT w t ((w.items.take k).foldl (sumT w t) 0) x)
        rw [hst]; rfl
      · exact i64_next (by omega) (by omega)
  · have hge : k = w.items.length := by have := of_decide_eq_false h; omega
    subst hge
    rw [List.take_length]
    clear h
    repeat (first|refine pq_end rfl ?_|(refine zs rfl ?_ ?_;·repeat' constructor)|(refine zq rfl ?_ ?_;·repeat' constructor)|refine zw rfl ?_|refine zx rfl ?_|refine zb rfl ?_)
    refine pw_cond rfl (fun h => ?_) (fun h => ?_)
    · have hz : sumB w t = 0 := of_decide_eq_true h
      repeat (first|refine pq_end rfl ?_|(refine zs rfl ?_ ?_;·repeat' constructor)|(refine zq rfl ?_ ?_;·repeat' constructor)|refine zw rfl ?_|refine zx rfl ?_|refine zb rfl ?_)
      exact end1i rfl rfl (by rw [tradeB, if_pos hz])
    · have hz : ¬ sumB w t = 0 := of_decide_eq_false h
      have hc := hc hz
      repeat (first|refine pq_end rfl ?_|(refine zs rfl ?_ ?_;·repeat' constructor)|(refine zq rfl ?_ ?_;·repeat' constructor)|refine zw rfl ?_|refine zx rfl ?_|refine zb rfl ?_)
      refine ps_v rfl hc ?_
      repeat (first|refine pq_end rfl ?_|(refine zs rfl ?_ ?_;·repeat' constructor)|(refine zq rfl ?_ ?_;·repeat' constructor)|refine zw rfl ?_|refine zx rfl ?_|refine zb rfl ?_)
      refine end1i rfl rfl ?_
      rw [tradeB, if_neg hz]
      show PV.int .i64 (IntKind.i64.wrap ((IntKind.i64.wrap (IntKind.i64.wrap (sumB w t + t.crew) - 1)).tdiv t.crew)) = _
      rw [wrap_i64 (n := sumB w t + t.crew) (by omega) (by omega), wrap_i64 (n := sumB w t + t.crew - 1) (by omega) (by omega)]
      have h1 := Int.tdiv_nonneg (a := sumB w t + t.crew - 1) (b := t.crew) (by omega) ht.1
      have h2 : (sumB w t + t.crew - 1).tdiv t.crew ≤ sumB w t + t.crew - 1 := by
        rw [Int.tdiv_eq_ediv_of_nonneg (by omega)]
        exact Int.ediv_le_self _ (by omega)
      rw [wrap_i64 (by omega) (by omega)]
end Go.Pv

/- The example's longest chain. -/
set_option maxHeartbeats 2000000
namespace Go.Pv
attribute [local irreducible] PWP POps PQuiet PSem XThen XBlock RetPost InlPost
open Go.Proofs

theorem endm {L : Lay} {s : St} {fn : Func} {r d : PV} {l : List PV} {A Cd : Prop} {fl : Fl} (h : rvs L s fn.results.toList = some (l, A)) (ha : A) (hres : res s 5 (tupled l) = some (d, Cd, fl)) (hc : Cd) (hd : d = r) : RetPost L fn .shared r .ret s := by
  unfold RetPost
  exact ⟨l, A, d, Cd, fl, h, ha, hres, hc, trivial, hd⟩

theorem pair_well : Well pairW := well_of pair_work
theorem pair_chain : Ret Try.prog .shared 116 [.agg (eWork pairW)] (.sl [[I 2], [I 1]]) := by
  have h := chainFrom_ret pairW pair_sane pair_well
  rw [show chainS pairW = [2, 1] by decide +kernel] at h
  exact h
theorem pair_bef : Ret Try.prog .shared 97 [.agg (eWork pairW)] (.sl [[.sl []], [.sl []]]) := by
  have h := before_ret pairW (by decide) (by decide)
  rw [show bef pairW = [[], []] by decide +kernel] at h
  exact h
theorem pair_index : Ret Try.prog .shared 117 [.sl [[I 2], [I 1]], I 2] (I 0) := by
  have h := indexI_ret [2, 1] 2 (by decide)
  rw [show idx [2, 1] (· == (2 : Int)) = 0 by decide +kernel] at h
  exact h
theorem pair_clo (x : Int) : Ret Try.prog .shared 120 [I x, .dref [I 0] 0] (.bool (x == 0)) := by
  refine Ret.of_pwp layOk mixed Go.Proofs.Try.func120 rfl (by decide) rfl rfl ?_
  repeat (first|refine pq_end rfl ?_|(refine zs rfl ?_ ?_;·repeat' constructor)|(refine zq rfl ?_ ?_;·repeat' constructor)|refine zw rfl ?_|refine zx rfl ?_|refine zb rfl ?_)
  exact end1b rfl rfl rfl
theorem pair_find : Ret Try.prog .shared 119 [.sl [[I 2], [I 1]], .clo 120 [.dref [I 0] 0]] (I (-1)) := by
  have h := indexFI_ret [2, 1] 120 [I 0] (· == 0) (by decide) (fun x _ => pair_clo x)
  rw [show idx [2, 1] (· == (0 : Int)) = -1 by decide +kernel] at h
  exact h
theorem pair_least : Ret Try.prog .shared 118 [.agg (eItem itemA)] (.tup [I 2, I 2]) := by
  have h := least_ret itemA (by decide) (by decide) (by intro m hm; simp [itemA] at hm; subst hm; decide)
  rw [show leastP itemA = 2 by decide +kernel, show lwP itemA = 2 by decide +kernel] at h
  exact h

def mxP : Nat → Int
  | 0 => 0
  | _ => 2
set_option maxRecDepth 20000 in
theorem pair_longest : Ret Try.prog .shared 77 [.agg (eWork pairW)] (.agg [I 2, .sl [[.str [97]]], .str []]) := by
  refine Ret.of_pwp layOk mixed Go.Proofs.Try.func77 rfl (by decide) rfl rfl ?_
  repeat (first|refine pq_end rfl ?_|(refine zs rfl ?_ ?_;·repeat' constructor)|(refine zq rfl ?_ ?_;·repeat' constructor)|refine zw rfl ?_|refine zx rfl ?_|refine zb rfl ?_)
  (first|refine zsq rfl (q_call rfl (pair_chain) rfl (by repeat' constructor) rfl) ?_|refine zqq rfl (q_call rfl (pair_chain) rfl (by repeat' constructor) rfl) ?_)
  repeat (first|refine pq_end rfl ?_|(refine zs rfl ?_ ?_;·repeat' constructor)|(refine zq rfl ?_ ?_;·repeat' constructor)|refine zw rfl ?_|refine zx rfl ?_|refine zb rfl ?_)
  (first|refine zsq rfl (q_call rfl (pair_bef) rfl (by repeat' constructor) rfl) ?_|refine zqq rfl (q_call rfl (pair_bef) rfl (by repeat' constructor) rfl) ?_)
  repeat (first|refine pq_end rfl ?_|(refine zs rfl ?_ ?_;·repeat' constructor)|(refine zq rfl ?_ ?_;·repeat' constructor)|refine zw rfl ?_|refine zx rfl ?_|refine zb rfl ?_)
  refine pw_loop (fun (k : Nat) => k ≤ 2) (fun k => [(1, .ptr 1 1 0 0), (2, .ptr 2 1 0 0), (3, .sl [[I 2], [I 1]]), (4, .sl [[.sl []], [.sl []]]), (5, .ptr 5 1 0 0), (19, .sl [[I 2], [I 1]]), (20, I 2), (21, I k)])
    (fun k => [(1, 1, ⟨28, 9, [eWork pairW], 2⟩), (2, 1, ⟨60, 3, [[I 0, .nil, .str []]], 2⟩), (5, 1, ⟨60, 3, [[I (mxP k), .nil, .str []]], 2⟩)]) (fun k => 2 - k) 0 (by omega) ⟨rfl, rfl, rfl, rfl, rfl, rfl, rfl, rfl, rfl, rfl, rfl, trivial⟩ ?_
  intro k s hk
  obtain rfl | rfl | rfl : k = 0 ∨ k = 1 ∨ k = 2 := by omega
  · repeat (first|refine pq_end rfl ?_|(refine zs rfl ?_ ?_;·repeat' constructor)|(refine zq rfl ?_ ?_;·repeat' constructor)|refine zw rfl ?_|refine zx rfl ?_|refine zb rfl ?_)
    refine zsq rfl (q_idx rfl rfl rfl rfl rfl (by decide) rfl rfl) ?_
    repeat (first|refine pq_end rfl ?_|(refine zs rfl ?_ ?_;·repeat' constructor)|(refine zq rfl ?_ ?_;·repeat' constructor)|refine zw rfl ?_|refine zx rfl ?_|refine zb rfl ?_)
    exact ⟨1, by omega, by omega, rfl, rfl, rfl, rfl, rfl, rfl, rfl, rfl, rfl, rfl, rfl, trivial⟩
  · repeat (first|refine pq_end rfl ?_|(refine zs rfl ?_ ?_;·repeat' constructor)|(refine zq rfl ?_ ?_;·repeat' constructor)|refine zw rfl ?_|refine zx rfl ?_|refine zb rfl ?_)
    refine zsq rfl (q_idx rfl rfl rfl rfl rfl (by decide) rfl rfl) ?_
    repeat (first|refine pq_end rfl ?_|(refine zs rfl ?_ ?_;·repeat' constructor)|(refine zq rfl ?_ ?_;·repeat' constructor)|refine zw rfl ?_|refine zx rfl ?_|refine zb rfl ?_)
    exact ⟨2, by omega, by omega, rfl, rfl, rfl, rfl, rfl, rfl, rfl, rfl, rfl, rfl, rfl, trivial⟩
  repeat (first|refine pq_end rfl ?_|(refine zs rfl ?_ ?_;·repeat' constructor)|(refine zq rfl ?_ ?_;·repeat' constructor)|refine zw rfl ?_|refine zx rfl ?_|refine zb rfl ?_)
  refine pw_ghost (Ghost.drop (k := 9) rfl) ?_
  refine pw_draw2 6 1 [31, 32, 33, 34, 35, 36, 9] [4,5] (by decide +kernel) rfl ?_
  repeat (first|refine pq_end rfl ?_|(refine zs rfl ?_ ?_;·repeat' constructor)|(refine zq rfl ?_ ?_;·repeat' constructor)|refine zw rfl ?_|refine zx rfl ?_|refine zb rfl ?_)
  (first|refine zsq rfl (q_callP rfl (pair_index) rfl (by repeat' constructor) rfl rfl) ?_|refine zqq rfl (q_callP rfl (pair_index) rfl (by repeat' constructor) rfl rfl) ?_)
  repeat (first|refine pq_end rfl ?_|(refine zs rfl ?_ ?_;·repeat' constructor)|(refine zq rfl ?_ ?_;·repeat' constructor)|refine zw rfl ?_|refine zx rfl ?_|refine zb rfl ?_)
  refine ⟨by kernel_rfl, ?_⟩
  repeat (first|refine pq_end rfl ?_|(refine zs rfl ?_ ?_;·repeat' constructor)|(refine zq rfl ?_ ?_;·repeat' constructor)|refine zw rfl ?_|refine zx rfl ?_|refine zb rfl ?_)
  refine pw_loop (fun (_ : Option Nat) => True)
    (fun i => [(1, .ptr 1 1 0 0), (2, .ptr 2 1 0 0), (3, .sl [[I 2], [I 1]]), (4, .sl [[.sl []], [.sl []]]), (5, .ptr 5 1 0 0), (8, match i with | none => I 0 | some _ => I (-1)), (9, .ptr 9 ((s.own 9).1 + 2 + 1) 0 0)])
    (fun i => match i with
      | none => [(1, 1, ⟨28, 9, [eWork pairW], 2⟩), (2, 1, ⟨60, 3, [[I 0, .nil, .str []]], 2⟩), (5, 1, ⟨60, 3, [[I 2, .nil, .str []]], 2⟩), (9, (s.own 9).1 + 2 + 1, ⟨3, 1, [[I 2]], 2⟩)]
      | some g => [(1, 1, ⟨28, 9, [eWork pairW], 2⟩), (2, 1, ⟨60, 3, [[I 0, .nil, .str []]], 2⟩), (5, 1, ⟨60, 3, [[I 2, .als 48 g 0 1, .str []]], 2⟩), (9, (s.own 9).1 + 2 + 1, ⟨3, 1, [[I 0]], 2⟩), (48, g, ⟨9, 1, [[.str [97]]], 0⟩)])
    (fun i => match i with | none => 1 | some _ => 0) none trivial ⟨rfl, rfl, rfl, rfl, rfl, rfl, rfl, rfl, rfl, rfl, rfl, trivial⟩ ?_
  intro i s2 _
  cases i with
  | none =>
    repeat (first|refine pq_end rfl ?_|(refine zs rfl ?_ ?_;·repeat' constructor)|(refine zq rfl ?_ ?_;·repeat' constructor)|refine zw rfl ?_|refine zx rfl ?_|refine zb rfl ?_)
    refine pw_draw 9 [39, 40, 41, 42, 43, 44, 45, 46, 47] (by decide +kernel) ?_
    repeat (first|refine pq_end rfl ?_|(refine zs rfl ?_ ?_;·repeat' constructor)|(refine zq rfl ?_ ?_;·repeat' constructor)|refine zw rfl ?_|refine zx rfl ?_|refine zb rfl ?_)
    refine zqq rfl (q_idx rfl rfl rfl rfl rfl (by decide) rfl rfl) ?_
    repeat (first|refine pq_end rfl ?_|(refine zs rfl ?_ ?_;·repeat' constructor)|(refine zq rfl ?_ ?_;·repeat' constructor)|refine zw rfl ?_|refine zx rfl ?_|refine zb rfl ?_)
    (first|refine zsq rfl (q_slit rfl rfl rfl rfl rfl rfl rfl rfl rfl rfl (by repeat' constructor) rfl) ?_|refine zqq rfl (q_slit rfl rfl rfl rfl rfl rfl rfl rfl rfl rfl (by repeat' constructor) rfl) ?_)
    repeat (first|refine pq_end rfl ?_|(refine zs rfl ?_ ?_;·repeat' constructor)|(refine zq rfl ?_ ?_;·repeat' constructor)|refine zw rfl ?_|refine zx rfl ?_|refine zb rfl ?_)
    refine ps_run (o_appN rfl rfl rfl rfl rfl rfl rfl rfl (by repeat' constructor) (by intro row hr; simp at hr; subst hr; rfl) (by decide) (by decide) ?_)
    repeat (first|refine pq_end rfl ?_|(refine zs rfl ?_ ?_;·repeat' constructor)|(refine zq rfl ?_ ?_;·repeat' constructor)|refine zw rfl ?_|refine zx rfl ?_|refine zb rfl ?_)
    refine zsq rfl (q_idx rfl rfl rfl rfl rfl (by decide) rfl rfl) ?_
    repeat (first|refine pq_end rfl ?_|(refine zs rfl ?_ ?_;·repeat' constructor)|(refine zq rfl ?_ ?_;·repeat' constructor)|refine zw rfl ?_|refine zx rfl ?_|refine zb rfl ?_)
    (first|refine zsq rfl (q_call rfl (pair_least) rfl (by repeat' constructor) rfl) ?_|refine zqq rfl (q_call rfl (pair_least) rfl (by repeat' constructor) rfl) ?_)
    repeat (first|refine pq_end rfl ?_|(refine zs rfl ?_ ?_;·repeat' constructor)|(refine zq rfl ?_ ?_;·repeat' constructor)|refine zw rfl ?_|refine zx rfl ?_|refine zb rfl ?_)
    (first|refine zsq rfl (q_callP rfl (pair_find) rfl (by repeat' constructor) rfl rfl) ?_|refine zqq rfl (q_callP rfl (pair_find) rfl (by repeat' constructor) rfl rfl) ?_)
    repeat (first|refine pq_end rfl ?_|(refine zs rfl ?_ ?_;·repeat' constructor)|(refine zq rfl ?_ ?_;·repeat' constructor)|refine zw rfl ?_|refine zx rfl ?_|refine zb rfl ?_)
    refine pw_loop (fun (_ : Unit) => True) (fun _ => [(1, .ptr 1 1 0 0), (2, .ptr 2 1 0 0), (3, .sl [[I 2], [I 1]]), (4, .sl [[.sl []], [.sl []]]), (5, .ptr 5 1 0 0), (8, I (-1)), (9, .ptr 9 ((s.own 9).1 + 2 + 1) 0 0)])
      (fun _ => [(1, 1, ⟨28, 9, [eWork pairW], 2⟩), (2, 1, ⟨60, 3, [[I 0, .nil, .str []]], 2⟩), (5, 1, ⟨60, 3, [[I 2, .als 48 ((s2.own 48).1 + 1) 0 1, .str []]], 2⟩), (9, (s.own 9).1 + 2 + 1, ⟨3, 1, [[I 0]], 2⟩), (48, (s2.own 48).1 + 1, ⟨9, 1, [[.str [97]]], 0⟩)])
      (fun _ => 0) () trivial ⟨rfl, rfl, rfl, rfl, rfl, rfl, rfl, rfl, rfl, rfl, rfl, rfl, trivial⟩ ?_
    intro _ s3 _
    repeat (first|refine pq_end rfl ?_|(refine zs rfl ?_ ?_;·repeat' constructor)|(refine zq rfl ?_ ?_;·repeat' constructor)|refine zw rfl ?_|refine zx rfl ?_|refine zb rfl ?_)
    exact ⟨some ((s2.own 48).1 + 1), trivial, Nat.zero_lt_one, rfl, rfl, rfl, rfl, rfl, rfl, rfl, rfl, rfl, rfl, rfl, rfl, trivial⟩
  | some g =>
    repeat (first|refine pq_end rfl ?_|(refine zs rfl ?_ ?_;·repeat' constructor)|(refine zq rfl ?_ ?_;·repeat' constructor)|refine zw rfl ?_|refine zx rfl ?_|refine zb rfl ?_)
    exact endc rfl rfl rfl rfl (by repeat' constructor) rfl
end Go.Pv

/- The example's bound; the laws are awake. -/
set_option maxHeartbeats 2000000
namespace Go.Pv
attribute [local irreducible] PWP POps PQuiet PSem XThen XBlock RetPost InlPost
open Go.Proofs

set_option maxRecDepth 20000 in
theorem pair_best : Ret Try.prog .shared 27 [.agg (eWork pairW)] (.tup [.agg [I 2, .sl [[.str [97]]], .str []], I 0]) := by
  have h20 := checkWork_ret pairW pair_sane
  rw [pair_work] at h20
  have h78 := tradeBound_ret pairW pair_well tradeW (by decide) (by decide)
  rw [show tradeB pairW tradeW = 2 by decide +kernel] at h78
  refine Ret.of_pwp layOk mixed Go.Proofs.Try.func27 rfl (by decide) rfl rfl ?_
  repeat (first|refine pq_end rfl ?_|(refine zs rfl ?_ ?_;·repeat' constructor)|(refine zq rfl ?_ ?_;·repeat' constructor)|refine zw rfl ?_|refine zx rfl ?_|refine zb rfl ?_)
  (first|refine zsq rfl (q_callP rfl (h20) rfl (by repeat' constructor) rfl rfl) ?_|refine zqq rfl (q_callP rfl (h20) rfl (by repeat' constructor) rfl rfl) ?_)
  repeat (first|refine pq_end rfl ?_|(refine zs rfl ?_ ?_;·repeat' constructor)|(refine zq rfl ?_ ?_;·repeat' constructor)|refine zw rfl ?_|refine zx rfl ?_|refine zb rfl ?_)
  (first|refine zsq rfl (q_call rfl (pair_longest) rfl (by repeat' constructor) rfl) ?_|refine zqq rfl (q_call rfl (pair_longest) rfl (by repeat' constructor) rfl) ?_)
  repeat (first|refine pq_end rfl ?_|(refine zs rfl ?_ ?_;·repeat' constructor)|(refine zq rfl ?_ ?_;·repeat' constructor)|refine zw rfl ?_|refine zx rfl ?_|refine zb rfl ?_)
  refine pw_loop (fun (k : Nat) => k ≤ 1) (fun k => [(1, .ptr 1 1 0 0), (2, .ptr 2 1 0 0), (5, .ptr 5 1 0 0), (18, .sl (pairW.trades.map eTrade)), (19, I 1), (20, I k)])
    (fun _ => [(1, 1, ⟨28, 9, [eWork pairW], 2⟩), (2, 1, ⟨60, 3, [[I 0, .nil, .str []]], 2⟩), (5, 1, ⟨60, 3, [[I 2, .sl [[.str [97]]], .str []]], 2⟩)]) (fun k => 1 - k) 0 (by omega) ⟨rfl, rfl, rfl, rfl, rfl, rfl, rfl, rfl, rfl, trivial⟩ ?_
  intro k s hk
  obtain rfl | rfl : k = 0 ∨ k = 1 := by omega
  · repeat (first|refine pq_end rfl ?_|(refine zs rfl ?_ ?_;·repeat' constructor)|(refine zq rfl ?_ ?_;·repeat' constructor)|refine zw rfl ?_|refine zx rfl ?_|refine zb rfl ?_)
    refine zsq rfl (q_idx rfl rfl rfl rfl rfl (by decide) rfl rfl) ?_
    repeat (first|refine pq_end rfl ?_|(refine zs rfl ?_ ?_;·repeat' constructor)|(refine zq rfl ?_ ?_;·repeat' constructor)|refine zw rfl ?_|refine zx rfl ?_|refine zb rfl ?_)
    (first|refine zsq rfl (q_callP rfl (h78) rfl (by repeat' constructor) rfl rfl) ?_|refine zqq rfl (q_callP rfl (h78) rfl (by repeat' constructor) rfl rfl) ?_)
    repeat (first|refine pq_end rfl ?_|(refine zs rfl ?_ ?_;·repeat' constructor)|(refine zq rfl ?_ ?_;·repeat' constructor)|refine zw rfl ?_|refine zx rfl ?_|refine zb rfl ?_)
    exact ⟨1, by omega, by omega, rfl, rfl, rfl, rfl, rfl, rfl, rfl, rfl, rfl, trivial⟩
  · repeat (first|refine pq_end rfl ?_|(refine zs rfl ?_ ?_;·repeat' constructor)|(refine zq rfl ?_ ?_;·repeat' constructor)|refine zw rfl ?_|refine zx rfl ?_|refine zb rfl ?_)
    exact endm rfl (by repeat' constructor) rfl (by repeat' constructor) rfl

set_option maxRecDepth 20000 in
theorem awake_ret : Ret Try.prog .shared 10 [] (.bool true) := by
  have h21 := texts2_ret [[97]] [[97]] (by decide)
  rw [decide_eq_true rfl] at h21
  refine Ret.of_pwp layOk mixed Go.Proofs.Try.func10 rfl (by decide) rfl rfl ?_
  repeat (first|refine pq_end rfl ?_|(refine zs rfl ?_ ?_;·repeat' constructor)|(refine zq rfl ?_ ?_;·repeat' constructor)|refine zw rfl ?_|refine zx rfl ?_|refine zb rfl ?_)
  (first|refine zsq rfl (q_call rfl (pair_ret) rfl (by repeat' constructor) rfl) ?_|refine zqq rfl (q_call rfl (pair_ret) rfl (by repeat' constructor) rfl) ?_)
  repeat (first|refine pq_end rfl ?_|(refine zs rfl ?_ ?_;·repeat' constructor)|(refine zq rfl ?_ ?_;·repeat' constructor)|refine zw rfl ?_|refine zx rfl ?_|refine zb rfl ?_)
  (first|refine zsq rfl (q_slit rfl rfl rfl rfl rfl rfl rfl rfl rfl rfl (by repeat' constructor) rfl) ?_|refine zqq rfl (q_slit rfl rfl rfl rfl rfl rfl rfl rfl rfl rfl (by repeat' constructor) rfl) ?_)
  repeat (first|refine pq_end rfl ?_|(refine zs rfl ?_ ?_;·repeat' constructor)|(refine zq rfl ?_ ?_;·repeat' constructor)|refine zw rfl ?_|refine zx rfl ?_|refine zb rfl ?_)
  (first|refine zsq rfl (q_callP rfl (pair_cost) rfl (by repeat' constructor) rfl rfl) ?_|refine zqq rfl (q_callP rfl (pair_cost) rfl (by repeat' constructor) rfl rfl) ?_)
  repeat (first|refine pq_end rfl ?_|(refine zs rfl ?_ ?_;·repeat' constructor)|(refine zq rfl ?_ ?_;·repeat' constructor)|refine zw rfl ?_|refine zx rfl ?_|refine zb rfl ?_)
  (first|refine zsq rfl (q_call rfl (pair_ret) rfl (by repeat' constructor) rfl) ?_|refine zqq rfl (q_call rfl (pair_ret) rfl (by repeat' constructor) rfl) ?_)
  repeat (first|refine pq_end rfl ?_|(refine zs rfl ?_ ?_;·repeat' constructor)|(refine zq rfl ?_ ?_;·repeat' constructor)|refine zw rfl ?_|refine zx rfl ?_|refine zb rfl ?_)
  (first|refine zsq rfl (q_call rfl (pair_best) rfl (by repeat' constructor) rfl) ?_|refine zqq rfl (q_call rfl (pair_best) rfl (by repeat' constructor) rfl) ?_)
  repeat (first|refine pq_end rfl ?_|(refine zs rfl ?_ ?_;·repeat' constructor)|(refine zq rfl ?_ ?_;·repeat' constructor)|refine zw rfl ?_|refine zx rfl ?_|refine zb rfl ?_)
  (first|refine zsq rfl (q_slit rfl rfl rfl rfl rfl rfl rfl rfl rfl rfl (by repeat' constructor) rfl) ?_|refine zqq rfl (q_slit rfl rfl rfl rfl rfl rfl rfl rfl rfl rfl (by repeat' constructor) rfl) ?_)
  repeat (first|refine pq_end rfl ?_|(refine zs rfl ?_ ?_;·repeat' constructor)|(refine zq rfl ?_ ?_;·repeat' constructor)|refine zw rfl ?_|refine zx rfl ?_|refine zb rfl ?_)
  (first|refine zsq rfl (q_callP rfl (h21) rfl (by repeat' constructor) rfl rfl) ?_|refine zqq rfl (q_callP rfl (h21) rfl (by repeat' constructor) rfl rfl) ?_)
  repeat (first|refine pq_end rfl ?_|(refine zs rfl ?_ ?_;·repeat' constructor)|(refine zq rfl ?_ ?_;·repeat' constructor)|refine zw rfl ?_|refine zx rfl ?_|refine zb rfl ?_)
  exact end1b rfl rfl rfl
end Go.Pv
