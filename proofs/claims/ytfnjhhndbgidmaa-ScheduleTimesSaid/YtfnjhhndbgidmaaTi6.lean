/- Texts of one hand, gathered: SfG, SeE, SfH, SeK. -/
import Derived.Test.YtfnjhhndbgidmaaTi5
/- The latest days and the critical items: the program's answers and the reference's. -/
set_option maxHeartbeats 2000000
namespace Go.Pv
attribute [local irreducible] PWP POps PQuiet PSem XThen XBlock RetPost InlPost
open Go.Proofs

theorem earlyS_ok {w : SWork} (hw : Sane w) (hv : Well w) : (earlyS w).1.length = w.items.length ∧ 0 ≤ (earlyS w).2 ∧ (earlyS w).2 ≤ 1000000000 := by
  have hfin : earlyK2 w (ordS w).length = earlyS w := by rw [earlyK2, List.take_length, earlyS]
  obtain ⟨h1, _, h3, h4⟩ := earlyK2_ok hw hv (ordS w).length (Nat.le_refl _)
  rw [hfin] at h1 h3 h4
  have := ordS_len w
  have := hv.n40
  exact ⟨h1, h3, by omega⟩
theorem latS_len {w : SWork} (hv : Well w) {days : Int} (hd : 0 ≤ days) : (latS w days).length = w.items.length := by
  have hfin : (latK w days (ordS w).reverse.length).2 = latS w days := by rw [latK, List.take_length, latS]
  have := (latK_ok hv hd (ordS w).reverse.length (by simp)).2.2.1
  rwa [hfin] at this

set_option maxRecDepth 20000 in
theorem latest_ref (w : SWork) (hw : Sane w) (hv : Well w) (days : Int) (hd : 0 ≤ days ∧ days ≤ 1000000000) : Ret Try.prog .shared 39 [.agg (eWork w), I days] (.sl ((latS w days).map eI)) := by
  have h1 := hw.items
  have hn40 := hv.n40
  have hol := ord_full hv
  have hwl : ((w.items.map eItem).length : Int) = w.items.length := by simp
  have hLl : ((((ordS w).map (nameAt w)).map eS).length : Int) = (ordS w).length := by simp
  have hrl : (ordS w).reverse.length = (ordS w).length := by simp
  refine Ret.of_pwp layOk mixed Go.Proofs.Try.func39 rfl (by decide) rfl rfl ?_
  repeat (first|refine pq_end rfl ?_|(refine zs rfl ?_ ?_;·repeat' constructor)|(refine zq rfl ?_ ?_;·repeat' constructor)|refine zw rfl ?_|refine zx rfl ?_|refine zb rfl ?_)
  refine ps_run (o_make rfl rfl rfl rfl rfl rfl rfl rfl (by omega) (by rw [hwl]; show ((8 : Nat) : Int) * _ ≤ _; omega) (by rw [hwl]; omega) ?_)
  repeat (first|refine pq_end rfl ?_|(refine zs rfl ?_ ?_;·repeat' constructor)|(refine zq rfl ?_ ?_;·repeat' constructor)|refine zw rfl ?_|refine zx rfl ?_|refine zb rfl ?_)
  (first|refine zsq rfl (q_call rfl (order_ref' w hw hv) rfl (by repeat' constructor) rfl) ?_|refine zqq rfl (q_call rfl (order_ref' w hw hv) rfl (by repeat' constructor) rfl) ?_)
  repeat (first|refine pq_end rfl ?_|(refine zs rfl ?_ ?_;·repeat' constructor)|(refine zq rfl ?_ ?_;·repeat' constructor)|refine zw rfl ?_|refine zx rfl ?_|refine zb rfl ?_)
  refine pw_loop (fun k => k ≤ (ordS w).length) (fun k => [(1, I days), (2, .ptr 2 1 0 0), (5, .als 14 1 0 w.items.length), (6, .sl (((ordS w).map (nameAt w)).map eS)), (7, I (((ordS w).length : Int) - 1 - k))])
    (fun k => [(2, 1, ⟨28, 9, [eWork w], 2⟩), (14, 1, ⟨3, 1, (latK w days k).2.map eI, 0⟩)]) (fun k => (ordS w).length - k) 0 (Nat.zero_le _) ⟨rfl, rfl, ?_, rfl, ?_, rfl, ?_, trivial⟩ ?_
  · show PV.als 14 1 0 (List.length (List.replicate (Int.toNat (w.items.map eItem).length) _)) = _
    simp
  · show PV.int .i64 (IntKind.i64.wrap ((((ordS w).map (nameAt w)).map eS).length - 1)) = _
    rw [hLl, wrap_i64 (by omega) (by omega)]
    congr 1
    omega
  · show (1, some (Cont.mk 3 1 (List.replicate (Int.toNat (w.items.map eItem).length) _) 0)) = _
    simp [latK, eI]
  intro k s hk
  obtain ⟨hc1, hc2, hc3, hc4⟩ := latK_ok hv hd.1 k hk
  repeat (first|refine pq_end rfl ?_|(refine zs rfl ?_ ?_;·repeat' constructor)|(refine zq rfl ?_ ?_;·repeat' constructor)|refine zw rfl ?_|refine zx rfl ?_|refine zb rfl ?_)
  refine pw_cond rfl (fun h => ?_) (fun h => ?_)
  · have hlt : k < (ordS w).length := by have := of_decide_eq_true h; omega
    clear h
    obtain ⟨y0, hy0⟩ := get_lt (show k < (ordS w).reverse.length by omega)
    obtain ⟨i, x, rfl, hx⟩ := rev_known hv hy0
    have hil := (List.getElem?_eq_some_iff.1 hx).1
    have hxm := List.mem_of_getElem? hx
    have hio := hv.item x hxm
    have hlb := leastP_bound hio
    have hy1 : (ordS w)[(((ordS w).length : Int) - 1 - k).toNat]? = some (i : Int) := by
      have := hy0
      rw [List.getElem?_reverse hlt] at this
      rw [show (((ordS w).length : Int) - 1 - k).toNat = (ordS w).length - 1 - k by omega]; exact this
    have hnm := ord_name hv hy1 hx
    have hiu := hv.good.uniq i x hx
    have h24 := itemOf_ret w x.name (by omega)
    rw [hiu] at h24
    have hmin := refMin_eq hv hd.1 hy0 hil
    have hsucc := latK_succ (days := days) hy0 hx
    rw [← hmin] at hsucc
    have be := hc2.get (d := i) (by omega)
    rw [← hmin] at be
    generalize (latK w days k).2 = out at *
    repeat (first|refine pq_end rfl ?_|(refine zs rfl ?_ ?_;·repeat' constructor)|(refine zq rfl ?_ ?_;·repeat' constructor)|refine zw rfl ?_|refine zx rfl ?_|refine zb rfl ?_)
    refine pw_draw 7 [24, 25, 26, 27, 28, 29, 8] (by decide +kernel) ?_
    repeat (first|refine pq_end rfl ?_|(refine zs rfl ?_ ?_;·repeat' constructor)|(refine zq rfl ?_ ?_;·repeat' constructor)|refine zw rfl ?_|refine zx rfl ?_|refine zb rfl ?_)
    (first|refine zsq rfl (q_idxm rfl rfl rfl rfl rfl (by omega) hnm rfl) ?_|refine zqq rfl (q_idxm rfl rfl rfl rfl rfl (by omega) hnm rfl) ?_)
    repeat (first|refine pq_end rfl ?_|(refine zs rfl ?_ ?_;·repeat' constructor)|(refine zq rfl ?_ ?_;·repeat' constructor)|refine zw rfl ?_|refine zx rfl ?_|refine zb rfl ?_)
    (first|refine zsq rfl (q_callP rfl (h24) rfl (by repeat' constructor) rfl rfl) ?_|refine zqq rfl (q_callP rfl (h24) rfl (by repeat' constructor) rfl rfl) ?_)
    repeat (first|refine pq_end rfl ?_|(refine zs rfl ?_ ?_;·repeat' constructor)|(refine zq rfl ?_ ?_;·repeat' constructor)|refine zw rfl ?_|refine zx rfl ?_|refine zb rfl ?_)
    refine pw_loop (fun j => j ≤ w.items.length) (fun j => [(1, I days), (2, .ptr 2 1 0 0), (5, .als 14 1 0 w.items.length), (6, .sl (((ordS w).map (nameAt w)).map eS)), (7, I (((ordS w).length : Int) - 1 - k)), (8, I i), (9, I (refMin w out i days j)), (10, I j)])
      (fun j => [(2, 1, ⟨28, 9, [eWork w], 2⟩), (14, 1, ⟨3, 1, out.map eI, 0⟩)]) (fun j => w.items.length - j) 0 (Nat.zero_le _) ⟨rfl, rfl, rfl, rfl, rfl, rfl, rfl, rfl, rfl, rfl, trivial⟩ ?_
    intro j s2 hj
    repeat (first|refine pq_end rfl ?_|(refine zs rfl ?_ ?_;·repeat' constructor)|(refine zq rfl ?_ ?_;·repeat' constructor)|refine zw rfl ?_|refine zx rfl ?_|refine zb rfl ?_)
    refine pw_cond rfl (fun h => ?_) (fun h => ?_)
    · have hlt' : j < w.items.length := by simpa using h
      clear h
      obtain ⟨z, hz⟩ := get_lt hlt'
      have hzm := List.mem_of_getElem? hz
      have hza := hw.after z hzm
      have hbz : (bef w).getD j [] = aft w z := by rw [List.getD_eq_getElem?_getD, bef, List.getElem?_map, hz]; rfl
      have hrm := refMin_succ w out i days j
      rw [hbz, ← after_any hv hx hzm] at hrm
      have r1 := eI_at (l := out) (i := j) (by omega)
      repeat (first|refine pq_end rfl ?_|(refine zs rfl ?_ ?_;·repeat' constructor)|(refine zq rfl ?_ ?_;·repeat' constructor)|refine zw rfl ?_|refine zx rfl ?_|refine zb rfl ?_)
      refine pw_draw 11 [38, 39, 40, 41, 42, 43, 44, 45, 46, 47, 48] (by decide +kernel) ?_
      repeat (first|refine pq_end rfl ?_|(refine zs rfl ?_ ?_;·repeat' constructor)|(refine zq rfl ?_ ?_;·repeat' constructor)|refine zw rfl ?_|refine zx rfl ?_|refine zb rfl ?_)
      (first|refine zsq rfl (q_idxm rfl rfl rfl rfl rfl (by omega) hz rfl) ?_|refine zqq rfl (q_idxm rfl rfl rfl rfl rfl (by omega) hz rfl) ?_)
      repeat (first|refine pq_end rfl ?_|(refine zs rfl ?_ ?_;·repeat' constructor)|(refine zq rfl ?_ ?_;·repeat' constructor)|refine zw rfl ?_|refine zx rfl ?_|refine zb rfl ?_)
      (first|refine zsq rfl (q_idxm rfl rfl rfl rfl rfl (by omega) hnm rfl) ?_|refine zqq rfl (q_idxm rfl rfl rfl rfl rfl (by omega) hnm rfl) ?_)
      repeat (first|refine pq_end rfl ?_|(refine zs rfl ?_ ?_;·repeat' constructor)|(refine zq rfl ?_ ?_;·repeat' constructor)|refine zw rfl ?_|refine zx rfl ?_|refine zb rfl ?_)
      (first|refine zsq rfl (q_callP rfl (among_ret z.after x.name (by omega)) rfl (by repeat' constructor) rfl rfl) ?_|refine zqq rfl (q_callP rfl (among_ret z.after x.name (by omega)) rfl (by repeat' constructor) rfl rfl) ?_)
      repeat (first|refine pq_end rfl ?_|(refine zs rfl ?_ ?_;·repeat' constructor)|(refine zq rfl ?_ ?_;·repeat' constructor)|refine zw rfl ?_|refine zx rfl ?_|refine zb rfl ?_)
      refine pw_cond rfl (fun h => ?_) (fun h => ?_)
      · rw [if_pos h] at hrm
        clear h
        repeat (first|refine pq_end rfl ?_|(refine zs rfl ?_ ?_;·repeat' constructor)|(refine zq rfl ?_ ?_;·repeat' constructor)|refine zw rfl ?_|refine zx rfl ?_|refine zb rfl ?_)
        refine ps_q (q_idxA rfl rfl rfl rfl rfl rfl rfl (by omega) (by omega)) ?_
        repeat (first|refine pq_end rfl ?_|(refine zs rfl ?_ ?_;·repeat' constructor)|(refine zq rfl ?_ ?_;·repeat' constructor)|refine zw rfl ?_|refine zx rfl ?_|refine zb rfl ?_)
        refine ps_q (q_ldp rfl rfl rfl r1 rfl) ?_
        repeat (first|refine pq_end rfl ?_|(refine zs rfl ?_ ?_;·repeat' constructor)|(refine zq rfl ?_ ?_;·repeat' constructor)|refine zw rfl ?_|refine zx rfl ?_|refine zb rfl ?_)
        refine ⟨j + 1, hlt', by omega, rfl, rfl, rfl, rfl, rfl, rfl, ?_, i64_next (by omega) (by omega), rfl, rfl, trivial⟩
        rw [hrm]; rfl
      · rw [if_neg (by rw [h]; simp)] at hrm
        clear h
        repeat (first|refine pq_end rfl ?_|(refine zs rfl ?_ ?_;·repeat' constructor)|(refine zq rfl ?_ ?_;·repeat' constructor)|refine zw rfl ?_|refine zx rfl ?_|refine zb rfl ?_)
        refine ⟨j + 1, hlt', by omega, rfl, rfl, rfl, rfl, rfl, rfl, ?_, i64_next (by omega) (by omega), rfl, rfl, trivial⟩
        rw [hrm]; rfl
    · have hge : j = w.items.length := by have : ¬ j < w.items.length := by simpa using h
                                          omega
      subst hge
      clear h
      generalize refMin w out i days w.items.length = v at *
      have hwr : IntKind.i64.wrap (v - leastP x) = v - leastP x := wrap_i64 (by omega) (by omega)
      have r1 := eI_at (l := out) (i := i) (by omega)
      repeat (first|refine pq_end rfl ?_|(refine zs rfl ?_ ?_;·repeat' constructor)|(refine zq rfl ?_ ?_;·repeat' constructor)|refine zw rfl ?_|refine zx rfl ?_|refine zb rfl ?_)
      (first|refine zsq rfl (q_idxm rfl rfl rfl rfl rfl (by omega) hx rfl) ?_|refine zqq rfl (q_idxm rfl rfl rfl rfl rfl (by omega) hx rfl) ?_)
      repeat (first|refine pq_end rfl ?_|(refine zs rfl ?_ ?_;·repeat' constructor)|(refine zq rfl ?_ ?_;·repeat' constructor)|refine zw rfl ?_|refine zx rfl ?_|refine zb rfl ?_)
      (first|refine zsq rfl (q_callP rfl (least_ref x hio.modes.1 (by have := hio.modes; omega)) rfl (by repeat' constructor) rfl rfl) ?_|refine zqq rfl (q_callP rfl (least_ref x hio.modes.1 (by have := hio.modes; omega)) rfl (by repeat' constructor) rfl rfl) ?_)
      repeat (first|refine pq_end rfl ?_|(refine zs rfl ?_ ?_;·repeat' constructor)|(refine zq rfl ?_ ?_;·repeat' constructor)|refine zw rfl ?_|refine zx rfl ?_|refine zb rfl ?_)
      refine ps_q (q_idxA rfl rfl rfl rfl rfl rfl rfl (by omega) (by omega)) ?_
      repeat (first|refine pq_end rfl ?_|(refine zs rfl ?_ ?_;·repeat' constructor)|(refine zq rfl ?_ ?_;·repeat' constructor)|refine zw rfl ?_|refine zx rfl ?_|refine zb rfl ?_)
      refine ps_run0 (o_store (kd' := 0) rfl rfl rfl r1 rfl rfl (by repeat' constructor) rfl rfl rfl rfl ?_)
      repeat (first|refine pq_end rfl ?_|(refine zs rfl ?_ ?_;·repeat' constructor)|(refine zq rfl ?_ ?_;·repeat' constructor)|refine zw rfl ?_|refine zx rfl ?_|refine zb rfl ?_)
      refine ⟨k + 1, hlt, by omega, rfl, rfl, rfl, rfl, ?_, rfl, ?_, trivial⟩
      · show PV.int .i64 (IntKind.i64.wrap (((ordS w).length : Int) - 1 - k - 1)) = _
        rw [wrap_i64 (by omega) (by omega)]
        congr 1
        omega
      · rw [hsucc]
        show (1, some (Cont.mk 3 1 ((out.map eI).set (0 + (i : Int).toNat) [I (IntKind.i64.wrap (v - leastP x))]) 0)) = (1, some (Cont.mk 3 1 ((out.set i (v - leastP x)).map eI) 0))
        rw [Nat.zero_add, Int.toNat_natCast, List.map_set, hwr]
        rfl
  · have hge : k = (ordS w).length := by have := of_decide_eq_false h; omega
    subst hge
    have hfin : (latK w days (ordS w).length).2 = latS w days := by rw [latK, ← hrl, List.take_length, latS]
    rw [hfin] at hc3 ⊢
    repeat (first|refine pq_end rfl ?_|(refine zs rfl ?_ ?_;·repeat' constructor)|(refine zq rfl ?_ ?_;·repeat' constructor)|refine zw rfl ?_|refine zx rfl ?_|refine zb rfl ?_)
    exact end1 rfl rfl rfl ⟨rfl, rfl, by rw [List.length_map, hc3]⟩ rfl

def latestR (w : SWork) (days : Int) : PV := if workE w = 0 then (if days < (earlyS w).2 ∨ 400 < days then .tup [.nil, I 16] else .tup [.sl ((latS w days).map eI), I 0]) else .tup [.nil, I (workE w)]
theorem latest_ret (w : SWork) (hw : Sane w) (days : Int) : Ret Try.prog .shared 34 [.agg (eWork w), I days] (latestR w days) := by
  have h33 := earliest_ret w hw
  by_cases hz : workE w = 0
  · have hv := well_of hz
    rw [earliestR, if_pos hz] at h33
    rw [latestR, if_pos hz]
    obtain ⟨_, he1, he2⟩ := earlyS_ok hw hv
    by_cases hc : days < (earlyS w).2 ∨ 400 < days
    · rw [if_pos hc]
      refine Ret.of_pwp layOk mixed Go.Proofs.Try.func34 rfl (by decide) rfl rfl ?_
      repeat (first|refine pq_end rfl ?_|(refine zs rfl ?_ ?_;·repeat' constructor)|(refine zq rfl ?_ ?_;·repeat' constructor)|refine zw rfl ?_|refine zx rfl ?_|refine zb rfl ?_)
      (first|refine zsq rfl (q_call rfl (h33) rfl (by repeat' constructor) rfl) ?_|refine zqq rfl (q_call rfl (h33) rfl (by repeat' constructor) rfl) ?_)
      repeat (first|refine pq_end rfl ?_|(refine zs rfl ?_ ?_;·repeat' constructor)|(refine zq rfl ?_ ?_;·repeat' constructor)|refine zw rfl ?_|refine zx rfl ?_|refine zb rfl ?_)
      (first | refine ps_split rfl rfl (fun h => ?_) (fun h => ?_) | refine pq_split rfl rfl (fun h => ?_) (fun h => ?_))
      · repeat (first|refine pq_end rfl ?_|(refine zs rfl ?_ ?_;·repeat' constructor)|(refine zq rfl ?_ ?_;·repeat' constructor)|refine zw rfl ?_|refine zx rfl ?_|refine zb rfl ?_)
        exact end2 rfl rfl rfl rfl rfl trivial trivial rfl
      · have h1 := of_decide_eq_false h
        clear h
        repeat (first|refine pq_end rfl ?_|(refine zs rfl ?_ ?_;·repeat' constructor)|(refine zq rfl ?_ ?_;·repeat' constructor)|refine zw rfl ?_|refine zx rfl ?_|refine zb rfl ?_)
        refine pw_cond rfl (fun h => ?_) (fun h => ?_)
        · repeat (first|refine pq_end rfl ?_|(refine zs rfl ?_ ?_;·repeat' constructor)|(refine zq rfl ?_ ?_;·repeat' constructor)|refine zw rfl ?_|refine zx rfl ?_|refine zb rfl ?_)
          exact end2 rfl rfl rfl rfl rfl trivial trivial rfl
        · have h2 := of_decide_eq_false h
          exact absurd hc (by omega)
    · rw [if_neg hc]
      have h86 := latest0_ret w hw hv days (by omega)
      refine Ret.of_pwp layOk mixed Go.Proofs.Try.func34 rfl (by decide) rfl rfl ?_
      repeat (first|refine pq_end rfl ?_|(refine zs rfl ?_ ?_;·repeat' constructor)|(refine zq rfl ?_ ?_;·repeat' constructor)|refine zw rfl ?_|refine zx rfl ?_|refine zb rfl ?_)
      (first|refine zsq rfl (q_call rfl (h33) rfl (by repeat' constructor) rfl) ?_|refine zqq rfl (q_call rfl (h33) rfl (by repeat' constructor) rfl) ?_)
      repeat (first|refine pq_end rfl ?_|(refine zs rfl ?_ ?_;·repeat' constructor)|(refine zq rfl ?_ ?_;·repeat' constructor)|refine zw rfl ?_|refine zx rfl ?_|refine zb rfl ?_)
      (first | refine ps_split rfl rfl (fun h => ?_) (fun h => ?_) | refine pq_split rfl rfl (fun h => ?_) (fun h => ?_))
      · have h1 := of_decide_eq_true h
        exact absurd (.inl h1) hc
      · clear h
        repeat (first|refine pq_end rfl ?_|(refine zs rfl ?_ ?_;·repeat' constructor)|(refine zq rfl ?_ ?_;·repeat' constructor)|refine zw rfl ?_|refine zx rfl ?_|refine zb rfl ?_)
        refine pw_cond rfl (fun h => ?_) (fun h => ?_)
        · have h2 := of_decide_eq_true h
          exact absurd (.inr h2) hc
        · clear h
          repeat (first|refine pq_end rfl ?_|(refine zs rfl ?_ ?_;·repeat' constructor)|(refine zq rfl ?_ ?_;·repeat' constructor)|refine zw rfl ?_|refine zx rfl ?_|refine zb rfl ?_)
          (first|refine zsq rfl (q_call rfl (h86) rfl (by repeat' constructor) rfl) ?_|refine zqq rfl (q_call rfl (h86) rfl (by repeat' constructor) rfl) ?_)
          repeat (first|refine pq_end rfl ?_|(refine zs rfl ?_ ?_;·repeat' constructor)|(refine zq rfl ?_ ?_;·repeat' constructor)|refine zw rfl ?_|refine zx rfl ?_|refine zb rfl ?_)
          exact end2 rfl rfl rfl rfl rfl trivial trivial rfl
  · rw [earliestR, if_neg hz] at h33
    rw [latestR, if_neg hz]
    generalize workE w = e at *
    refine Ret.of_pwp layOk mixed Go.Proofs.Try.func34 rfl (by decide) rfl rfl ?_
    repeat (first|refine pq_end rfl ?_|(refine zs rfl ?_ ?_;·repeat' constructor)|(refine zq rfl ?_ ?_;·repeat' constructor)|refine zw rfl ?_|refine zx rfl ?_|refine zb rfl ?_)
    (first|refine zsq rfl (q_call rfl (h33) rfl (by repeat' constructor) rfl) ?_|refine zqq rfl (q_call rfl (h33) rfl (by repeat' constructor) rfl) ?_)
    repeat (first|refine pq_end rfl ?_|(refine zs rfl ?_ ?_;·repeat' constructor)|(refine zq rfl ?_ ?_;·repeat' constructor)|refine zw rfl ?_|refine zx rfl ?_|refine zb rfl ?_)
    refine pw_cond rfl (fun h => ?_) (fun h => ?_)
    · repeat (first|refine pq_end rfl ?_|(refine zs rfl ?_ ?_;·repeat' constructor)|(refine zq rfl ?_ ?_;·repeat' constructor)|refine zw rfl ?_|refine zx rfl ?_|refine zb rfl ?_)
      exact end2 rfl rfl rfl rfl rfl trivial trivial rfl
    · exact absurd (by simpa using h) hz

def critAt (w : SWork) (a b : List Int) (i : Nat) : List Str := if b.getD i 0 = a.getD i 0 then [(itP w i).name] else []
def critN (w : SWork) (a b : List Int) (n : Nat) : List Str := (List.range n).flatMap (critAt w a b)
def critS (w : SWork) : List Str := critN w (earlyS w).1 (latS w (earlyS w).2) w.items.length
theorem critN_len (w : SWork) (a b : List Int) (n : Nat) : (critN w a b n).length ≤ n := by
  have := flatMap_len (f := critAt w a b) (c := 1) (fun i => by unfold critAt; split <;> simp) (List.range n)
  simpa [critN] using this
theorem eI_get {l : List Int} {i : Nat} (h : i < l.length) : l[i]? = some (l.getD i 0) := by rw [List.getD_eq_getElem?_getD, List.getElem?_eq_getElem h]; rfl
def criticalR (w : SWork) : PV := if workE w = 0 then .tup [.sl ((critS w).map eS), I 0] else .tup [.nil, I (workE w)]
theorem critical_ret (w : SWork) (hw : Sane w) : Ret Try.prog .shared 35 [.agg (eWork w)] (criticalR w) := by
  have h33 := earliest_ret w hw
  by_cases hz : workE w = 0
  · have hv := well_of hz
    have hn := hv.n40
    rw [earliestR, if_pos hz] at h33
    rw [criticalR, if_pos hz]
    obtain ⟨hel, he1, he2⟩ := earlyS_ok hw hv
    have h86 := latest0_ret w hw hv (earlyS w).2 ⟨he1, he2⟩
    have hll := latS_len hv he1
    have hcs : critS w = critN w (earlyS w).1 (latS w (earlyS w).2) w.items.length := rfl
    have hcl := critN_len w (earlyS w).1 (latS w (earlyS w).2)
    rw [hcs]
    generalize latS w (earlyS w).2 = b at *
    generalize (earlyS w).2 = all at *
    generalize (earlyS w).1 = a at *
    refine Ret.of_pwp layOk mixed Go.Proofs.Try.func35 rfl (by decide) rfl rfl ?_
    repeat (first|refine pq_end rfl ?_|(refine zs rfl ?_ ?_;·repeat' constructor)|(refine zq rfl ?_ ?_;·repeat' constructor)|refine zw rfl ?_|refine zx rfl ?_|refine zb rfl ?_)
    (first|refine zsq rfl (q_call rfl (h33) rfl (by repeat' constructor) rfl) ?_|refine zqq rfl (q_call rfl (h33) rfl (by repeat' constructor) rfl) ?_)
    repeat (first|refine pq_end rfl ?_|(refine zs rfl ?_ ?_;·repeat' constructor)|(refine zq rfl ?_ ?_;·repeat' constructor)|refine zw rfl ?_|refine zx rfl ?_|refine zb rfl ?_)
    (first|refine zsq rfl (q_call rfl (h86) rfl (by repeat' constructor) rfl) ?_|refine zqq rfl (q_call rfl (h86) rfl (by repeat' constructor) rfl) ?_)
    repeat (first|refine pq_end rfl ?_|(refine zs rfl ?_ ?_;·repeat' constructor)|(refine zq rfl ?_ ?_;·repeat' constructor)|refine zw rfl ?_|refine zx rfl ?_|refine zb rfl ?_)
    refine pw_ghost (Ghost.nilreg (k := 7) (t := 7) 9 1 0 rfl rfl) ?_
    refine pw_loop (fun k => k ≤ w.items.length) (fun k => [(1, .ptr 1 1 0 0), (4, .sl (a.map eI)), (7, .als 7 (1 + (critN w a b k).length) 0 ((critN w a b k).map eS).length), (21, .sl (b.map eI)), (22, I w.items.length), (23, I k)])
      (fun k => [(1, 1, ⟨28, 9, [eWork w], 2⟩), (7, 1 + (critN w a b k).length, ⟨9, 1, (critN w a b k).map eS, 0⟩)]) (fun k => w.items.length - k) 0 (Nat.zero_le _) ⟨rfl, rfl, rfl, rfl, ?_, rfl, rfl, rfl, trivial⟩ ?_
    · show I ((b.map eI).length) = _
      rw [List.length_map, hll]
    intro k s hk
    have hck := hcl k
    repeat (first|refine pq_end rfl ?_|(refine zs rfl ?_ ?_;·repeat' constructor)|(refine zq rfl ?_ ?_;·repeat' constructor)|refine zw rfl ?_|refine zx rfl ?_|refine zb rfl ?_)
    refine pw_cond rfl (fun h => ?_) (fun h => ?_)
    · have hlt : k < w.items.length := by have := of_decide_eq_true h; omega
      clear h
      obtain ⟨x, hx⟩ := get_lt hlt
      have ha := eI_get (l := a) (i := k) (by omega)
      have hb := eI_get (l := b) (i := k) (by omega)
      have hs : critN w a b (k + 1) = critN w a b k ++ critAt w a b k := range_flatMap _ _
      rw [critAt, itP_at hx] at hs
      generalize critN w a b k = ACC at *
      repeat (first|refine pq_end rfl ?_|(refine zs rfl ?_ ?_;·repeat' constructor)|(refine zq rfl ?_ ?_;·repeat' constructor)|refine zw rfl ?_|refine zx rfl ?_|refine zb rfl ?_)
      (first|refine zsq rfl (q_idxm rfl rfl rfl rfl rfl (by omega) hb rfl) ?_|refine zqq rfl (q_idxm rfl rfl rfl rfl rfl (by omega) hb rfl) ?_)
      repeat (first|refine pq_end rfl ?_|(refine zs rfl ?_ ?_;·repeat' constructor)|(refine zq rfl ?_ ?_;·repeat' constructor)|refine zw rfl ?_|refine zx rfl ?_|refine zb rfl ?_)
      (first|refine zsq rfl (q_idxm rfl rfl rfl rfl rfl (by omega) ha rfl) ?_|refine zqq rfl (q_idxm rfl rfl rfl rfl rfl (by omega) ha rfl) ?_)
      repeat (first|refine pq_end rfl ?_|(refine zs rfl ?_ ?_;·repeat' constructor)|(refine zq rfl ?_ ?_;·repeat' constructor)|refine zw rfl ?_|refine zx rfl ?_|refine zb rfl ?_)
      refine pw_cond rfl (fun h => ?_) (fun h => ?_)
      · have he := of_decide_eq_true h
        clear h
        rw [if_pos he] at hs
        repeat (first|refine pq_end rfl ?_|(refine zs rfl ?_ ?_;·repeat' constructor)|(refine zq rfl ?_ ?_;·repeat' constructor)|refine zw rfl ?_|refine zx rfl ?_|refine zb rfl ?_)
        (first|refine zsq rfl (q_idxm rfl rfl rfl rfl rfl (by omega) hx rfl) ?_|refine zqq rfl (q_idxm rfl rfl rfl rfl rfl (by omega) hx rfl) ?_)
        repeat (first|refine pq_end rfl ?_|(refine zs rfl ?_ ?_;·repeat' constructor)|(refine zq rfl ?_ ?_;·repeat' constructor)|refine zw rfl ?_|refine zx rfl ?_|refine zb rfl ?_)
        (first|refine zsq rfl (q_slit rfl rfl rfl rfl rfl rfl rfl rfl rfl rfl (by repeat' constructor) rfl) ?_|refine zqq rfl (q_slit rfl rfl rfl rfl rfl rfl rfl rfl rfl rfl (by repeat' constructor) rfl) ?_)
        repeat (first|refine pq_end rfl ?_|(refine zs rfl ?_ ?_;·repeat' constructor)|(refine zq rfl ?_ ?_;·repeat' constructor)|refine zw rfl ?_|refine zx rfl ?_|refine zb rfl ?_)
        refine ps_run (o_app 0 rfl rfl rfl rfl rfl rfl rfl rfl rfl rfl rfl (by repeat' constructor) (by intro row hr; first | (simp at hr; subst hr; rfl) | simp at hr) rfl rfl (by simp; omega) (by simp; omega) ?_)
        repeat (first|refine pq_end rfl ?_|(refine zs rfl ?_ ?_;·repeat' constructor)|(refine zq rfl ?_ ?_;·repeat' constructor)|refine zw rfl ?_|refine zx rfl ?_|refine zb rfl ?_)
        refine ⟨k + 1, hlt, by omega, rfl, rfl, ?_, rfl, rfl, i64_next (by omega) (by omega), rfl, ?_, trivial⟩
        · rw [hs]; exact als_snoc eS 7 1 ACC x.name
        · rw [hs]; exact cont_snoc eS 1 9 1 0 ACC x.name
      · have he := of_decide_eq_false h
        clear h
        rw [if_neg he, List.append_nil] at hs
        repeat (first|refine pq_end rfl ?_|(refine zs rfl ?_ ?_;·repeat' constructor)|(refine zq rfl ?_ ?_;·repeat' constructor)|refine zw rfl ?_|refine zx rfl ?_|refine zb rfl ?_)
        refine ⟨k + 1, hlt, by omega, rfl, rfl, ?_, rfl, rfl, i64_next (by omega) (by omega), rfl, ?_, trivial⟩
        · rw [hs]; rfl
        · rw [hs]; rfl
    · have hge : k = w.items.length := by have := of_decide_eq_false h; omega
      subst hge
      repeat (first|refine pq_end rfl ?_|(refine zs rfl ?_ ?_;·repeat' constructor)|(refine zq rfl ?_ ?_;·repeat' constructor)|refine zw rfl ?_|refine zx rfl ?_|refine zb rfl ?_)
      exact end2 rfl rfl rfl rfl rfl ⟨rfl, rfl, rfl⟩ trivial rfl
  · rw [earliestR, if_neg hz] at h33
    rw [criticalR, if_neg hz]
    generalize workE w = e at *
    refine Ret.of_pwp layOk mixed Go.Proofs.Try.func35 rfl (by decide) rfl rfl ?_
    repeat (first|refine pq_end rfl ?_|(refine zs rfl ?_ ?_;·repeat' constructor)|(refine zq rfl ?_ ?_;·repeat' constructor)|refine zw rfl ?_|refine zx rfl ?_|refine zb rfl ?_)
    (first|refine zsq rfl (q_call rfl (h33) rfl (by repeat' constructor) rfl) ?_|refine zqq rfl (q_call rfl (h33) rfl (by repeat' constructor) rfl) ?_)
    repeat (first|refine pq_end rfl ?_|(refine zs rfl ?_ ?_;·repeat' constructor)|(refine zq rfl ?_ ?_;·repeat' constructor)|refine zw rfl ?_|refine zx rfl ?_|refine zb rfl ?_)
    refine pw_cond rfl (fun h => ?_) (fun h => ?_)
    · repeat (first|refine pq_end rfl ?_|(refine zs rfl ?_ ?_;·repeat' constructor)|(refine zq rfl ?_ ?_;·repeat' constructor)|refine zw rfl ?_|refine zx rfl ?_|refine zb rfl ?_)
      exact end2 rfl rfl rfl rfl rfl trivial trivial rfl
    · exact absurd (by simpa using h) hz
theorem critical_ref (w : SWork) (hw : Sane w) (hv : Well w) : Ret Try.prog .shared 38 [.agg (eWork w)] (.sl ((critS w).map eS)) := by
  have h36 := earliest_ref w hw hv
  have hn := hv.n40
  obtain ⟨hel, he1, he2⟩ := earlyS_ok hw hv
  have h39 := latest_ref w hw hv (earlyS w).2 ⟨he1, he2⟩
  have hll := latS_len hv he1
  have hcs : critS w = critN w (earlyS w).1 (latS w (earlyS w).2) w.items.length := rfl
  have hcl := critN_len w (earlyS w).1 (latS w (earlyS w).2)
  rw [hcs]
  generalize latS w (earlyS w).2 = b at *
  generalize (earlyS w).2 = all at *
  generalize (earlyS w).1 = a at *
  have hal : ((a.map eI).length : Int) = w.items.length := by simp [hel]
  refine Ret.of_pwp layOk mixed Go.Proofs.Try.func38 rfl (by decide) rfl rfl ?_
  repeat (first|refine pq_end rfl ?_|(refine zs rfl ?_ ?_;·repeat' constructor)|(refine zq rfl ?_ ?_;·repeat' constructor)|refine zw rfl ?_|refine zx rfl ?_|refine zb rfl ?_)
  (first|refine zsq rfl (q_call rfl (h36) rfl (by repeat' constructor) rfl) ?_|refine zqq rfl (q_call rfl (h36) rfl (by repeat' constructor) rfl) ?_)
  repeat (first|refine pq_end rfl ?_|(refine zs rfl ?_ ?_;·repeat' constructor)|(refine zq rfl ?_ ?_;·repeat' constructor)|refine zw rfl ?_|refine zx rfl ?_|refine zb rfl ?_)
  (first|refine zsq rfl (q_call rfl (h39) rfl (by repeat' constructor) rfl) ?_|refine zqq rfl (q_call rfl (h39) rfl (by repeat' constructor) rfl) ?_)
  repeat (first|refine pq_end rfl ?_|(refine zs rfl ?_ ?_;·repeat' constructor)|(refine zq rfl ?_ ?_;·repeat' constructor)|refine zw rfl ?_|refine zx rfl ?_|refine zb rfl ?_)
  refine pw_ghost (Ghost.nilreg (k := 6) (t := 6) 9 1 0 rfl rfl) ?_
  refine pw_loop (fun k => k ≤ w.items.length) (fun k => [(1, .ptr 1 1 0 0), (3, .sl (a.map eI)), (5, .sl (b.map eI)), (6, .als 6 (1 + (critN w a b k).length) 0 ((critN w a b k).map eS).length), (7, I k)])
    (fun k => [(1, 1, ⟨28, 9, [eWork w], 2⟩), (6, 1 + (critN w a b k).length, ⟨9, 1, (critN w a b k).map eS, 0⟩)]) (fun k => w.items.length - k) 0 (Nat.zero_le _) ⟨rfl, rfl, rfl, rfl, rfl, rfl, rfl, trivial⟩ ?_
  intro k s hk
  have hck := hcl k
  repeat (first|refine pq_end rfl ?_|(refine zs rfl ?_ ?_;·repeat' constructor)|(refine zq rfl ?_ ?_;·repeat' constructor)|refine zw rfl ?_|refine zx rfl ?_|refine zb rfl ?_)
  refine pw_cond rfl (fun h => ?_) (fun h => ?_)
  · have hlt : k < w.items.length := by have := of_decide_eq_true h; omega
    clear h
    obtain ⟨x, hx⟩ := get_lt hlt
    have ha := eI_get (l := a) (i := k) (by omega)
    have hb := eI_get (l := b) (i := k) (by omega)
    have hs : critN w a b (k + 1) = critN w a b k ++ critAt w a b k := range_flatMap _ _
    rw [critAt, itP_at hx] at hs
    generalize critN w a b k = ACC at *
    repeat (first|refine pq_end rfl ?_|(refine zs rfl ?_ ?_;·repeat' constructor)|(refine zq rfl ?_ ?_;·repeat' constructor)|refine zw rfl ?_|refine zx rfl ?_|refine zb rfl ?_)
    refine pw_draw 9 [22, 23, 24, 25, 26, 27, 28, 29, 30] (by decide +kernel) ?_
    repeat (first|refine pq_end rfl ?_|(refine zs rfl ?_ ?_;·repeat' constructor)|(refine zq rfl ?_ ?_;·repeat' constructor)|refine zw rfl ?_|refine zx rfl ?_|refine zb rfl ?_)
    (first|refine zsq rfl (q_idxm rfl rfl rfl rfl rfl (by omega) ha rfl) ?_|refine zqq rfl (q_idxm rfl rfl rfl rfl rfl (by omega) ha rfl) ?_)
    repeat (first|refine pq_end rfl ?_|(refine zs rfl ?_ ?_;·repeat' constructor)|(refine zq rfl ?_ ?_;·repeat' constructor)|refine zw rfl ?_|refine zx rfl ?_|refine zb rfl ?_)
    (first|refine zsq rfl (q_idxm rfl rfl rfl rfl rfl (by omega) hb rfl) ?_|refine zqq rfl (q_idxm rfl rfl rfl rfl rfl (by omega) hb rfl) ?_)
    repeat (first|refine pq_end rfl ?_|(refine zs rfl ?_ ?_;·repeat' constructor)|(refine zq rfl ?_ ?_;·repeat' constructor)|refine zw rfl ?_|refine zx rfl ?_|refine zb rfl ?_)
    refine pw_cond rfl (fun h => ?_) (fun h => ?_)
    · have he := of_decide_eq_true h
      clear h
      rw [if_pos he.symm] at hs
      repeat (first|refine pq_end rfl ?_|(refine zs rfl ?_ ?_;·repeat' constructor)|(refine zq rfl ?_ ?_;·repeat' constructor)|refine zw rfl ?_|refine zx rfl ?_|refine zb rfl ?_)
      (first|refine zsq rfl (q_idxm rfl rfl rfl rfl rfl (by omega) hx rfl) ?_|refine zqq rfl (q_idxm rfl rfl rfl rfl rfl (by omega) hx rfl) ?_)
      repeat (first|refine pq_end rfl ?_|(refine zs rfl ?_ ?_;·repeat' constructor)|(refine zq rfl ?_ ?_;·repeat' constructor)|refine zw rfl ?_|refine zx rfl ?_|refine zb rfl ?_)
      (first|refine zsq rfl (q_slit rfl rfl rfl rfl rfl rfl rfl rfl rfl rfl (by repeat' constructor) rfl) ?_|refine zqq rfl (q_slit rfl rfl rfl rfl rfl rfl rfl rfl rfl rfl (by repeat' constructor) rfl) ?_)
      repeat (first|refine pq_end rfl ?_|(refine zs rfl ?_ ?_;·repeat' constructor)|(refine zq rfl ?_ ?_;·repeat' constructor)|refine zw rfl ?_|refine zx rfl ?_|refine zb rfl ?_)
      refine ps_run (o_app 0 rfl rfl rfl rfl rfl rfl rfl rfl rfl rfl rfl (by repeat' constructor) (by intro row hr; first | (simp at hr; subst hr; rfl) | simp at hr) rfl rfl (by simp; omega) (by simp; omega) ?_)
      repeat (first|refine pq_end rfl ?_|(refine zs rfl ?_ ?_;·repeat' constructor)|(refine zq rfl ?_ ?_;·repeat' constructor)|refine zw rfl ?_|refine zx rfl ?_|refine zb rfl ?_)
      refine ⟨k + 1, hlt, by omega, rfl, rfl, rfl, ?_, i64_next (by omega) (by omega), rfl, ?_, trivial⟩
      · rw [hs]; exact als_snoc eS 6 1 ACC x.name
      · rw [hs]; exact cont_snoc eS 1 9 1 0 ACC x.name
    · have he := of_decide_eq_false h
      clear h
      rw [if_neg (Ne.symm he), List.append_nil] at hs
      repeat (first|refine pq_end rfl ?_|(refine zs rfl ?_ ?_;·repeat' constructor)|(refine zq rfl ?_ ?_;·repeat' constructor)|refine zw rfl ?_|refine zx rfl ?_|refine zb rfl ?_)
      refine ⟨k + 1, hlt, by omega, rfl, rfl, rfl, ?_, i64_next (by omega) (by omega), rfl, ?_, trivial⟩
      · rw [hs]; rfl
      · rw [hs]; rfl
  · have hge : k = w.items.length := by have := of_decide_eq_false h; omega
    subst hge
    repeat (first|refine pq_end rfl ?_|(refine zs rfl ?_ ?_;·repeat' constructor)|(refine zq rfl ?_ ?_;·repeat' constructor)|refine zw rfl ?_|refine zx rfl ?_|refine zb rfl ?_)
    exact end1 rfl rfl rfl ⟨rfl, rfl, rfl⟩ rfl
end Go.Pv

/- Plain work. -/
set_option maxHeartbeats 2000000
namespace Go.Pv
attribute [local irreducible] PWP POps PQuiet PSem XThen XBlock RetPost InlPost
open Go.Proofs

def longS (s : Str) : Bool := decide (40 < s.length)
def badT (t : STrade) : Bool := longS t.name
def badS (x : SSpace) : Bool := longS x.name || decide (20 < x.next.length) || x.next.any longS
def badI (x : SItem) : Bool := longS x.name || longS x.trade || longS x.space || decide (6 < x.modes.length) || decide (12 < x.after.length) || x.after.any longS
def badW (w : SWork) (most : Int) : Bool := decide (8 < w.trades.length) || decide (14 < w.spaces.length) || decide (32 < w.excls.length) || decide (22 < w.outs.length) || (decide (most < w.items.length) && decide (w.items.length ≤ 40)) || decide (45 < w.items.length)
def plainB (w : SWork) (most : Int) : Bool := !(badW w most || w.trades.any badT || w.spaces.any badS || w.items.any badI)

theorem int_lt {a b : Nat} : decide ((a : Int) < (b : Int)) = decide (a < b) := by
  by_cases h : a < b
  · rw [decide_eq_true h, decide_eq_true (by omega)]
  · rw [decide_eq_false h, decide_eq_false (by omega)]

theorem plain_ret (w : SWork) (most : Int) : Ret Try.prog .shared 11 [.agg (eWork w), I most] (.bool (plainB w most)) := by
  have e1 : (w.trades.map eTrade).length = w.trades.length := by simp
  have e2 : (w.spaces.map eSpace).length = w.spaces.length := by simp
  have e3 : (w.excls.map eExcl).length = w.excls.length := by simp
  have e4 : (w.outs.map eOut).length = w.outs.length := by simp
  have e5 : (w.items.map eItem).length = w.items.length := by simp
  refine Ret.of_pwp layOk mixed Go.Proofs.Try.func11 rfl (by decide) rfl rfl ?_
  repeat (first|refine pq_end rfl ?_|(refine zs rfl ?_ ?_;·repeat' constructor)|(refine zq rfl ?_ ?_;·repeat' constructor)|refine zw rfl ?_|refine zx rfl ?_|refine zb rfl ?_)
  refine ps_cut 100 [(2, .ptr 2 1 0 0), (49, .bool (badW w most))] [(2, 1, ⟨28, 9, [eWork w], 2⟩)] ?_ ?_
  · repeat' (first|refine pq_end rfl ?_|(refine zs rfl ?_ ?_;·repeat' constructor)|(refine zq rfl ?_ ?_;·repeat' constructor)|refine zw rfl ?_|refine zx rfl ?_|refine zb rfl ?_|refine ps_split rfl rfl (fun h => ?_) (fun h => ?_)|refine pq_split rfl rfl (fun h => ?_) (fun h => ?_))
    all_goals
      refine ⟨rfl, congrArg PV.bool ?_, rfl, trivial⟩
      simp only [e1, e2, e3, e4, e5] at *
      rw [Bool.eq_iff_iff]
      simp only [badW, Bool.or_eq_true, Bool.and_eq_true, decide_eq_true_eq, decide_eq_false_iff_not, true_iff, iff_true, Bool.false_eq_true, false_iff] at *
      omega
  intro s
  repeat (first|refine pq_end rfl ?_|(refine zs rfl ?_ ?_;·repeat' constructor)|(refine zq rfl ?_ ?_;·repeat' constructor)|refine zw rfl ?_|refine zx rfl ?_|refine zb rfl ?_)
  refine pw_cond rfl (fun h => ?_) (fun h => ?_)
  · have hb : badW w most = true := h
    repeat (first|refine pq_end rfl ?_|(refine zs rfl ?_ ?_;·repeat' constructor)|(refine zq rfl ?_ ?_;·repeat' constructor)|refine zw rfl ?_|refine zx rfl ?_|refine zb rfl ?_)
    exact end1b rfl rfl (by rw [plainB, hb]; rfl)
  have hb : badW w most = false := h
  have hsm : w.trades.length ≤ 8 ∧ w.spaces.length ≤ 14 ∧ w.items.length ≤ 45 := by
    simp only [badW, Bool.or_eq_false_iff, decide_eq_false_iff_not] at hb
    omega
  clear h
  repeat (first|refine pq_end rfl ?_|(refine zs rfl ?_ ?_;·repeat' constructor)|(refine zq rfl ?_ ?_;·repeat' constructor)|refine zw rfl ?_|refine zx rfl ?_|refine zb rfl ?_)
  refine pw_loop (Clear w.trades badT) (fun k => [(2, .ptr 2 1 0 0), (5, I k)]) (fun _ => [(2, 1, ⟨28, 9, [eWork w], 2⟩)]) (fun k => w.trades.length - k) 0 .zero ⟨rfl, rfl, rfl, trivial⟩ ?_
  intro k s hk
  repeat (first|refine pq_end rfl ?_|(refine zs rfl ?_ ?_;·repeat' constructor)|(refine zq rfl ?_ ?_;·repeat' constructor)|refine zw rfl ?_|refine zx rfl ?_|refine zb rfl ?_)
  refine pw_cond rfl (fun h => ?_) (fun h => ?_)
  · have hlt : k < w.trades.length := by simpa using h
    obtain ⟨t, ht⟩ := get_lt hlt
    clear h
    repeat (first|refine pq_end rfl ?_|(refine zs rfl ?_ ?_;·repeat' constructor)|(refine zq rfl ?_ ?_;·repeat' constructor)|refine zw rfl ?_|refine zx rfl ?_|refine zb rfl ?_)
    (first|refine zsq rfl (q_idxm rfl rfl rfl rfl rfl (by omega) ht rfl) ?_|refine zqq rfl (q_idxm rfl rfl rfl rfl rfl (by omega) ht rfl) ?_)
    repeat (first|refine pq_end rfl ?_|(refine zs rfl ?_ ?_;·repeat' constructor)|(refine zq rfl ?_ ?_;·repeat' constructor)|refine zw rfl ?_|refine zx rfl ?_|refine zb rfl ?_)
    refine pw_cond rfl (fun h => ?_) (fun h => ?_)
    · have hbad : badT t = true := by have := of_decide_eq_true h; simp [badT, longS]; omega
      repeat (first|refine pq_end rfl ?_|(refine zs rfl ?_ ?_;·repeat' constructor)|(refine zq rfl ?_ ?_;·repeat' constructor)|refine zw rfl ?_|refine zx rfl ?_|refine zb rfl ?_)
      exact end1b rfl rfl (by rw [plainB, any_of ht hbad]; simp)
    · have hok : badT t = false := by have := of_decide_eq_false h; simp [badT, longS]; omega
      repeat (first|refine pq_end rfl ?_|(refine zs rfl ?_ ?_;·repeat' constructor)|(refine zq rfl ?_ ?_;·repeat' constructor)|refine zw rfl ?_|refine zx rfl ?_|refine zb rfl ?_)
      refine ⟨k + 1, hk.succ ht hok, by omega, rfl, ?_, rfl, trivial⟩
      exact i64_next (by omega) (by omega)
  have ht := hk.any (by simpa using h)
  clear h hk
  repeat (first|refine pq_end rfl ?_|(refine zs rfl ?_ ?_;·repeat' constructor)|(refine zq rfl ?_ ?_;·repeat' constructor)|refine zw rfl ?_|refine zx rfl ?_|refine zb rfl ?_)
  refine pw_loop (Clear w.spaces badS) (fun k => [(2, .ptr 2 1 0 0), (6, I k)]) (fun _ => [(2, 1, ⟨28, 9, [eWork w], 2⟩)]) (fun k => w.spaces.length - k) 0 .zero ⟨rfl, rfl, rfl, trivial⟩ ?_
  intro k s hk
  repeat (first|refine pq_end rfl ?_|(refine zs rfl ?_ ?_;·repeat' constructor)|(refine zq rfl ?_ ?_;·repeat' constructor)|refine zw rfl ?_|refine zx rfl ?_|refine zb rfl ?_)
  refine pw_cond rfl (fun h => ?_) (fun h => ?_)
  · have hlt : k < w.spaces.length := by simpa using h
    obtain ⟨x, hx⟩ := get_lt hlt
    clear h
    have yes : badS x = true → PV.bool false = .bool (plainB w most) := fun h => by rw [plainB, any_of hx h]; simp
    repeat (first|refine pq_end rfl ?_|(refine zs rfl ?_ ?_;·repeat' constructor)|(refine zq rfl ?_ ?_;·repeat' constructor)|refine zw rfl ?_|refine zx rfl ?_|refine zb rfl ?_)
    (first|refine zsq rfl (q_idxm rfl rfl rfl rfl rfl (by omega) hx rfl) ?_|refine zqq rfl (q_idxm rfl rfl rfl rfl rfl (by omega) hx rfl) ?_)
    repeat (first|refine pq_end rfl ?_|(refine zs rfl ?_ ?_;·repeat' constructor)|(refine zq rfl ?_ ?_;·repeat' constructor)|refine zw rfl ?_|refine zx rfl ?_|refine zb rfl ?_)
    (first | refine ps_split rfl rfl (fun h => ?_) (fun h => ?_) | refine pq_split rfl rfl (fun h => ?_) (fun h => ?_))
    · have h1 : longS x.name = true := by have := of_decide_eq_true h; simp [longS]; omega
      repeat (first|refine pq_end rfl ?_|(refine zs rfl ?_ ?_;·repeat' constructor)|(refine zq rfl ?_ ?_;·repeat' constructor)|refine zw rfl ?_|refine zx rfl ?_|refine zb rfl ?_)
      exact end1b rfl rfl (yes (by rw [badS, h1]; rfl))
    have h1 : longS x.name = false := by have := of_decide_eq_false h; simp [longS]; omega
    clear h
    repeat (first|refine pq_end rfl ?_|(refine zs rfl ?_ ?_;·repeat' constructor)|(refine zq rfl ?_ ?_;·repeat' constructor)|refine zw rfl ?_|refine zx rfl ?_|refine zb rfl ?_)
    (first|refine zsq rfl (q_idxm rfl rfl rfl rfl rfl (by omega) hx rfl) ?_|refine zqq rfl (q_idxm rfl rfl rfl rfl rfl (by omega) hx rfl) ?_)
    repeat (first|refine pq_end rfl ?_|(refine zs rfl ?_ ?_;·repeat' constructor)|(refine zq rfl ?_ ?_;·repeat' constructor)|refine zw rfl ?_|refine zx rfl ?_|refine zb rfl ?_)
    (first | refine ps_split rfl rfl (fun h => ?_) (fun h => ?_) | refine pq_split rfl rfl (fun h => ?_) (fun h => ?_))
    · have h2 : decide (20 < x.next.length) = true := by have := of_decide_eq_true h; rw [List.length_map] at this; simp; omega
      repeat (first|refine pq_end rfl ?_|(refine zs rfl ?_ ?_;·repeat' constructor)|(refine zq rfl ?_ ?_;·repeat' constructor)|refine zw rfl ?_|refine zx rfl ?_|refine zb rfl ?_)
      exact end1b rfl rfl (yes (by rw [badS, h1, h2]; rfl))
    have h2 : decide (20 < x.next.length) = false := by have := of_decide_eq_false h; rw [List.length_map] at this; simp; omega
    have hl2 := of_decide_eq_false h2
    clear h
    repeat (first|refine pq_end rfl ?_|(refine zs rfl ?_ ?_;·repeat' constructor)|(refine zq rfl ?_ ?_;·repeat' constructor)|refine zw rfl ?_|refine zx rfl ?_|refine zb rfl ?_)
    (first|refine zsq rfl (q_idxm rfl rfl rfl rfl rfl (by omega) hx rfl) ?_|refine zqq rfl (q_idxm rfl rfl rfl rfl rfl (by omega) hx rfl) ?_)
    repeat (first|refine pq_end rfl ?_|(refine zs rfl ?_ ?_;·repeat' constructor)|(refine zq rfl ?_ ?_;·repeat' constructor)|refine zw rfl ?_|refine zx rfl ?_|refine zb rfl ?_)
    (first|refine zsq rfl (q_callP rfl (texts_ret x.next (by omega)) rfl (by repeat' constructor) rfl rfl) ?_|refine zqq rfl (q_callP rfl (texts_ret x.next (by omega)) rfl (by repeat' constructor) rfl rfl) ?_)
    repeat (first|refine pq_end rfl ?_|(refine zs rfl ?_ ?_;·repeat' constructor)|(refine zq rfl ?_ ?_;·repeat' constructor)|refine zw rfl ?_|refine zx rfl ?_|refine zb rfl ?_)
    refine pw_cond rfl (fun h => ?_) (fun h => ?_)
    · have h3 : x.next.any longS = true := by simpa [longS] using h
      repeat (first|refine pq_end rfl ?_|(refine zs rfl ?_ ?_;·repeat' constructor)|(refine zq rfl ?_ ?_;·repeat' constructor)|refine zw rfl ?_|refine zx rfl ?_|refine zb rfl ?_)
      exact end1b rfl rfl (yes (by rw [badS, h1, h2, h3]; rfl))
    · have h3 : x.next.any longS = false := by
        have : (!(!x.next.any fun s => decide (40 < s.length))) = false := h
        simpa [longS] using this
      repeat (first|refine pq_end rfl ?_|(refine zs rfl ?_ ?_;·repeat' constructor)|(refine zq rfl ?_ ?_;·repeat' constructor)|refine zw rfl ?_|refine zx rfl ?_|refine zb rfl ?_)
      refine ⟨k + 1, hk.succ hx (by rw [badS, h1, h2, h3]; rfl), by omega, rfl, ?_, rfl, trivial⟩
      exact i64_next (by omega) (by omega)
  have hs := hk.any (by simpa using h)
  clear h hk
  repeat (first|refine pq_end rfl ?_|(refine zs rfl ?_ ?_;·repeat' constructor)|(refine zq rfl ?_ ?_;·repeat' constructor)|refine zw rfl ?_|refine zx rfl ?_|refine zb rfl ?_)
  refine pw_loop (Clear w.items badI) (fun k => [(2, .ptr 2 1 0 0), (7, I k)]) (fun _ => [(2, 1, ⟨28, 9, [eWork w], 2⟩)]) (fun k => w.items.length - k) 0 .zero ⟨rfl, rfl, rfl, trivial⟩ ?_
  intro k s hk
  repeat (first|refine pq_end rfl ?_|(refine zs rfl ?_ ?_;·repeat' constructor)|(refine zq rfl ?_ ?_;·repeat' constructor)|refine zw rfl ?_|refine zx rfl ?_|refine zb rfl ?_)
  refine pw_cond rfl (fun h => ?_) (fun h => ?_)
  · have hlt : k < w.items.length := by simpa using h
    obtain ⟨x, hx⟩ := get_lt hlt
    clear h
    have yes : badI x = true → PV.bool false = .bool (plainB w most) := fun h => by rw [plainB, any_of hx h]; simp
    repeat (first|refine pq_end rfl ?_|(refine zs rfl ?_ ?_;·repeat' constructor)|(refine zq rfl ?_ ?_;·repeat' constructor)|refine zw rfl ?_|refine zx rfl ?_|refine zb rfl ?_)
    (first|refine zsq rfl (q_idxm rfl rfl rfl rfl rfl (by omega) hx rfl) ?_|refine zqq rfl (q_idxm rfl rfl rfl rfl rfl (by omega) hx rfl) ?_)
    repeat (first|refine pq_end rfl ?_|(refine zs rfl ?_ ?_;·repeat' constructor)|(refine zq rfl ?_ ?_;·repeat' constructor)|refine zw rfl ?_|refine zx rfl ?_|refine zb rfl ?_)
    (first | refine ps_split rfl rfl (fun h => ?_) (fun h => ?_) | refine pq_split rfl rfl (fun h => ?_) (fun h => ?_))
    · have h1 : longS x.name = true := by have := of_decide_eq_true h; simp [longS]; omega
      repeat (first|refine pq_end rfl ?_|(refine zs rfl ?_ ?_;·repeat' constructor)|(refine zq rfl ?_ ?_;·repeat' constructor)|refine zw rfl ?_|refine zx rfl ?_|refine zb rfl ?_)
      exact end1b rfl rfl (yes (by rw [badI, h1]; rfl))
    have h1 : longS x.name = false := by have := of_decide_eq_false h; simp [longS]; omega
    clear h
    repeat (first|refine pq_end rfl ?_|(refine zs rfl ?_ ?_;·repeat' constructor)|(refine zq rfl ?_ ?_;·repeat' constructor)|refine zw rfl ?_|refine zx rfl ?_|refine zb rfl ?_)
    (first | refine ps_split rfl rfl (fun h => ?_) (fun h => ?_) | refine pq_split rfl rfl (fun h => ?_) (fun h => ?_))
    · have h2 : longS x.trade = true := by have := of_decide_eq_true h; simp [longS]; omega
      repeat (first|refine pq_end rfl ?_|(refine zs rfl ?_ ?_;·repeat' constructor)|(refine zq rfl ?_ ?_;·repeat' constructor)|refine zw rfl ?_|refine zx rfl ?_|refine zb rfl ?_)
      exact end1b rfl rfl (yes (by rw [badI, h1, h2]; rfl))
    have h2 : longS x.trade = false := by have := of_decide_eq_false h; simp [longS]; omega
    clear h
    repeat (first|refine pq_end rfl ?_|(refine zs rfl ?_ ?_;·repeat' constructor)|(refine zq rfl ?_ ?_;·repeat' constructor)|refine zw rfl ?_|refine zx rfl ?_|refine zb rfl ?_)
    (first | refine ps_split rfl rfl (fun h => ?_) (fun h => ?_) | refine pq_split rfl rfl (fun h => ?_) (fun h => ?_))
    · have h3 : longS x.space = true := by have := of_decide_eq_true h; simp [longS]; omega
      repeat (first|refine pq_end rfl ?_|(refine zs rfl ?_ ?_;·repeat' constructor)|(refine zq rfl ?_ ?_;·repeat' constructor)|refine zw rfl ?_|refine zx rfl ?_|refine zb rfl ?_)
      exact end1b rfl rfl (yes (by rw [badI, h1, h2, h3]; rfl))
    have h3 : longS x.space = false := by have := of_decide_eq_false h; simp [longS]; omega
    clear h
    repeat (first|refine pq_end rfl ?_|(refine zs rfl ?_ ?_;·repeat' constructor)|(refine zq rfl ?_ ?_;·repeat' constructor)|refine zw rfl ?_|refine zx rfl ?_|refine zb rfl ?_)
    (first | refine ps_split rfl rfl (fun h => ?_) (fun h => ?_) | refine pq_split rfl rfl (fun h => ?_) (fun h => ?_))
    · have h4 : decide (6 < x.modes.length) = true := by have := of_decide_eq_true h; rw [List.length_map] at this; simp; omega
      repeat (first|refine pq_end rfl ?_|(refine zs rfl ?_ ?_;·repeat' constructor)|(refine zq rfl ?_ ?_;·repeat' constructor)|refine zw rfl ?_|refine zx rfl ?_|refine zb rfl ?_)
      exact end1b rfl rfl (yes (by rw [badI, h1, h2, h3, h4]; rfl))
    have h4 : decide (6 < x.modes.length) = false := by have := of_decide_eq_false h; rw [List.length_map] at this; simp; omega
    clear h
    repeat (first|refine pq_end rfl ?_|(refine zs rfl ?_ ?_;·repeat' constructor)|(refine zq rfl ?_ ?_;·repeat' constructor)|refine zw rfl ?_|refine zx rfl ?_|refine zb rfl ?_)
    (first | refine ps_split rfl rfl (fun h => ?_) (fun h => ?_) | refine pq_split rfl rfl (fun h => ?_) (fun h => ?_))
    · have h5 : decide (12 < x.after.length) = true := by have := of_decide_eq_true h; rw [List.length_map] at this; simp; omega
      repeat (first|refine pq_end rfl ?_|(refine zs rfl ?_ ?_;·repeat' constructor)|(refine zq rfl ?_ ?_;·repeat' constructor)|refine zw rfl ?_|refine zx rfl ?_|refine zb rfl ?_)
      exact end1b rfl rfl (yes (by rw [badI, h1, h2, h3, h4, h5]; rfl))
    have h5 : decide (12 < x.after.length) = false := by have := of_decide_eq_false h; rw [List.length_map] at this; simp; omega
    have hl5 := of_decide_eq_false h5
    clear h
    repeat (first|refine pq_end rfl ?_|(refine zs rfl ?_ ?_;·repeat' constructor)|(refine zq rfl ?_ ?_;·repeat' constructor)|refine zw rfl ?_|refine zx rfl ?_|refine zb rfl ?_)
    (first|refine zsq rfl (q_callP rfl (texts_ret x.after (by omega)) rfl (by repeat' constructor) rfl rfl) ?_|refine zqq rfl (q_callP rfl (texts_ret x.after (by omega)) rfl (by repeat' constructor) rfl rfl) ?_)
    repeat (first|refine pq_end rfl ?_|(refine zs rfl ?_ ?_;·repeat' constructor)|(refine zq rfl ?_ ?_;·repeat' constructor)|refine zw rfl ?_|refine zx rfl ?_|refine zb rfl ?_)
    refine pw_cond rfl (fun h => ?_) (fun h => ?_)
    · have h6 : x.after.any longS = true := by simpa [longS] using h
      repeat (first|refine pq_end rfl ?_|(refine zs rfl ?_ ?_;·repeat' constructor)|(refine zq rfl ?_ ?_;·repeat' constructor)|refine zw rfl ?_|refine zx rfl ?_|refine zb rfl ?_)
      exact end1b rfl rfl (yes (by rw [badI, h1, h2, h3, h4, h5, h6]; rfl))
    · have h6 : x.after.any longS = false := by
        have : (!(!x.after.any fun s => decide (40 < s.length))) = false := h
        simpa [longS] using this
      repeat (first|refine pq_end rfl ?_|(refine zs rfl ?_ ?_;·repeat' constructor)|(refine zq rfl ?_ ?_;·repeat' constructor)|refine zw rfl ?_|refine zx rfl ?_|refine zb rfl ?_)
      refine ⟨k + 1, hk.succ hx (by rw [badI, h1, h2, h3, h4, h5, h6]; rfl), by omega, rfl, ?_, rfl, trivial⟩
      exact i64_next (by omega) (by omega)
  have hi := hk.any (by simpa using h)
  repeat (first|refine pq_end rfl ?_|(refine zs rfl ?_ ?_;·repeat' constructor)|(refine zq rfl ?_ ?_;·repeat' constructor)|refine zw rfl ?_|refine zx rfl ?_|refine zb rfl ?_)
  exact end1b rfl rfl (by rw [plainB, hb, ht, hs, hi]; rfl)
theorem sane_of {w : SWork} {most : Int} (h : plainB w most = true) : Sane w := by
  simp only [plainB, Bool.not_eq_true', Bool.or_eq_false_iff] at h
  obtain ⟨⟨⟨hb, ht⟩, hs⟩, hi⟩ := h
  simp only [badW, Bool.or_eq_false_iff, decide_eq_false_iff_not] at hb
  rw [List.any_eq_false] at hs hi
  refine ⟨by omega, by omega, by omega, by omega, by omega, fun x hx => ?_, fun x hx => ?_⟩
  · have := hs x hx
    simp only [badS, Bool.or_eq_true, decide_eq_true_eq, not_or] at this
    omega
  · have := hi x hx
    simp only [badI, Bool.or_eq_true, decide_eq_true_eq, not_or] at this
    omega
end Go.Pv

/- The law of times. -/
set_option maxHeartbeats 2000000
namespace Go.Pv
attribute [local irreducible] PWP POps PQuiet PSem XThen XBlock RetPost InlPost
open Go.Proofs

set_option maxRecDepth 20000 in
theorem times_law (aw : Ret Try.prog .shared 10 [] (.bool true)) (w : SWork) (days : Int) : Ret Try.prog .shared 8 [.agg (eWork w), I days] (.bool true) := by
  have h11 := plain_ret w 12
  cases hp : plainB w 12 with
  | false =>
    rw [hp] at h11
    refine Ret.of_pwp layOk mixed Go.Proofs.Try.func8 rfl (by decide) rfl rfl ?_
    repeat (first|refine pq_end rfl ?_|(refine zs rfl ?_ ?_;·repeat' constructor)|(refine zq rfl ?_ ?_;·repeat' constructor)|refine zw rfl ?_|refine zx rfl ?_|refine zb rfl ?_)
    (first|refine zsq rfl (q_callP rfl (aw) rfl (by repeat' constructor) rfl rfl) ?_|refine zqq rfl (q_callP rfl (aw) rfl (by repeat' constructor) rfl rfl) ?_)
    repeat (first|refine pq_end rfl ?_|(refine zs rfl ?_ ?_;·repeat' constructor)|(refine zq rfl ?_ ?_;·repeat' constructor)|refine zw rfl ?_|refine zx rfl ?_|refine zb rfl ?_)
    (first|refine zsq rfl (q_callP rfl (h11) rfl (by repeat' constructor) rfl rfl) ?_|refine zqq rfl (q_callP rfl (h11) rfl (by repeat' constructor) rfl rfl) ?_)
    repeat (first|refine pq_end rfl ?_|(refine zs rfl ?_ ?_;·repeat' constructor)|(refine zq rfl ?_ ?_;·repeat' constructor)|refine zw rfl ?_|refine zx rfl ?_|refine zb rfl ?_)
    exact end1b rfl rfl rfl
  | true =>
    rw [hp] at h11
    have hw := sane_of hp
    have h33 := earliest_ret w hw
    have h34 := latest_ret w hw days
    have h35 := critical_ret w hw
    have h15 := refCheckWork_ret w hw
    by_cases hz : workE w = 0
    · have hv := well_of hz
      have hn := hv.n40
      rw [earliestR, if_pos hz] at h33
      rw [latestR, if_pos hz] at h34
      rw [criticalR, if_pos hz] at h35
      rw [hz] at h15
      have h36 := earliest_ref w hw hv
      have h38 := critical_ref w hw hv
      obtain ⟨hel, he1, he2⟩ := earlyS_ok hw hv
      have h37 : Ret Try.prog .shared 37 [.sl ((earlyS w).1.map eI), .sl ((earlyS w).1.map eI)] (.bool true) := by
        have := ints2_ret (earlyS w).1 (earlyS w).1 (by omega)
        rwa [decide_eq_true rfl] at this
      have hcl := critN_len w (earlyS w).1 (latS w (earlyS w).2) w.items.length
      have h21 : Ret Try.prog .shared 21 [.sl ((critS w).map eS), .sl ((critS w).map eS)] (.bool true) := by
        have := texts2_ret (critS w) (critS w) (by rw [critS]; omega)
        rwa [decide_eq_true rfl] at this
      by_cases hc : days < (earlyS w).2 ∨ 400 < days
      · rw [if_pos hc] at h34
        generalize critS w = C at *
        generalize (earlyS w).2 = n at *
        generalize (earlyS w).1 = a at *
        refine Ret.of_pwp layOk mixed Go.Proofs.Try.func8 rfl (by decide) rfl rfl ?_
        repeat (first|refine pq_end rfl ?_|(refine zs rfl ?_ ?_;·repeat' constructor)|(refine zq rfl ?_ ?_;·repeat' constructor)|refine zw rfl ?_|refine zx rfl ?_|refine zb rfl ?_)
        (first|refine zsq rfl (q_callP rfl (aw) rfl (by repeat' constructor) rfl rfl) ?_|refine zqq rfl (q_callP rfl (aw) rfl (by repeat' constructor) rfl rfl) ?_)
        repeat (first|refine pq_end rfl ?_|(refine zs rfl ?_ ?_;·repeat' constructor)|(refine zq rfl ?_ ?_;·repeat' constructor)|refine zw rfl ?_|refine zx rfl ?_|refine zb rfl ?_)
        (first|refine zsq rfl (q_callP rfl (h11) rfl (by repeat' constructor) rfl rfl) ?_|refine zqq rfl (q_callP rfl (h11) rfl (by repeat' constructor) rfl rfl) ?_)
        repeat (first|refine pq_end rfl ?_|(refine zs rfl ?_ ?_;·repeat' constructor)|(refine zq rfl ?_ ?_;·repeat' constructor)|refine zw rfl ?_|refine zx rfl ?_|refine zb rfl ?_)
        (first|refine zsq rfl (q_call rfl (h33) rfl (by repeat' constructor) rfl) ?_|refine zqq rfl (q_call rfl (h33) rfl (by repeat' constructor) rfl) ?_)
        repeat (first|refine pq_end rfl ?_|(refine zs rfl ?_ ?_;·repeat' constructor)|(refine zq rfl ?_ ?_;·repeat' constructor)|refine zw rfl ?_|refine zx rfl ?_|refine zb rfl ?_)
        (first|refine zsq rfl (q_call rfl (h34) rfl (by repeat' constructor) rfl) ?_|refine zqq rfl (q_call rfl (h34) rfl (by repeat' constructor) rfl) ?_)
        repeat (first|refine pq_end rfl ?_|(refine zs rfl ?_ ?_;·repeat' constructor)|(refine zq rfl ?_ ?_;·repeat' constructor)|refine zw rfl ?_|refine zx rfl ?_|refine zb rfl ?_)
        (first|refine zsq rfl (q_call rfl (h35) rfl (by repeat' constructor) rfl) ?_|refine zqq rfl (q_call rfl (h35) rfl (by repeat' constructor) rfl) ?_)
        repeat (first|refine pq_end rfl ?_|(refine zs rfl ?_ ?_;·repeat' constructor)|(refine zq rfl ?_ ?_;·repeat' constructor)|refine zw rfl ?_|refine zx rfl ?_|refine zb rfl ?_)
        (first|refine zsq rfl (q_callP rfl (h15) rfl (by repeat' constructor) rfl rfl) ?_|refine zqq rfl (q_callP rfl (h15) rfl (by repeat' constructor) rfl rfl) ?_)
        repeat (first|refine pq_end rfl ?_|(refine zs rfl ?_ ?_;·repeat' constructor)|(refine zq rfl ?_ ?_;·repeat' constructor)|refine zw rfl ?_|refine zx rfl ?_|refine zb rfl ?_)
        (first|refine zsq rfl (q_call rfl (h36) rfl (by repeat' constructor) rfl) ?_|refine zqq rfl (q_call rfl (h36) rfl (by repeat' constructor) rfl) ?_)
        repeat (first|refine pq_end rfl ?_|(refine zs rfl ?_ ?_;·repeat' constructor)|(refine zq rfl ?_ ?_;·repeat' constructor)|refine zw rfl ?_|refine zx rfl ?_|refine zb rfl ?_)
        (first|refine zsq rfl (q_callP rfl (h37) rfl (by repeat' constructor) rfl rfl) ?_|refine zqq rfl (q_callP rfl (h37) rfl (by repeat' constructor) rfl rfl) ?_)
        repeat (first|refine pq_end rfl ?_|(refine zs rfl ?_ ?_;·repeat' constructor)|(refine zq rfl ?_ ?_;·repeat' constructor)|refine zw rfl ?_|refine zx rfl ?_|refine zb rfl ?_)
        (first | refine ps_split rfl rfl (fun h => ?_) (fun h => ?_) | refine pq_split rfl rfl (fun h => ?_) (fun h => ?_))
        · simp at h
        clear h
        repeat (first|refine pq_end rfl ?_|(refine zs rfl ?_ ?_;·repeat' constructor)|(refine zq rfl ?_ ?_;·repeat' constructor)|refine zw rfl ?_|refine zx rfl ?_|refine zb rfl ?_)
        (first|refine zsq rfl (q_call rfl (h38) rfl (by repeat' constructor) rfl) ?_|refine zqq rfl (q_call rfl (h38) rfl (by repeat' constructor) rfl) ?_)
        repeat (first|refine pq_end rfl ?_|(refine zs rfl ?_ ?_;·repeat' constructor)|(refine zq rfl ?_ ?_;·repeat' constructor)|refine zw rfl ?_|refine zx rfl ?_|refine zb rfl ?_)
        (first|refine zsq rfl (q_callP rfl (h21) rfl (by repeat' constructor) rfl rfl) ?_|refine zqq rfl (q_callP rfl (h21) rfl (by repeat' constructor) rfl rfl) ?_)
        repeat (first|refine pq_end rfl ?_|(refine zs rfl ?_ ?_;·repeat' constructor)|(refine zq rfl ?_ ?_;·repeat' constructor)|refine zw rfl ?_|refine zx rfl ?_|refine zb rfl ?_)
        (first | refine ps_split rfl rfl (fun h => ?_) (fun h => ?_) | refine pq_split rfl rfl (fun h => ?_) (fun h => ?_))
        · repeat (first|refine pq_end rfl ?_|(refine zs rfl ?_ ?_;·repeat' constructor)|(refine zq rfl ?_ ?_;·repeat' constructor)|refine zw rfl ?_|refine zx rfl ?_|refine zb rfl ?_)
          exact end1b rfl rfl rfl
        · have h1 := of_decide_eq_false h
          clear h
          repeat (first|refine pq_end rfl ?_|(refine zs rfl ?_ ?_;·repeat' constructor)|(refine zq rfl ?_ ?_;·repeat' constructor)|refine zw rfl ?_|refine zx rfl ?_|refine zb rfl ?_)
          refine pw_cond rfl (fun h => ?_) (fun h => ?_)
          · repeat (first|refine pq_end rfl ?_|(refine zs rfl ?_ ?_;·repeat' constructor)|(refine zq rfl ?_ ?_;·repeat' constructor)|refine zw rfl ?_|refine zx rfl ?_|refine zb rfl ?_)
            exact end1b rfl rfl rfl
          · have h2 := of_decide_eq_false h
            exact absurd hc (by omega)
      · rw [if_neg hc] at h34
        have h39 := latest_ref w hw hv days (by omega)
        have h37b : Ret Try.prog .shared 37 [.sl ((latS w days).map eI), .sl ((latS w days).map eI)] (.bool true) := by
          have := ints2_ret (latS w days) (latS w days) (by rw [latS_len hv (by omega)]; omega)
          rwa [decide_eq_true rfl] at this
        generalize latS w days = b at *
        generalize critS w = C at *
        generalize (earlyS w).2 = n at *
        generalize (earlyS w).1 = a at *
        refine Ret.of_pwp layOk mixed Go.Proofs.Try.func8 rfl (by decide) rfl rfl ?_
        repeat (first|refine pq_end rfl ?_|(refine zs rfl ?_ ?_;·repeat' constructor)|(refine zq rfl ?_ ?_;·repeat' constructor)|refine zw rfl ?_|refine zx rfl ?_|refine zb rfl ?_)
        (first|refine zsq rfl (q_callP rfl (aw) rfl (by repeat' constructor) rfl rfl) ?_|refine zqq rfl (q_callP rfl (aw) rfl (by repeat' constructor) rfl rfl) ?_)
        repeat (first|refine pq_end rfl ?_|(refine zs rfl ?_ ?_;·repeat' constructor)|(refine zq rfl ?_ ?_;·repeat' constructor)|refine zw rfl ?_|refine zx rfl ?_|refine zb rfl ?_)
        (first|refine zsq rfl (q_callP rfl (h11) rfl (by repeat' constructor) rfl rfl) ?_|refine zqq rfl (q_callP rfl (h11) rfl (by repeat' constructor) rfl rfl) ?_)
        repeat (first|refine pq_end rfl ?_|(refine zs rfl ?_ ?_;·repeat' constructor)|(refine zq rfl ?_ ?_;·repeat' constructor)|refine zw rfl ?_|refine zx rfl ?_|refine zb rfl ?_)
        (first|refine zsq rfl (q_call rfl (h33) rfl (by repeat' constructor) rfl) ?_|refine zqq rfl (q_call rfl (h33) rfl (by repeat' constructor) rfl) ?_)
        repeat (first|refine pq_end rfl ?_|(refine zs rfl ?_ ?_;·repeat' constructor)|(refine zq rfl ?_ ?_;·repeat' constructor)|refine zw rfl ?_|refine zx rfl ?_|refine zb rfl ?_)
        (first|refine zsq rfl (q_call rfl (h34) rfl (by repeat' constructor) rfl) ?_|refine zqq rfl (q_call rfl (h34) rfl (by repeat' constructor) rfl) ?_)
        repeat (first|refine pq_end rfl ?_|(refine zs rfl ?_ ?_;·repeat' constructor)|(refine zq rfl ?_ ?_;·repeat' constructor)|refine zw rfl ?_|refine zx rfl ?_|refine zb rfl ?_)
        (first|refine zsq rfl (q_call rfl (h35) rfl (by repeat' constructor) rfl) ?_|refine zqq rfl (q_call rfl (h35) rfl (by repeat' constructor) rfl) ?_)
        repeat (first|refine pq_end rfl ?_|(refine zs rfl ?_ ?_;·repeat' constructor)|(refine zq rfl ?_ ?_;·repeat' constructor)|refine zw rfl ?_|refine zx rfl ?_|refine zb rfl ?_)
        (first|refine zsq rfl (q_callP rfl (h15) rfl (by repeat' constructor) rfl rfl) ?_|refine zqq rfl (q_callP rfl (h15) rfl (by repeat' constructor) rfl rfl) ?_)
        repeat (first|refine pq_end rfl ?_|(refine zs rfl ?_ ?_;·repeat' constructor)|(refine zq rfl ?_ ?_;·repeat' constructor)|refine zw rfl ?_|refine zx rfl ?_|refine zb rfl ?_)
        (first|refine zsq rfl (q_call rfl (h36) rfl (by repeat' constructor) rfl) ?_|refine zqq rfl (q_call rfl (h36) rfl (by repeat' constructor) rfl) ?_)
        repeat (first|refine pq_end rfl ?_|(refine zs rfl ?_ ?_;·repeat' constructor)|(refine zq rfl ?_ ?_;·repeat' constructor)|refine zw rfl ?_|refine zx rfl ?_|refine zb rfl ?_)
        (first|refine zsq rfl (q_callP rfl (h37) rfl (by repeat' constructor) rfl rfl) ?_|refine zqq rfl (q_callP rfl (h37) rfl (by repeat' constructor) rfl rfl) ?_)
        repeat (first|refine pq_end rfl ?_|(refine zs rfl ?_ ?_;·repeat' constructor)|(refine zq rfl ?_ ?_;·repeat' constructor)|refine zw rfl ?_|refine zx rfl ?_|refine zb rfl ?_)
        (first | refine ps_split rfl rfl (fun h => ?_) (fun h => ?_) | refine pq_split rfl rfl (fun h => ?_) (fun h => ?_))
        · simp at h
        clear h
        repeat (first|refine pq_end rfl ?_|(refine zs rfl ?_ ?_;·repeat' constructor)|(refine zq rfl ?_ ?_;·repeat' constructor)|refine zw rfl ?_|refine zx rfl ?_|refine zb rfl ?_)
        (first|refine zsq rfl (q_call rfl (h38) rfl (by repeat' constructor) rfl) ?_|refine zqq rfl (q_call rfl (h38) rfl (by repeat' constructor) rfl) ?_)
        repeat (first|refine pq_end rfl ?_|(refine zs rfl ?_ ?_;·repeat' constructor)|(refine zq rfl ?_ ?_;·repeat' constructor)|refine zw rfl ?_|refine zx rfl ?_|refine zb rfl ?_)
        (first|refine zsq rfl (q_callP rfl (h21) rfl (by repeat' constructor) rfl rfl) ?_|refine zqq rfl (q_callP rfl (h21) rfl (by repeat' constructor) rfl rfl) ?_)
        repeat (first|refine pq_end rfl ?_|(refine zs rfl ?_ ?_;·repeat' constructor)|(refine zq rfl ?_ ?_;·repeat' constructor)|refine zw rfl ?_|refine zx rfl ?_|refine zb rfl ?_)
        (first | refine ps_split rfl rfl (fun h => ?_) (fun h => ?_) | refine pq_split rfl rfl (fun h => ?_) (fun h => ?_))
        · exact absurd (.inl (of_decide_eq_true h)) hc
        clear h
        repeat (first|refine pq_end rfl ?_|(refine zs rfl ?_ ?_;·repeat' constructor)|(refine zq rfl ?_ ?_;·repeat' constructor)|refine zw rfl ?_|refine zx rfl ?_|refine zb rfl ?_)
        refine pw_cond rfl (fun h => ?_) (fun h => ?_)
        · exact absurd (.inr (of_decide_eq_true h)) hc
        clear h
        repeat (first|refine pq_end rfl ?_|(refine zs rfl ?_ ?_;·repeat' constructor)|(refine zq rfl ?_ ?_;·repeat' constructor)|refine zw rfl ?_|refine zx rfl ?_|refine zb rfl ?_)
        (first|refine zsq rfl (q_call rfl (h39) rfl (by repeat' constructor) rfl) ?_|refine zqq rfl (q_call rfl (h39) rfl (by repeat' constructor) rfl) ?_)
        repeat (first|refine pq_end rfl ?_|(refine zs rfl ?_ ?_;·repeat' constructor)|(refine zq rfl ?_ ?_;·repeat' constructor)|refine zw rfl ?_|refine zx rfl ?_|refine zb rfl ?_)
        (first|refine zsq rfl (q_callP rfl (h37b) rfl (by repeat' constructor) rfl rfl) ?_|refine zqq rfl (q_callP rfl (h37b) rfl (by repeat' constructor) rfl rfl) ?_)
        repeat (first|refine pq_end rfl ?_|(refine zs rfl ?_ ?_;·repeat' constructor)|(refine zq rfl ?_ ?_;·repeat' constructor)|refine zw rfl ?_|refine zx rfl ?_|refine zb rfl ?_)
        exact end1b rfl rfl rfl
    · rw [earliestR, if_neg hz] at h33
      rw [latestR, if_neg hz] at h34
      rw [criticalR, if_neg hz] at h35
      generalize workE w = e at *
      refine Ret.of_pwp layOk mixed Go.Proofs.Try.func8 rfl (by decide) rfl rfl ?_
      repeat (first|refine pq_end rfl ?_|(refine zs rfl ?_ ?_;·repeat' constructor)|(refine zq rfl ?_ ?_;·repeat' constructor)|refine zw rfl ?_|refine zx rfl ?_|refine zb rfl ?_)
      (first|refine zsq rfl (q_callP rfl (aw) rfl (by repeat' constructor) rfl rfl) ?_|refine zqq rfl (q_callP rfl (aw) rfl (by repeat' constructor) rfl rfl) ?_)
      repeat (first|refine pq_end rfl ?_|(refine zs rfl ?_ ?_;·repeat' constructor)|(refine zq rfl ?_ ?_;·repeat' constructor)|refine zw rfl ?_|refine zx rfl ?_|refine zb rfl ?_)
      (first|refine zsq rfl (q_callP rfl (h11) rfl (by repeat' constructor) rfl rfl) ?_|refine zqq rfl (q_callP rfl (h11) rfl (by repeat' constructor) rfl rfl) ?_)
      repeat (first|refine pq_end rfl ?_|(refine zs rfl ?_ ?_;·repeat' constructor)|(refine zq rfl ?_ ?_;·repeat' constructor)|refine zw rfl ?_|refine zx rfl ?_|refine zb rfl ?_)
      (first|refine zsq rfl (q_call rfl (h33) rfl (by repeat' constructor) rfl) ?_|refine zqq rfl (q_call rfl (h33) rfl (by repeat' constructor) rfl) ?_)
      repeat (first|refine pq_end rfl ?_|(refine zs rfl ?_ ?_;·repeat' constructor)|(refine zq rfl ?_ ?_;·repeat' constructor)|refine zw rfl ?_|refine zx rfl ?_|refine zb rfl ?_)
      (first|refine zsq rfl (q_call rfl (h34) rfl (by repeat' constructor) rfl) ?_|refine zqq rfl (q_call rfl (h34) rfl (by repeat' constructor) rfl) ?_)
      repeat (first|refine pq_end rfl ?_|(refine zs rfl ?_ ?_;·repeat' constructor)|(refine zq rfl ?_ ?_;·repeat' constructor)|refine zw rfl ?_|refine zx rfl ?_|refine zb rfl ?_)
      (first|refine zsq rfl (q_call rfl (h35) rfl (by repeat' constructor) rfl) ?_|refine zqq rfl (q_call rfl (h35) rfl (by repeat' constructor) rfl) ?_)
      repeat (first|refine pq_end rfl ?_|(refine zs rfl ?_ ?_;·repeat' constructor)|(refine zq rfl ?_ ?_;·repeat' constructor)|refine zw rfl ?_|refine zx rfl ?_|refine zb rfl ?_)
      (first|refine zsq rfl (q_callP rfl (h15) rfl (by repeat' constructor) rfl rfl) ?_|refine zqq rfl (q_callP rfl (h15) rfl (by repeat' constructor) rfl rfl) ?_)
      repeat (first|refine pq_end rfl ?_|(refine zs rfl ?_ ?_;·repeat' constructor)|(refine zq rfl ?_ ?_;·repeat' constructor)|refine zw rfl ?_|refine zx rfl ?_|refine zb rfl ?_)
      refine pw_cond rfl (fun h => ?_) (fun h => ?_)
      · clear h
        repeat (first|refine pq_end rfl ?_|(refine zs rfl ?_ ?_;·repeat' constructor)|(refine zq rfl ?_ ?_;·repeat' constructor)|refine zw rfl ?_|refine zx rfl ?_|refine zb rfl ?_)
        (first | refine ps_split rfl rfl (fun h => ?_) (fun h => ?_) | refine pq_split rfl rfl (fun h => ?_) (fun h => ?_))
        · clear h
          repeat (first|refine pq_end rfl ?_|(refine zs rfl ?_ ?_;·repeat' constructor)|(refine zq rfl ?_ ?_;·repeat' constructor)|refine zw rfl ?_|refine zx rfl ?_|refine zb rfl ?_)
          (first | refine ps_split rfl rfl (fun h => ?_) (fun h => ?_) | refine pq_split rfl rfl (fun h => ?_) (fun h => ?_))
          · clear h
            repeat (first|refine pq_end rfl ?_|(refine zs rfl ?_ ?_;·repeat' constructor)|(refine zq rfl ?_ ?_;·repeat' constructor)|refine zw rfl ?_|refine zx rfl ?_|refine zb rfl ?_)
            (first | refine ps_split rfl rfl (fun h => ?_) (fun h => ?_) | refine pq_split rfl rfl (fun h => ?_) (fun h => ?_))
            · repeat (first|refine pq_end rfl ?_|(refine zs rfl ?_ ?_;·repeat' constructor)|(refine zq rfl ?_ ?_;·repeat' constructor)|refine zw rfl ?_|refine zx rfl ?_|refine zb rfl ?_)
              exact end1b rfl rfl rfl
            · simp at h
          · simp at h
        · simp at h
      · exact absurd (by simpa using h) hz
end Go.Pv

/- The example's bound; the laws are awake. -/
set_option maxHeartbeats 2000000
namespace Go.Pv
attribute [local irreducible] PWP POps PQuiet PSem XThen XBlock RetPost InlPost
open Go.Proofs

set_option maxRecDepth 20000 in
theorem pair_best : Ret Try.prog .shared 27 [.agg (eWork pairW)] (.tup [.agg [I 2, .sl [[.str [97]]], .str []], I 0]) := by
  have h20 := checkWork_ret pairW pair_sane
  rw [pair_work] at h20
  have h78 := tradeBound_ret pairW pair_well tradeW (by decide) (by decide)
  rw [show tradeB pairW tradeW = 2 by decide +kernel] at h78
  refine Ret.of_pwp layOk mixed Go.Proofs.Try.func27 rfl (by decide) rfl rfl ?_
  repeat (first|refine pq_end rfl ?_|(refine zs rfl ?_ ?_;·repeat' constructor)|(refine zq rfl ?_ ?_;·repeat' constructor)|refine zw rfl ?_|refine zx rfl ?_|refine zb rfl ?_)
  (first|refine zsq rfl (q_callP rfl (h20) rfl (by repeat' constructor) rfl rfl) ?_|refine zqq rfl (q_callP rfl (h20) rfl (by repeat' constructor) rfl rfl) ?_)
  repeat (first|refine pq_end rfl ?_|(refine zs rfl ?_ ?_;·repeat' constructor)|(refine zq rfl ?_ ?_;·repeat' constructor)|refine zw rfl ?_|refine zx rfl ?_|refine zb rfl ?_)
  (first|refine zsq rfl (q_call rfl (pair_longest) rfl (by repeat' constructor) rfl) ?_|refine zqq rfl (q_call rfl (pair_longest) rfl (by repeat' constructor) rfl) ?_)
  repeat (first|refine pq_end rfl ?_|(refine zs rfl ?_ ?_;·repeat' constructor)|(refine zq rfl ?_ ?_;·repeat' constructor)|refine zw rfl ?_|refine zx rfl ?_|refine zb rfl ?_)
  refine pw_loop (fun (k : Nat) => k ≤ 1) (fun k => [(1, .ptr 1 1 0 0), (2, .ptr 2 1 0 0), (5, .ptr 5 1 0 0), (18, .sl (pairW.trades.map eTrade)), (19, I 1), (20, I k)])
    (fun _ => [(1, 1, ⟨28, 9, [eWork pairW], 2⟩), (2, 1, ⟨60, 3, [[I 0, .nil, .str []]], 2⟩), (5, 1, ⟨60, 3, [[I 2, .sl [[.str [97]]], .str []]], 2⟩)]) (fun k => 1 - k) 0 (by omega) ⟨rfl, rfl, rfl, rfl, rfl, rfl, rfl, rfl, rfl, trivial⟩ ?_
  intro k s hk
  obtain rfl | rfl : k = 0 ∨ k = 1 := by omega
  · repeat (first|refine pq_end rfl ?_|(refine zs rfl ?_ ?_;·repeat' constructor)|(refine zq rfl ?_ ?_;·repeat' constructor)|refine zw rfl ?_|refine zx rfl ?_|refine zb rfl ?_)
    refine zsq rfl (q_idx rfl rfl rfl rfl rfl (by decide) rfl rfl) ?_
    repeat (first|refine pq_end rfl ?_|(refine zs rfl ?_ ?_;·repeat' constructor)|(refine zq rfl ?_ ?_;·repeat' constructor)|refine zw rfl ?_|refine zx rfl ?_|refine zb rfl ?_)
    (first|refine zsq rfl (q_callP rfl (h78) rfl (by repeat' constructor) rfl rfl) ?_|refine zqq rfl (q_callP rfl (h78) rfl (by repeat' constructor) rfl rfl) ?_)
    repeat (first|refine pq_end rfl ?_|(refine zs rfl ?_ ?_;·repeat' constructor)|(refine zq rfl ?_ ?_;·repeat' constructor)|refine zw rfl ?_|refine zx rfl ?_|refine zb rfl ?_)
    exact ⟨1, by omega, by omega, rfl, rfl, rfl, rfl, rfl, rfl, rfl, rfl, rfl, trivial⟩
  · repeat (first|refine pq_end rfl ?_|(refine zs rfl ?_ ?_;·repeat' constructor)|(refine zq rfl ?_ ?_;·repeat' constructor)|refine zw rfl ?_|refine zx rfl ?_|refine zb rfl ?_)
    exact endm rfl (by repeat' constructor) rfl (by repeat' constructor) rfl

set_option maxRecDepth 20000 in
theorem awake_ret : Ret Try.prog .shared 10 [] (.bool true) := by
  have h21 := texts2_ret [[97]] [[97]] (by decide)
  rw [decide_eq_true rfl] at h21
  refine Ret.of_pwp layOk mixed Go.Proofs.Try.func10 rfl (by decide) rfl rfl ?_
  repeat (first|refine pq_end rfl ?_|(refine zs rfl ?_ ?_;·repeat' constructor)|(refine zq rfl ?_ ?_;·repeat' constructor)|refine zw rfl ?_|refine zx rfl ?_|refine zb rfl ?_)
  (first|refine zsq rfl (q_call rfl (pair_ret) rfl (by repeat' constructor) rfl) ?_|refine zqq rfl (q_call rfl (pair_ret) rfl (by repeat' constructor) rfl) ?_)
  repeat (first|refine pq_end rfl ?_|(refine zs rfl ?_ ?_;·repeat' constructor)|(refine zq rfl ?_ ?_;·repeat' constructor)|refine zw rfl ?_|refine zx rfl ?_|refine zb rfl ?_)
  (first|refine zsq rfl (q_slit rfl rfl rfl rfl rfl rfl rfl rfl rfl rfl (by repeat' constructor) rfl) ?_|refine zqq rfl (q_slit rfl rfl rfl rfl rfl rfl rfl rfl rfl rfl (by repeat' constructor) rfl) ?_)
  repeat (first|refine pq_end rfl ?_|(refine zs rfl ?_ ?_;·repeat' constructor)|(refine zq rfl ?_ ?_;·repeat' constructor)|refine zw rfl ?_|refine zx rfl ?_|refine zb rfl ?_)
  (first|refine zsq rfl (q_callP rfl (pair_cost) rfl (by repeat' constructor) rfl rfl) ?_|refine zqq rfl (q_callP rfl (pair_cost) rfl (by repeat' constructor) rfl rfl) ?_)
  repeat (first|refine pq_end rfl ?_|(refine zs rfl ?_ ?_;·repeat' constructor)|(refine zq rfl ?_ ?_;·repeat' constructor)|refine zw rfl ?_|refine zx rfl ?_|refine zb rfl ?_)
  (first|refine zsq rfl (q_call rfl (pair_ret) rfl (by repeat' constructor) rfl) ?_|refine zqq rfl (q_call rfl (pair_ret) rfl (by repeat' constructor) rfl) ?_)
  repeat (first|refine pq_end rfl ?_|(refine zs rfl ?_ ?_;·repeat' constructor)|(refine zq rfl ?_ ?_;·repeat' constructor)|refine zw rfl ?_|refine zx rfl ?_|refine zb rfl ?_)
  (first|refine zsq rfl (q_call rfl (pair_best) rfl (by repeat' constructor) rfl) ?_|refine zqq rfl (q_call rfl (pair_best) rfl (by repeat' constructor) rfl) ?_)
  repeat (first|refine pq_end rfl ?_|(refine zs rfl ?_ ?_;·repeat' constructor)|(refine zq rfl ?_ ?_;·repeat' constructor)|refine zw rfl ?_|refine zx rfl ?_|refine zb rfl ?_)
  (first|refine zsq rfl (q_slit rfl rfl rfl rfl rfl rfl rfl rfl rfl rfl (by repeat' constructor) rfl) ?_|refine zqq rfl (q_slit rfl rfl rfl rfl rfl rfl rfl rfl rfl rfl (by repeat' constructor) rfl) ?_)
  repeat (first|refine pq_end rfl ?_|(refine zs rfl ?_ ?_;·repeat' constructor)|(refine zq rfl ?_ ?_;·repeat' constructor)|refine zw rfl ?_|refine zx rfl ?_|refine zb rfl ?_)
  (first|refine zsq rfl (q_callP rfl (h21) rfl (by repeat' constructor) rfl rfl) ?_|refine zqq rfl (q_callP rfl (h21) rfl (by repeat' constructor) rfl rfl) ?_)
  repeat (first|refine pq_end rfl ?_|(refine zs rfl ?_ ?_;·repeat' constructor)|(refine zq rfl ?_ ?_;·repeat' constructor)|refine zw rfl ?_|refine zx rfl ?_|refine zb rfl ?_)
  exact end1b rfl rfl rfl
end Go.Pv
