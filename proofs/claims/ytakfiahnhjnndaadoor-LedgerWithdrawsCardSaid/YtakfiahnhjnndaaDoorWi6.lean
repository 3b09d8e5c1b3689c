/- Texts of one hand, gathered: LcM, LbH, PvX, LcE, LcF. -/
import Derived.Test.YtakfiahnhjnndaaDoorWi5
import Derived.ProofKit
import Derived.OpenShut
import Derived.Carry
import Derived.Test.YtakfiahnhjnndaaDoorRows
import Derived.WalkKit
import Derived.Handy
import Derived.Lay
import Derived.Stop.Joined
import Derived.MakeChecks
import Derived.Stop.LaidErr
import Derived.Lib.LaidTab
set_option linter.unusedSectionVars false
set_option linter.unusedSimpArgs false
set_option linter.unusedVariables false
set_option linter.unnecessarySimpa false
/- Withdrawing an entry leaves the accounts that are there if it was never posted: the law. -/
set_option maxHeartbeats 2000000
namespace Go.Pv
attribute [local irreducible] PWP POps PQuiet PSem XThen XBlock RetPost InlPost
open Go.Proofs

def wdP (n : Int) : SPost := ⟨8, 10000, [], [], [], [], 0, n, 0⟩
def eBo (b : Bool) : List PV := [.bool b]
/-- The new numbers, as the law reckons them. -/
def numL (m : List SPost) (n : Int) : Nat → List Int
  | 0 => List.replicate (m.length + 1) 0
  | k + 1 => if kptK m n k = true then (numL m n k).set (k + 1) (kap (kptK m n) (k + 1) : Nat) else numL m n k
theorem numL_len (m : List SPost) (n : Int) : ∀ k, (numL m n k).length = m.length + 1
  | 0 => by simp [numL]
  | k + 1 => by
    rw [numL]
    split
    · rw [List.length_set, numL_len m n k]
    · exact numL_len m n k
theorem numL_at (m : List SPost) (n : Int) : ∀ {k j : Nat}, j < k → k ≤ m.length → kptK m n j = true → (numL m n k)[j + 1]? = some ((kap (kptK m n) (j + 1) : Nat) : Int)
  | 0, j, h, _, _ => by omega
  | k + 1, j, h, hk, hj => by
    rw [numL]
    by_cases he : j = k
    · subst he
      rw [if_pos hj, List.getElem?_set_self (by rw [numL_len]; omega)]
    · have ih := numL_at m n (k := k) (j := j) (by omega) (by omega) hj
      split
      · rw [List.getElem?_set_ne (by omega), ih]
      · exact ih
theorem gon_get {m : List SPost} {n : Int} {k : Nat} {j : Nat} (hj : j ≤ m.length) : (gonG m n k)[j]? = some ((gonG m n k).getD j false) := by
  have := gonG_len m n k
  rw [List.getD_eq_getElem?_getD, List.getElem?_eq_getElem (by omega)]; rfl
/-- What the law owns at its loop. -/
def wdO (g1 g2 g3 g5 g62 : Nat) (l : List SPost) (g9 g64 g68 : Nat) (S : List SPost) (M : List Int) (G : List Bool) : List (Nat × Nat × Cont) :=
  [(1, g1, ⟨66, 0, ordR l, 0⟩), (2, g2, ⟨67, 0, itmR l, 0⟩), (5, g5, ⟨70, 4, [bkRow g1 g2 g3 g62 l], 2⟩), (9, g9 + S.length, ⟨42, 9, S.map ePost, 0⟩), (62, g62 + l.length, ⟨42, 9, l.map ePost, 0⟩), (64, g64, ⟨3, 1, M.map eI, 0⟩), (68, g68, ⟨4, 1, G.map eBo, 0⟩), (1003, g3, ⟨68, 0, gonR l, 0⟩)]
set_option maxRecDepth 20000 in
theorem withdraws_law (hawake : Ret Tryd.prog .shared 7 [] (.bool true)) (l : List SPost) (n : Int) : Ret Tryd.prog .shared 4 [.sl (l.map ePost), I n] (.bool true) := by
  have h6 := many_ret l
  cases hm : manyB l with
  | true =>
    rw [hm] at h6
    refine Ret.of_pwp layOk mixed Go.Proofs.Tryd.func4 rfl (by decide) rfl rfl ?_
    repeat (refine stp rfl ?_ ?_;·repeat' constructor)
    apply qst;exact rfl;exact rfl;exact q_callP rfl (h6) rfl (by repeat' constructor) rfl rfl
    repeat (refine stp rfl ?_ ?_;·repeat' constructor)
    apply qst;exact rfl;exact rfl;exact q_callP rfl (hawake) rfl (by repeat' constructor) rfl rfl
    repeat (refine stp rfl ?_ ?_;·repeat' constructor)
    exact end1b rfl rfl rfl
  | false =>
  rw [hm] at h6
  have hl : l.length ≤ 40 := by
    simp only [manyB, Bool.or_eq_false_iff, decide_eq_false_iff_not] at hm
    omega
  clear hm
  have hA := accR_acc (l := l) Acc.nil
  have hal : (accR [] l).length ≤ 40 := by have := accR_len l []; simp at this; omega
  refine Ret.of_pwp layOk mixed Go.Proofs.Tryd.func4 rfl (by decide) rfl rfl ?_
  repeat (refine stp rfl ?_ ?_;·repeat' constructor)
  apply qst;exact rfl;exact rfl;exact q_callP rfl (h6) rfl (by repeat' constructor) rfl rfl
  refine ps_nil ?_
  refine x_norm ?_
  refine pw_cond rfl (fun h => absurd h (by simp)) (fun _ => ?_)
  refine pw_skip ?_
  ((repeat (first | refine x_norm ?_ | refine pw_seq ?_)); refine pw_regionS 1 ?_)
  refine ps_v rfl trivial ?_
  refine ps_nil ?_
  refine psem_sm rfl (loaded_inl l (by omega) rfl (fun s1 g1 g2 g3 g5 g62 => ?_))
  refine psem_ops ?_
  generalize accR [] l = m at *
  have hml : ((m.map ePost).length : Int) = m.length := by simp
  have hO := hA.ok
  repeat (refine stp rfl ?_ ?_;·repeat' constructor)
  rw [hml]
  refine pw_cond rfl (fun h => ?_) (fun h => ?_)
  · repeat (refine stp rfl ?_ ?_;·repeat' constructor)
    apply qst;exact rfl;exact rfl;exact q_callP rfl (hawake) rfl (by repeat' constructor) rfl rfl
    repeat (refine stp rfl ?_ ?_;·repeat' constructor)
    exact end1b rfl rfl rfl
  have hm1 : 0 < m.length := by have := of_decide_eq_false h; omega
  clear h
  have hmod := mod_ret n m.length (by omega) (by omega)
  have hmb := modZ_bounds (n := n) (m := m.length) (by omega)
  generalize modZ n m.length = z at *
  repeat (refine stp rfl ?_ ?_;·repeat' constructor)
  rw [hml]
  apply qst;exact rfl;exact rfl;exact q_callP rfl (hmod) rfl (by repeat' constructor) rfl rfl
  obtain ⟨N, hN⟩ : ∃ N : Int, N = 1 + z := ⟨_, rfl⟩
  have hw : IntKind.wrap .i64 (1 + z) = N := by rw [hN]; exact wrap_i64 (by omega) (by omega)
  refine ps_v rfl trivial ?_
  rw [hw]
  refine ps_v rfl trivial ?_
  refine ps_nil ?_
  ((repeat (first | refine x_norm ?_ | refine pw_seq ?_)); refine pw_regionS 3 ?_)
  refine ps_v rfl trivial ?_
  refine ps_v rfl trivial ?_
  iterate 1 (refine stp rfl ?_ ?_;·repeat' constructor)
  refine ps_nil ?_
  refine psem_sm rfl (post_inl (g1 := g1) (g2 := g2) (g3 := g3) (g5 := g5) (g62 := g62) m hO.wf (wdP N) rfl rfl ⟨rfl, rfl, rfl, rfl, rfl, trivial⟩ (fun s3 hne => ?_) (fun s3 h0 => ?_))
  · refine psem_ops ?_
    have hrf := refusal_ref m hO.wf (wdP N)
    generalize refusalR m (wdP N) = e at *
    repeat (refine stp rfl ?_ ?_;·repeat' constructor)
    refine pw_cond rfl (fun h => ?_) (fun h => ?_)
    · clear h
      repeat (refine stp rfl ?_ ?_;·repeat' constructor)
      apply qst;exact rfl;exact rfl;exact q_callP rfl (hrf) rfl (by repeat' constructor) rfl rfl
      repeat (refine stp rfl ?_ ?_;·repeat' constructor)
      (first | refine ps_split rfl rfl (fun h => ?_) (fun h => ?_) | refine pq_split rfl rfl (fun h => ?_) (fun h => ?_) | refine p3_split rfl rfl (fun h => ?_) (fun h => ?_))
      · repeat (refine stp rfl ?_ ?_;·repeat' constructor)
        apply qst;exact rfl;exact rfl;exact q_callP rfl (hawake) rfl (by repeat' constructor) rfl rfl
        repeat (refine stp rfl ?_ ?_;·repeat' constructor)
        exact end1b rfl rfl rfl
      · exact absurd (of_decide_eq_false h) (by simp)
    · exact absurd (by simpa using h) hne
  refine psem_ops ?_
  have hcl : cleanP (wdP N) = wdP N := rfl
  have hA2 := hA.snoc h0
  rw [hcl] at hA2 ⊢
  have hk8 : (entL m N).op ≠ 8 := (kinds_of (refusalR_zero h0).2.2.2).2.2 rfl
  have hKO := kpt_ok hO hk8
  have hS := sub_law hA hKO
  have hwr := withdraw_rest hA hA2 rfl hk8
  have hrw := rest_ret (m ++ [wdP N]) hA2
  have hrk := rest_ret (sub (kptK m N) m m.length) hS.acc
  have hld := load_ret (sub (kptK m N) m m.length) (by rw [sub_len]; have := kap_le (kptK m N) m.length; omega)
  obtain ⟨e1, e2, e3⟩ := hS.acc.lod
  rw [e1, e2, e3] at hld
  clear e1 e2 e3
  have hwm : IntKind.wrap .i64 ((m.length : Int) + 1) = (m.length : Int) + 1 := wrap_i64 (by omega) (by omega)
  have hwdr : (wdP N).ref = N := rfl
  rw [hwdr] at hwr
  rw [hwr] at hrw
  have hpo := posts_ret (restL (sub (kptK m N) m m.length)) (by have := (rest_acc hS.acc).ok.wf.len; omega)
  generalize hw2 : m ++ [wdP N] = m2 at *
  have hrepl : ∀ (a : List PV), List.replicate ((m.length : Int) + 1).toNat a = List.replicate (m.length + 1) a := fun a => by rw [show ((m.length : Int) + 1).toNat = m.length + 1 by omega]
  repeat (refine stp rfl ?_ ?_;·repeat' constructor)
  rw [hml, hwm]
  refine ps_run (o_make rfl rfl rfl rfl rfl rfl rfl rfl (by omega) (by show ((8 : Nat) : Int) * _ ≤ _; omega) (by omega) ?_)
  rw [hrepl]
  repeat (refine stp rfl ?_ ?_;·repeat' constructor)
  rw [hml, hwm]
  refine ps_run (o_make rfl rfl rfl rfl rfl rfl rfl rfl (by omega) (by show ((1 : Nat) : Int) * _ ≤ _; omega) (by omega) ?_)
  rw [hrepl]
  repeat (refine stp rfl ?_ ?_;·repeat' constructor)
  refine pw_ghost (Ghost.nilreg (k := 9) (t := 9) 42 9 0 rfl rfl) ?_
  refine pw_loop (fun k => k ≤ m.length) (fun k => [(1, I N), (5, .ptr 5 g5 0 0), (6, .fsl (m.map ePost)), (9, .als 9 ((s3.own 9).1 + 1 + (sub (kptK m N) m k).length) 0 ((sub (kptK m N) m k).map ePost).length), (10, .als 64 ((s3.own 64).1 + 1) 0 (m.length + 1)), (11, .als 68 ((s3.own 68).1 + 1) 0 (m.length + 1)), (12, I (k + 1))])
    (fun k => wdO g1 g2 g3 g5 g62 m2 ((s3.own 9).1 + 1) ((s3.own 64).1 + 1) ((s3.own 68).1 + 1) (sub (kptK m N) m k) (numL m N k) (gonG m N k)) (fun k => m.length - k) 0 (Nat.zero_le _) ⟨rfl, rfl, rfl, rfl, ?_, ?_, rfl, rfl, rfl, rfl, rfl, rfl, ?_, ?_, rfl, trivial⟩ ?_
  · show PV.als 64 _ 0 (List.replicate (m.length + 1) [I 0]).length = _
    rw [List.length_replicate]
  · show PV.als 68 _ 0 (List.replicate (m.length + 1) [PV.bool false]).length = _
    rw [List.length_replicate]
  · show (_, some (Cont.mk 3 1 (List.replicate (m.length + 1) [I 0]) 0)) = _
    simp [numL, eI]
  · show (_, some (Cont.mk 4 1 (List.replicate (m.length + 1) [PV.bool false]) 0)) = _
    simp [gonG, eBo]
  generalize (s3.own 9).1 + 1 = g9
  generalize (s3.own 64).1 + 1 = g64
  generalize (s3.own 68).1 + 1 = g68
  intro k s hk
  have hk : k ≤ m.length := hk
  repeat (refine stp rfl ?_ ?_;·repeat' constructor)
  rw [hml]
  refine pw_cond rfl (fun h => ?_) (fun h => ?_)
  · have hlt : k < m.length := by have := of_decide_eq_true h; omega
    clear h
    have hx := ent_get hlt
    have hb := base_ref m ((k : Int) + 1) (by omega) (by omega) (by omega)
    have hwk : IntKind.wrap .i64 ((k : Int) + 1 - 1) = k := by rw [wrap_i64 (by omega) (by omega)]; omega
    have hkp : kptK m N k = !gonS m N (gonG m N k) k := by rw [kptK, gonG_fin m N (j := k + 1) (k := k + 1) (Nat.le_refl _) hlt, gonG_at N hlt]
    have hgs : gonG m N (k + 1) = (gonG m N k).set (k + 1) (gonS m N (gonG m N k) k) := rfl
    have hss : sub (kptK m N) m (k + 1) = if kptK m N k = true then sub (kptK m N) m k ++ [renum (kptK m N) (entL m ((k : Int) + 1))] else sub (kptK m N) m k := rfl
    have hns : numL m N (k + 1) = if kptK m N k = true then (numL m N k).set (k + 1) (kap (kptK m N) (k + 1) : Nat) else numL m N k := rfl
    have hGl := gonG_len m N k
    have hGg := fun (j : Nat) (hj : j ≤ m.length) => gon_get (m := m) (n := N) (k := k) (j := j) hj
    have hMl := numL_len m N k
    have hsu := hO.wf.lt (n := (k : Int) + 1) (by omega)
    have hrefs := hO.refs k hlt
    have hSl := sub_len (kptK m N) m k
    have hkl := kap_le (kptK m N) k
    rw [gonS] at hkp hgs
    generalize hSS : sub (kptK m N) m k = S at *
    generalize hMM : numL m N k = M at *
    generalize gonG m N k = G at *
    generalize supNo m (entL m ((k : Int) + 1)) = dd at *
    generalize hxx : entL m ((k : Int) + 1) = x at *
    repeat (refine stp rfl ?_ ?_;·repeat' constructor)
    rw [hwk]
    apply qst;exact rfl;exact rfl;exact q_idxmF rfl rfl rfl rfl rfl (by omega) hx rfl
    repeat (refine stp rfl ?_ ?_;·repeat' constructor)
    apply qst;exact rfl;exact rfl;exact q_callP rfl (hb) rfl (by repeat' constructor) rfl rfl
    refine ps_v rfl trivial ?_
    refine ps_nil ?_
    refine x_norm ?_
    generalize hv : (decide ((k : Int) + 1 = N) || (decide (0 < dd) && G.getD dd.toNat false) || (decide (x.op = 8) && G.getD x.ref.toNat false)) = v at *
    replace hv := hv.symm
    have hk1 : 0 + ((k : Int) + 1).toNat = k + 1 := by omega
    have hgk : (G.map eBo).length = m.length + 1 := by rw [List.length_map]; exact hGl
    replace hgk : G[0 + ((k : Int) + 1).toNat]? = some (G.getD (k + 1) false) := by rw [hk1]; exact hGg _ (by omega)
    have hGd : 0 < dd → (G.map eBo)[0 + dd.toNat]? = some (eBo (G.getD dd.toNat false)) := fun h => by rw [List.getElem?_map, Nat.zero_add, hGg _ (by omega)]; rfl
    have hGr : 0 < x.ref → (G.map eBo)[0 + x.ref.toNat]? = some (eBo (G.getD x.ref.toNat false)) := fun h => by rw [List.getElem?_map, Nat.zero_add, hGg _ (by omega)]; rfl
    refine pw_cut [(1, I N), (5, .ptr 5 g5 0 0), (6, .fsl (m.map ePost)), (9, .als 9 (g9 + S.length) 0 (S.map ePost).length), (10, .als 64 g64 0 (m.length + 1)), (11, .als 68 g68 0 (m.length + 1)), (12, I (k + 1)), (13, .ptr 13 ((s.own 13).1 + 1) 0 0)]
      [(1, g1, ⟨66, 0, ordR m2, 0⟩), (2, g2, ⟨67, 0, itmR m2, 0⟩), (5, g5, ⟨70, 4, [bkRow g1 g2 g3 g62 m2], 2⟩), (9, g9 + S.length, ⟨42, 9, S.map ePost, 0⟩), (13, (s.own 13).1 + 1, ⟨42, 9, [ePost x], 2⟩), (62, g62 + m2.length, ⟨42, 9, m2.map ePost, 0⟩), (64, g64, ⟨3, 1, M.map eI, 0⟩), (68, g68, ⟨4, 1, (G.set (k + 1) v).map eBo, 0⟩), (1003, g3, ⟨68, 0, gonR m2, 0⟩)] ?_ ?_
    · repeat (refine stp rfl ?_ ?_;·repeat' constructor)
      (first | refine ps_split rfl rfl (fun h => ?_) (fun h => ?_) | refine pq_split rfl rfl (fun h => ?_) (fun h => ?_) | refine p3_split rfl rfl (fun h => ?_) (fun h => ?_))
      · have c1 := of_decide_eq_true h
        clear h
        repeat (refine stp rfl ?_ ?_;·repeat' constructor)
        apply qst;exact rfl;exact rfl;exact q_idxA rfl rfl rfl rfl rfl rfl rfl (by omega) (by omega)
        repeat (refine stp rfl ?_ ?_;·repeat' constructor)
        refine ps_run0 (o_storeM (enc := eBo) true (kd' := 0) rfl rfl rfl hgk rfl rfl ⟨trivial, trivial⟩ rfl rfl rfl rfl rfl ?_)
        repeat (refine stp rfl ?_ ?_;·repeat' constructor)
        refine ⟨rfl, rfl, rfl, rfl, rfl, rfl, rfl, rfl, rfl, rfl, rfl, rfl, rfl, rfl, rfl, ?_, rfl, trivial⟩
        show (g68, some (Cont.mk 4 1 ((G.set (0 + ((k : Int) + 1).toNat) true).map eBo) 0)) = _
        rw [hk1, show v = true from by rw [hv, decide_eq_true c1]; simp]
      have c1 := of_decide_eq_false h
      clear h
      repeat (refine stp rfl ?_ ?_;·repeat' constructor)
      (first | refine ps_split rfl rfl (fun h => ?_) (fun h => ?_) | refine pq_split rfl rfl (fun h => ?_) (fun h => ?_) | refine p3_split rfl rfl (fun h => ?_) (fun h => ?_))
      rotate_left
      · have c2 := of_decide_eq_false h
        clear h
        repeat (refine stp rfl ?_ ?_;·repeat' constructor)
        (first | refine ps_split rfl rfl (fun h => ?_) (fun h => ?_) | refine pq_split rfl rfl (fun h => ?_) (fun h => ?_) | refine p3_split rfl rfl (fun h => ?_) (fun h => ?_))
        · have c3 := of_decide_eq_true h
          clear h
          have hrf := (hO.pos _ _ hx).2.2.1 (by omega)
          have hgr := hGr (by omega)
          repeat (refine stp rfl ?_ ?_;·repeat' constructor)
          apply qst;exact rfl;exact rfl;exact q_idxA rfl rfl rfl rfl rfl rfl rfl (by omega) (by omega)
          repeat (refine stp rfl ?_ ?_;·repeat' constructor)
          apply qst;exact rfl;exact rfl;exact q_ldp rfl rfl rfl hgr rfl
          repeat (refine stp rfl ?_ ?_;·repeat' constructor)
          apply qst;exact rfl;exact rfl;exact q_idxA rfl rfl rfl rfl rfl rfl rfl (by omega) (by omega)
          repeat (refine stp rfl ?_ ?_;·repeat' constructor)
          refine ps_run0 (o_storeM (enc := eBo) (G.getD x.ref.toNat false) (kd' := 0) rfl rfl rfl hgk rfl rfl ⟨trivial, trivial⟩ rfl rfl rfl rfl rfl ?_)
          repeat (refine stp rfl ?_ ?_;·repeat' constructor)
          refine ⟨rfl, rfl, rfl, rfl, rfl, rfl, rfl, rfl, rfl, rfl, rfl, rfl, rfl, rfl, rfl, ?_, rfl, trivial⟩
          show (g68, some (Cont.mk 4 1 ((G.set (0 + ((k : Int) + 1).toNat) (G.getD x.ref.toNat false)).map eBo) 0)) = _
          rw [hk1, show v = (G.getD x.ref.toNat false) from by rw [hv, decide_eq_false c1, decide_eq_false c2, decide_eq_true c3]; simp]
        · have c3 := of_decide_eq_false h
          clear h
          repeat (refine stp rfl ?_ ?_;·repeat' constructor)
          apply qst;exact rfl;exact rfl;exact q_idxA rfl rfl rfl rfl rfl rfl rfl (by omega) (by omega)
          repeat (refine stp rfl ?_ ?_;·repeat' constructor)
          refine ps_run0 (o_storeM (enc := eBo) false (kd' := 0) rfl rfl rfl hgk rfl rfl ⟨trivial, trivial⟩ rfl rfl rfl rfl rfl ?_)
          repeat (refine stp rfl ?_ ?_;·repeat' constructor)
          refine ⟨rfl, rfl, rfl, rfl, rfl, rfl, rfl, rfl, rfl, rfl, rfl, rfl, rfl, rfl, rfl, ?_, rfl, trivial⟩
          show (g68, some (Cont.mk 4 1 ((G.set (0 + ((k : Int) + 1).toNat) false).map eBo) 0)) = _
          rw [hk1, show v = false from by rw [hv, decide_eq_false c1, decide_eq_false c2, decide_eq_false c3]; simp]
      have c2 := of_decide_eq_true h
      clear h
      have hgd := hGd (by omega)
      repeat (refine stp rfl ?_ ?_;·repeat' constructor)
      apply qst;exact rfl;exact rfl;exact q_idxA rfl rfl rfl rfl rfl rfl rfl (by omega) (by omega)
      repeat (refine stp rfl ?_ ?_;·repeat' constructor)
      apply qst;exact rfl;exact rfl;exact q_ldp rfl rfl rfl hgd rfl
      generalize hbd : G.getD dd.toNat false = bd at *
      cases bd with
      | true =>
        repeat (refine stp rfl ?_ ?_;·repeat' constructor)
        apply qst;exact rfl;exact rfl;exact q_idxA rfl rfl rfl rfl rfl rfl rfl (by omega) (by omega)
        repeat (refine stp rfl ?_ ?_;·repeat' constructor)
        refine ps_run0 (o_storeM (enc := eBo) true (kd' := 0) rfl rfl rfl hgk rfl rfl ⟨trivial, trivial⟩ rfl rfl rfl rfl rfl ?_)
        repeat (refine stp rfl ?_ ?_;·repeat' constructor)
        refine ⟨rfl, rfl, rfl, rfl, rfl, rfl, rfl, rfl, rfl, rfl, rfl, rfl, rfl, rfl, rfl, ?_, rfl, trivial⟩
        show (g68, some (Cont.mk 4 1 ((G.set (0 + ((k : Int) + 1).toNat) true).map eBo) 0)) = _
        rw [hk1, show v = true from by rw [hv, decide_eq_false c1, decide_eq_true c2]; simp]
      | false =>
        repeat (refine stp rfl ?_ ?_;·repeat' constructor)
        (first | refine ps_split rfl rfl (fun h => ?_) (fun h => ?_) | refine pq_split rfl rfl (fun h => ?_) (fun h => ?_) | refine p3_split rfl rfl (fun h => ?_) (fun h => ?_))
        · have c3 := of_decide_eq_true h
          clear h
          have hrf := (hO.pos _ _ hx).2.2.1 (by omega)
          have hgr := hGr (by omega)
          repeat (refine stp rfl ?_ ?_;·repeat' constructor)
          apply qst;exact rfl;exact rfl;exact q_idxA rfl rfl rfl rfl rfl rfl rfl (by omega) (by omega)
          repeat (refine stp rfl ?_ ?_;·repeat' constructor)
          apply qst;exact rfl;exact rfl;exact q_ldp rfl rfl rfl hgr rfl
          repeat (refine stp rfl ?_ ?_;·repeat' constructor)
          apply qst;exact rfl;exact rfl;exact q_idxA rfl rfl rfl rfl rfl rfl rfl (by omega) (by omega)
          repeat (refine stp rfl ?_ ?_;·repeat' constructor)
          refine ps_run0 (o_storeM (enc := eBo) (G.getD x.ref.toNat false) (kd' := 0) rfl rfl rfl hgk rfl rfl ⟨trivial, trivial⟩ rfl rfl rfl rfl rfl ?_)
          repeat (refine stp rfl ?_ ?_;·repeat' constructor)
          refine ⟨rfl, rfl, rfl, rfl, rfl, rfl, rfl, rfl, rfl, rfl, rfl, rfl, rfl, rfl, rfl, ?_, rfl, trivial⟩
          show (g68, some (Cont.mk 4 1 ((G.set (0 + ((k : Int) + 1).toNat) (G.getD x.ref.toNat false)).map eBo) 0)) = _
          rw [hk1, show v = (G.getD x.ref.toNat false) from by rw [hv, decide_eq_false c1, decide_eq_true c3]; simp]
        · have c3 := of_decide_eq_false h
          clear h
          repeat (refine stp rfl ?_ ?_;·repeat' constructor)
          apply qst;exact rfl;exact rfl;exact q_idxA rfl rfl rfl rfl rfl rfl rfl (by omega) (by omega)
          repeat (refine stp rfl ?_ ?_;·repeat' constructor)
          refine ps_run0 (o_storeM (enc := eBo) false (kd' := 0) rfl rfl rfl hgk rfl rfl ⟨trivial, trivial⟩ rfl rfl rfl rfl rfl ?_)
          repeat (refine stp rfl ?_ ?_;·repeat' constructor)
          refine ⟨rfl, rfl, rfl, rfl, rfl, rfl, rfl, rfl, rfl, rfl, rfl, rfl, rfl, rfl, rfl, ?_, rfl, trivial⟩
          show (g68, some (Cont.mk 4 1 ((G.set (0 + ((k : Int) + 1).toNat) false).map eBo) 0)) = _
          rw [hk1, show v = false from by rw [hv, decide_eq_false c1, decide_eq_false c3]; simp]
    generalize (s.own 13).1 + 1 = g13
    intro s4
    have hgv : ((G.set (k + 1) v).map eBo)[0 + ((k : Int) + 1).toNat]? = some (eBo v) := by
      rw [hk1, List.getElem?_map, List.getElem?_set_self (by omega)]; rfl
    have hGs : (G.set (k + 1) v).length = m.length + 1 := by rw [List.length_set]; exact hGl
    have hmk : ∃ y, M[0 + ((k : Int) + 1).toNat]? = some y := ⟨M[k + 1]'(by omega), by rw [hk1]; exact List.getElem?_eq_getElem _⟩
    obtain ⟨y, hmk⟩ := hmk
    have hwn : PV.int .i64 (IntKind.wrap .i64 ((k : Int) + 1 + 1)) = I (((k + 1 : Nat) : Int) + 1) := by rw [wrap_i64 (by omega) (by omega)]; rfl
    clear hGd hGr hgk hGg hb
    repeat (refine stp rfl ?_ ?_;·repeat' constructor)
    apply qst;exact rfl;exact rfl;exact q_idxA rfl rfl rfl rfl rfl rfl rfl (by omega) (by omega)
    repeat (refine stp rfl ?_ ?_;·repeat' constructor)
    apply qst;exact rfl;exact rfl;exact q_ldp rfl rfl rfl hgv rfl
    cases v with
    | true =>
      have hkf : ¬ kptK m N k = true := by rw [hkp]; simp
      rw [if_neg hkf] at hss hns
      repeat (refine stp rfl ?_ ?_;·repeat' constructor)
      exact ⟨k + 1, hlt, by omega, rfl, rfl, rfl, by rw [hss]; rfl, rfl, rfl, hwn, rfl, rfl, rfl, by rw [hss]; rfl, rfl, by rw [hns]; rfl, by rw [hgs]; rfl, rfl, trivial⟩
    | false =>
      have hkt : kptK m N k = true := by rw [hkp]; rfl
      rw [if_pos hkt] at hss hns
      have hky := kap_yes hkt
      by_cases hp : 0 < x.ref
      · have hro : x.op = 4 ∨ x.op = 5 ∨ x.op = 8 := by
          by_cases h' : x.op = 4 ∨ x.op = 5 ∨ x.op = 8
          · exact h'
          · have := (hO.pos _ _ hx).2.2.2 h'; omega
        have hrr := hKO.ref hO hlt hkt
        rw [hxx] at hrr
        obtain ⟨r1, r2, r3⟩ := hrr hro
        obtain ⟨j, j1, j2⟩ := pred_nat r1
        rw [j2] at r3
        have hnr := numL_at m N (k := k) (j := j) (by omega) (by omega) r3
        rw [hMM, show j + 1 = x.ref.toNat by omega] at hnr
        have hnr2 : (M.map eI)[0 + x.ref.toNat]? = some (eI ((kap (kptK m N) x.ref.toNat : Nat) : Int)) := by rw [Nat.zero_add, List.getElem?_map, hnr]; rfl
        have hrn : renum (kptK m N) x = ⟨x.op, x.day, x.order, x.item, x.ship, x.who, x.amount, (kap (kptK m N) x.ref.toNat : Nat), x.role⟩ := by rw [renum, if_pos hp]
        rw [hrn] at hss
        repeat (refine stp rfl ?_ ?_;·repeat' constructor)
        refine pw_cond rfl (fun h => ?_) (fun h => ?_)
        · clear h
          repeat (refine stp rfl ?_ ?_;·repeat' constructor)
          apply qst;exact rfl;exact rfl;exact q_idxA rfl rfl rfl rfl rfl rfl rfl (by omega) (by omega)
          repeat (refine stp rfl ?_ ?_;·repeat' constructor)
          apply qst;exact rfl;exact rfl;exact q_ldp rfl rfl rfl hnr2 rfl
          repeat (refine stp rfl ?_ ?_;·repeat' constructor)
          apply qst;exact rfl;exact rfl;exact q_slit rfl rfl rfl rfl rfl rfl rfl rfl rfl rfl (by repeat' constructor) rfl
          repeat (refine stp rfl ?_ ?_;·repeat' constructor)
          refine ps_run (o_app 0 rfl rfl rfl rfl rfl rfl rfl rfl rfl rfl rfl (by repeat' constructor) (by intro row hr; first | (simp at hr; subst hr; rfl) | simp at hr) rfl rfl (by simp; omega) (by simp; omega) ?_)
          repeat (refine stp rfl ?_ ?_;·repeat' constructor)
          apply qst;exact rfl;exact rfl;exact q_idxA rfl rfl rfl rfl rfl rfl rfl (by omega) (by omega)
          repeat (refine stp rfl ?_ ?_;·repeat' constructor)
          refine ps_run0 (o_storeM (enc := eI) (((S.map ePost ++ [ePost (⟨x.op, x.day, x.order, x.item, x.ship, x.who, x.amount, (kap (kptK m N) x.ref.toNat : Nat), x.role⟩ : SPost)]).length : Nat) : Int) (kd' := 0) rfl rfl rfl hmk rfl rfl ⟨trivial, trivial⟩ rfl rfl rfl rfl rfl ?_)
          repeat (refine stp rfl ?_ ?_;·repeat' constructor)
          refine ⟨k + 1, hlt, by omega, rfl, rfl, rfl, ?_, rfl, rfl, hwn, rfl, rfl, rfl, ?_, rfl, ?_, ?_, rfl, trivial⟩
          · rw [hss]; exact als_snoc ePost 9 g9 S (⟨x.op, x.day, x.order, x.item, x.ship, x.who, x.amount, (kap (kptK m N) x.ref.toNat : Nat), x.role⟩ : SPost)
          · rw [hss]; exact cont_snoc ePost g9 42 9 0 S (⟨x.op, x.day, x.order, x.item, x.ship, x.who, x.amount, (kap (kptK m N) x.ref.toNat : Nat), x.role⟩ : SPost)
          · show (g64, some (Cont.mk 3 1 ((M.set (0 + ((k : Int) + 1).toNat) _).map eI) 0)) = _
            rw [hns, hk1, hky, ← hSl]
            simp
          · rw [hgs]; rfl
        · exact absurd (of_decide_eq_false h) (by omega)
      · have hrn : renum (kptK m N) x = x := by rw [renum, if_neg hp]
        rw [hrn] at hss
        repeat (refine stp rfl ?_ ?_;·repeat' constructor)
        refine pw_cond rfl (fun h => ?_) (fun h => ?_)
        · exact absurd (of_decide_eq_true h) (by omega)
        · clear h
          repeat (refine stp rfl ?_ ?_;·repeat' constructor)
          apply qst;exact rfl;exact rfl;exact q_slit rfl rfl rfl rfl rfl rfl rfl rfl rfl rfl (by repeat' constructor) rfl
          repeat (refine stp rfl ?_ ?_;·repeat' constructor)
          refine ps_run (o_app 0 rfl rfl rfl rfl rfl rfl rfl rfl rfl rfl rfl (by repeat' constructor) (by intro row hr; first | (simp at hr; subst hr; rfl) | simp at hr) rfl rfl (by simp; omega) (by simp; omega) ?_)
          repeat (refine stp rfl ?_ ?_;·repeat' constructor)
          apply qst;exact rfl;exact rfl;exact q_idxA rfl rfl rfl rfl rfl rfl rfl (by omega) (by omega)
          repeat (refine stp rfl ?_ ?_;·repeat' constructor)
          refine ps_run0 (o_storeM (enc := eI) (((S.map ePost ++ [ePost x]).length : Nat) : Int) (kd' := 0) rfl rfl rfl hmk rfl rfl ⟨trivial, trivial⟩ rfl rfl rfl rfl rfl ?_)
          repeat (refine stp rfl ?_ ?_;·repeat' constructor)
          refine ⟨k + 1, hlt, by omega, rfl, rfl, rfl, ?_, rfl, rfl, hwn, rfl, rfl, rfl, ?_, rfl, ?_, ?_, rfl, trivial⟩
          · rw [hss]; exact als_snoc ePost 9 g9 S x
          · rw [hss]; exact cont_snoc ePost g9 42 9 0 S x
          · show (g64, some (Cont.mk 3 1 ((M.set (0 + ((k : Int) + 1).toNat) _).map eI) 0)) = _
            rw [hns, hk1, hky, ← hSl]
            simp
          · rw [hgs]; rfl
  · have hz : k = m.length := by have := of_decide_eq_false h; omega
    subst hz
    clear h
    generalize sub (kptK m N) m m.length = S at *
    have hSm : ((S.map ePost).length : Int) = S.length := by simp
    repeat (refine stp rfl ?_ ?_;·repeat' constructor)
    apply qst;exact rfl;exact rfl;exact q_callF rfl (hld) rfl (by repeat' constructor) rfl
    repeat (refine stp rfl ?_ ?_;·repeat' constructor)
    rw [hSm]
    refine pw_cond rfl (fun h => ?_) (fun h => ?_)
    · exact absurd h (by simp)
    clear h
    repeat (refine stp rfl ?_ ?_;·repeat' constructor)
    apply qst;exact rfl;exact rfl;exact q_callF rfl (hrw) rfl (by repeat' constructor) rfl
    repeat (refine stp rfl ?_ ?_;·repeat' constructor)
    apply qst;exact rfl;exact rfl;exact q_callF rfl (hrk) rfl (by repeat' constructor) rfl
    repeat (refine stp rfl ?_ ?_;·repeat' constructor)
    apply qst;exact rfl;exact rfl;exact q_callP rfl (hpo) rfl (by repeat' constructor) rfl rfl
    repeat (refine stp rfl ?_ ?_;·repeat' constructor)
    apply qst;exact rfl;exact rfl;exact q_callP rfl (hawake) rfl (by repeat' constructor) rfl rfl
    repeat (refine stp rfl ?_ ?_;·repeat' constructor)
    exact end1b rfl rfl rfl
end Go.Pv

/- The chapter's example holds. -/
set_option maxHeartbeats 2000000
namespace Go.Pv
attribute [local irreducible] PWP POps PQuiet PSem XThen XBlock RetPost InlPost
open Go.Proofs

theorem ex_bal : balV exL exO = [I 5000, I 0, I 3000, I 3000, I 0, I 3000] := by
  have h1 : sumI (accP exL exO) (·.est) (accP exL exO).length = 5000 := by decide +kernel
  have h2 : sumI (accP exL exO) (·.gro) (accP exL exO).length = 0 := by decide +kernel
  have h3 : sumI (accP exL exO) (·.chg) (accP exL exO).length = 3000 := by decide +kernel
  have h4 : sumI (accP exL exO) (·.bil) (accP exL exO).length = 3000 := by decide +kernel
  have h5 : payK exL exO exL.length = 0 := by decide +kernel
  simp only [balV, h1, h2, h3, h4, h5]
  rfl
theorem balT : eqT Tryd.prog 54 [.int .i64, .int .i64, .int .i64, .int .i64, .int .i64, .int .i64] = true := by decide +kernel
set_option maxRecDepth 20000 in
theorem awake_ret : Ret Tryd.prog .shared 7 [] (.bool true) := by
  have hld := load_ret exL (by decide)
  obtain ⟨e1, e2, e3⟩ := exL_acc.lod
  rw [e1, e2, e3] at hld
  have hb := balance_ret exL exL_acc exO
  rw [if_pos (by decide), ex_bal] at hb
  have hf := format_ret ⟨3, 1, exO, exI, [], [97, 110, 110], 3000, 0, 0⟩ (by decide)
  rw [exText] at hf
  have hx : exL[2]? = some ⟨3, 1, exO, exI, [], [97, 110, 110], 3000, 0, 0⟩ := rfl
  refine Ret.of_pwp layOk mixed Go.Proofs.Tryd.func7 rfl (by decide) rfl rfl ?_
  repeat (refine stp rfl ?_ ?_;·repeat' constructor)
  apply qst;exact rfl;exact rfl;exact q_callF rfl (example_ret) rfl (by repeat' constructor) rfl
  repeat (refine stp rfl ?_ ?_;·repeat' constructor)
  apply qst;exact rfl;exact rfl;exact q_callF rfl (hld) rfl (by repeat' constructor) rfl
  repeat (refine stp rfl ?_ ?_;·repeat' constructor)
  apply qst;exact rfl;exact rfl;exact q_callF rfl (hb) rfl (by repeat' constructor) rfl
  repeat (refine stp rfl ?_ ?_;·repeat' constructor)
  apply qst;exact rfl;exact rfl;exact q_callF rfl (example_ret) rfl (by repeat' constructor) rfl
  repeat (refine stp rfl ?_ ?_;·repeat' constructor)
  apply qst;exact rfl;exact rfl;exact q_idxmF rfl rfl rfl rfl rfl (by omega) hx rfl
  repeat (refine stp rfl ?_ ?_;·repeat' constructor)
  apply qst;exact rfl;exact rfl;exact q_callP rfl (hf) rfl (by repeat' constructor) rfl rfl
  repeat (refine stp rfl ?_ ?_;·repeat' constructor)
  apply qst;exact rfl;exact rfl;exact q_seqE balT rfl rfl rfl
  repeat (refine stp rfl ?_ ?_;·repeat' constructor)
  exact end1b rfl rfl rfl
end Go.Pv

/- From what a row says of its arguments to pure values, and back from a contract to what the row asks. -/
namespace Go.Pv
open Go.RowKit Go.ChangeShapes Go.WideShapes Go.ChangeAt

/-- Fields that lie one behind the other. -/
def contig (L : Lay) : List (Nat × TypeId) → Nat → Nat → Bool
  | [], o, tot => Nat.beq o tot
  | (off, T) :: fs, o, tot => match L T with | some r => Nat.beq off o && contig L fs (o + r.size) tot | none => false
/-- Types of plain data. -/
def plainT (L : Lay) : Nat → TypeId → Bool
  | 0, _ => false
  | n + 1, T => match L T with
    | some r => (match r.sh with
      | .bool | .int _ | .str => true
      | .sl e => (match L e with | some re => Nat.blt 0 re.size && plainT L n e | none => false)
      | .st fs => contig L fs 0 r.size && fs.all (fun f => plainT L n f.2)
      | _ => false)
    | none => false
/-- Pure cells of such a type. -/
def tyP (L : Lay) : Nat → TypeId → List PV → Prop
  | 0, _, _ => False
  | n + 1, T, cs => ∃ r, L T = some r ∧ (match r.sh with
    | .bool => ∃ b, cs = [.bool b]
    | .int k => ∃ m, cs = [.int k m]
    | .str => ∃ s, cs = [.str s]
    | .sl e => ∃ rows, cs = [.sl rows] ∧ ∀ row ∈ rows, tyP L n e row
    | .st fs => ∃ parts : List (List PV), cs = parts.flatten ∧ parts.length = fs.length ∧ ∀ (i : Nat) f p, fs[i]? = some f → parts[i]? = some p → tyP L n f.2 p
    | _ => False)

/-- Cells that read as pure ones. -/
def Reads (w : World) (pvs : List PV) (cs : List Value) : Prop :=
  pvs.length = cs.length ∧ ∀ (i : Nat) (c : PV) (v : Value), pvs[i]? = some c → cs[i]? = some v → DRep w (fun b => b < w.heap.size) c v ∧ v.oneCell' = true
theorem Reads.append {w : World} {p1 p2 : List PV} {c1 c2 : List Value} (h1 : Reads w p1 c1) (h2 : Reads w p2 c2) : Reads w (p1 ++ p2) (c1 ++ c2) := by
  refine ⟨by simp [h1.1, h2.1], fun i c v e1 e2 => ?_⟩
  rw [List.getElem?_append] at e1 e2
  split at e1
  · rename_i hlt
    rw [if_pos (by rw [← h1.1]; exact hlt)] at e2
    exact h1.2 i c v e1 e2
  · rename_i hlt
    rw [if_neg (by rw [← h1.1]; exact hlt), ← h1.1] at e2
    exact h2.2 _ c v e1 e2

section
variable {H : Type} {enc : TypeId × Value → H} {P : Program} {L : Lay} {w : World} {sp : Nat → Bool} {held : Bool}

theorem cellsOf_eq (hL : LOk P L) {T : TypeId} {r : LRow} (hr : L T = some r) : P.cellsOf T = r.size := by
  obtain ⟨i, d, hi, _, hs, _⟩ := LRow.spec (hL T r hr)
  simp [Program.cellsOf, hi, hs]

theorem contig_le : ∀ (fs : List (Nat × TypeId)) (o tot : Nat), contig L fs o tot = true → o ≤ tot
  | [], o, tot, h => by simp [contig] at h; omega
  | (off, T) :: fs, o, tot, h => by
    simp only [contig] at h
    split at h
    · rename_i r hr
      simp only [Bool.and_eq_true] at h
      have := contig_le fs _ _ h.2
      omega
    · cases h

theorem dec_fields (hL : LOk P L) {n : Nat} {cs : List Value}
    (IH : ∀ (T : TypeId) (cs : List Value) (fuel : Nat) x, plainT L n T = true → DataW.trod enc P w 0 sp held fuel T cs = some x → ∃ pvs, Reads w pvs cs ∧ tyP L n T pvs) :
    ∀ (fs : List (Nat × TypeId)) (o : Nat), contig L fs o cs.length = true → fs.all (fun f => plainT L n f.2) = true →
      (∀ f ∈ fs, ∃ m x, DataW.trod enc P w 0 sp held m f.2 ((cs.drop f.1).take (P.cellsOf f.2)) = some x) →
      ∃ parts : List (List PV), Reads w parts.flatten (cs.drop o) ∧ parts.length = fs.length ∧ ∀ (i : Nat) f p, fs[i]? = some f → parts[i]? = some p → tyP L n f.2 p
  | [], o, h, _, _ => by
    simp [contig] at h
    refine ⟨[], ⟨by simp [h], fun i c v e => by simp at e⟩, rfl, fun i f p e => by simp at e⟩
  | (off, T) :: fs, o, h, hall, hd => by
    simp only [contig] at h
    split at h
    · rename_i r hr
      simp only [Bool.and_eq_true, Nat.beq_eq] at h
      obtain ⟨rfl, h⟩ := h
      simp only [List.all_cons, Bool.and_eq_true] at hall
      have hle := contig_le fs _ _ h
      obtain ⟨m, x, hx⟩ := hd (off, T) (by simp)
      obtain ⟨pvs, hp1, hp2⟩ := IH T _ m x hall.1 hx
      obtain ⟨parts, g1, g2, g3⟩ := dec_fields hL IH fs (off + r.size) h hall.2 (fun f hf => hd f (by simp [hf]))
      rw [cellsOf_eq hL hr] at hp1
      refine ⟨pvs :: parts, ?_, by simp [g2], fun i f p e1 e2 => ?_⟩
      · have hsplit : cs.drop off = (cs.drop off).take r.size ++ cs.drop (off + r.size) := by rw [← List.drop_drop, List.take_append_drop]
        rw [hsplit, List.flatten_cons]
        exact hp1.append g1
      · cases i with
        | zero => simp at e1 e2; subst e1; subst e2; exact hp2
        | succ i => exact g3 i f p (by simpa using e1) (by simpa using e2)
    · cases h

theorem trod_dec (hL : LOk P L) : ∀ (n : Nat) (T : TypeId) (cs : List Value) (fuel : Nat) (x : DataW H × List MemPlace), plainT L n T = true → DataW.trod enc P w 0 sp held fuel T cs = some x → ∃ pvs, Reads w pvs cs ∧ tyP L n T pvs
  | 0, _, _, _, _, h, _ => by simp [plainT] at h
  | n + 1, T, cs, fuel, x, h, ht => by
    simp only [plainT] at h
    split at h
    · rename_i r hr
      have hfit := hL T r hr
      have one : ∀ {c : PV} {v : Value}, DRep w (fun b => b < w.heap.size) c v → v.oneCell' = true → Reads w [c] [v] := fun h1 h2 => ⟨rfl, fun i c v e1 e2 => by
        cases i with
        | zero => simp at e1 e2; subst e1; subst e2; exact ⟨h1, h2⟩
        | succ i => simp at e1⟩
      split at h
      · rename_i hs
        obtain ⟨b, rfl, _⟩ := DataW.trod_bool (und_bool hfit hs) ht
        exact ⟨[.bool b], one (.bool b) rfl, r, hr, by rw [hs]; exact ⟨b, rfl⟩⟩
      · rename_i k hs
        obtain ⟨m, rfl, _⟩ := DataW.trod_int (und_int hfit hs) ht
        exact ⟨[.int k m], one (.int k m) rfl, r, hr, by rw [hs]; exact ⟨m, rfl⟩⟩
      · rename_i hs
        obtain ⟨s, rfl, _⟩ := DataW.trod_string (und_str hfit hs) ht
        exact ⟨[.str s.data.toList], one (.str s.data.toList) rfl, r, hr, by rw [hs]; exact ⟨_, rfl⟩⟩
      · rename_i e hs
        split at h
        · rename_i re hre
          simp only [Bool.and_eq_true] at h
          have hsz : 0 < re.size := by simpa using h.1
          have hce := cellsOf_eq hL hre
          rcases DataW.trod_slice (und_sl hfit hs) ht with ⟨rfl, _⟩ | ⟨a, len, cap, elems, rest, m, rfl, rfl, _, _, hlc, hcm, hel, hat, _⟩
          · exact ⟨[.sl []], one (.sl0 none 0) rfl, r, hr, by rw [hs]; exact ⟨[], rfl, fun row hrow => by cases hrow⟩⟩
          · rw [hce] at hat
            have key : ∀ i, i < len → ∃ ecs, w.cells? 0 (a.add (i * re.size)) re.size = some ecs ∧ ∃ pvs, Reads w pvs ecs ∧ tyP L n e pvs := by
              intro i hi
              have h1 := hat i hi
              rw [List.getElem?_eq_getElem (by omega)] at h1
              obtain ⟨ecs, e1, e2⟩ := Option.bind_eq_some_iff.1 h1
              obtain ⟨pvs, g1, g2⟩ := trod_dec hL n e ecs m _ h.2 e2
              exact ⟨ecs, e1, pvs, g1, g2⟩
            by_cases h0 : len = 0
            · subst h0
              exact ⟨[.sl []], one (.sl0 _ _) rfl, r, hr, by rw [hs]; exact ⟨[], rfl, fun row hrow => by cases hrow⟩⟩
            · -- the address is that of a cell
              have cellAt : ∀ (i : Nat) ecs, w.cells? 0 (a.add (i * re.size)) re.size = some ecs → ecs.length = re.size ∧ ∀ j v, ecs[j]? = some v → w.cell? ((a.add (i * re.size)).add j) = some v := by
                intro i ecs he
                unfold World.cells? at he
                rw [if_pos (Nat.zero_le _)] at he
                refine ⟨by simpa using mapM_some_length he, fun j v hv => ?_⟩
                have hj : j < re.size := by have := mapM_some_length he; have := (List.getElem?_eq_some_iff.1 hv).1; simp at *; omega
                have := mapM_some_get he j j (by simp [hj])
                rw [hv] at this
                exact this
              obtain ⟨b, off, spot⟩ := a
              obtain ⟨ecs0, f1, pvs0, f2, _⟩ := key 0 (by omega)
              obtain ⟨f3, f4⟩ := cellAt 0 ecs0 f1
              have hc0 : ∃ v, w.cell? (((⟨b, off, spot⟩ : Addr).add (0 * re.size)).add 0) = some v := ⟨ecs0[0], f4 0 _ (List.getElem?_eq_getElem (by omega))⟩
              have hspot : spot = none := by
                obtain ⟨v, hv⟩ := hc0
                simpa [Addr.add] using World.cell?_spot hv
              subst hspot
              have hbl : b < w.heap.size := by
                obtain ⟨v, hv⟩ := hc0
                simp only [Nat.zero_mul, Addr.add_mk, Nat.add_zero] at hv
                rcases Nat.lt_or_ge b w.heap.size with hlt | hge
                · exact hlt
                · simp [World.cell?, Array.getElem?_eq_none hge] at hv
              have hch : ∀ i : Nat, ∃ p : List PV × List Value, i < len → w.cells? 0 ((⟨b, off, none⟩ : Addr).add (i * re.size)) re.size = some p.2 ∧ Reads w p.1 p.2 ∧ tyP L n e p.1 := by
                intro i
                by_cases hi : i < len
                · obtain ⟨ecs, e1, pvs, e2, e3⟩ := key i hi
                  exact ⟨(pvs, ecs), fun _ => ⟨e1, e2, e3⟩⟩
                · exact ⟨([], []), fun h => absurd h hi⟩
              let g : Nat → List PV × List Value := fun i => Classical.choose (hch i)
              have hg : ∀ i, i < len → w.cells? 0 ((⟨b, off, none⟩ : Addr).add (i * re.size)) re.size = some (g i).2 ∧ Reads w (g i).1 (g i).2 ∧ tyP L n e (g i).1 := fun i hi => Classical.choose_spec (hch i) hi
              have hrow : ∀ (i : Nat) (row : List PV), ((List.range len).map fun i => (g i).1)[i]? = some row → i < len ∧ row = (g i).1 := by
                intro i row hrow
                rw [List.getElem?_map] at hrow
                rcases Nat.lt_or_ge i len with hlt | hge
                · rw [List.getElem?_range hlt] at hrow
                  simp at hrow
                  exact ⟨hlt, hrow.symm⟩
                · rw [List.getElem?_eq_none (by simpa using hge)] at hrow
                  simp at hrow
              have hmem : ∀ row ∈ (List.range len).map fun i => (g i).1, ∃ i, i < len ∧ row = (g i).1 := by
                intro row hrow
                obtain ⟨i, hi, rfl⟩ := List.mem_map.1 hrow
                exact ⟨i, List.mem_range.1 hi, rfl⟩
              have hlen : ((List.range len).map fun i => (g i).1).length = len := by simp
              have hlen' : ∀ i, i < len → (g i).1.length = re.size := fun i hi => by
                rw [(hg i hi).2.1.1]; exact (cellAt i _ (hg i hi).1).1
              have hD : DRep w (fun b => b < w.heap.size) (.sl ((List.range len).map fun i => (g i).1)) (.slice (some ⟨b, off, none⟩) len cap) := by
                have := DRep.sl (w := w) (ok := fun b => b < w.heap.size) ((List.range len).map fun i => (g i).1) b off cap re.size (fun i j => ((g i).2[j]?).getD undef) hbl hsz (by rw [hlen]; exact hlc)
                  (fun row hr => by obtain ⟨i, hi, rfl⟩ := hmem row hr; exact hlen' i hi)
                  (fun i j row c e1 e2 => by
                    obtain ⟨hi, rfl⟩ := hrow i row e1
                    have hj : j < (g i).2.length := by rw [← (hg i hi).2.1.1]; exact (List.getElem?_eq_some_iff.1 e2).1
                    have hv : (g i).2[j]? = some (g i).2[j] := List.getElem?_eq_getElem hj
                    have := (cellAt i _ (hg i hi).1).2 j _ hv
                    rw [Addr.add_mk, Addr.add_mk] at this
                    rw [hv]
                    exact ⟨this, ((hg i hi).2.1.2 j c _ e2 hv).2⟩)
                  (fun i j row c e1 e2 => by
                    obtain ⟨hi, rfl⟩ := hrow i row e1
                    have hj : j < (g i).2.length := by rw [← (hg i hi).2.1.1]; exact (List.getElem?_eq_some_iff.1 e2).1
                    have hv : (g i).2[j]? = some (g i).2[j] := List.getElem?_eq_getElem hj
                    rw [hv]
                    exact ((hg i hi).2.1.2 j c _ e2 hv).1)
                rw [hlen] at this
                exact this
              exact ⟨[.sl ((List.range len).map fun i => (g i).1)], one hD rfl, r, hr, by
                rw [hs]
                exact ⟨_, rfl, fun row hr => by obtain ⟨i, hi, rfl⟩ := hmem row hr; exact (hg i hi).2.2⟩⟩
        · cases h
      · rename_i fs hs
        simp only [Bool.and_eq_true] at h
        obtain ⟨fs', hu, hm⟩ := und_st hfit hs
        obtain ⟨xs, m, _, _, hlen, hxl, hf⟩ := DataW.trod_struct hu ht
        rw [cellsOf_eq hL hr] at hlen
        obtain ⟨parts, g1, g2, g3⟩ := dec_fields hL (cs := cs) (fun T cs fuel x a b => trod_dec hL n T cs fuel x a b) fs 0 (by rw [hlen]; exact h.1) h.2 (fun f hf' => by
          rw [← hm] at hf'
          obtain ⟨fd, hfd, rfl⟩ := List.mem_map.1 hf'
          obtain ⟨i, hi, hie⟩ := List.getElem_of_mem hfd
          have hi' : i < fs'.size := by simpa using hi
          have h1 : fs'[i]? = some fd := by rw [Array.getElem?_eq_getElem hi']; simpa using hie
          have h2 := hf i fd h1
          rw [List.getElem?_eq_getElem (by omega)] at h2
          exact ⟨m, _, h2⟩)
        exact ⟨parts.flatten, by simpa using g1, r, hr, by rw [hs]; exact ⟨parts, rfl, g2, g3⟩⟩
      · cases h
    · cases h

/-- What an argument may be. -/
def argP (L : Lay) (T : TypeId) (c : PV) : Prop := match L T with
  | some r => bif r.sh.agg then ∃ cs, c = .agg cs ∧ tyP L 6 T cs else tyP L 6 T [c]
  | none => False

theorem arg_dec (hL : LOk P L) {base : Nat} {T : TypeId} {v : Value} {d : DataW H} {ps : List MemPlace} (hp : plainT L 6 T = true) (h : DataW.Trod enc P w 0 sp held T v d ps) (hok : Value.okWide P w .any base T v) : ∃ c, DRep w (fun b => b < w.heap.size) c v ∧ argP L T c := by
  obtain ⟨fuel, h⟩ := h
  obtain ⟨pvs, h1, h2⟩ := trod_dec hL 6 T _ fuel _ hp h
  have hp' := hp
  simp only [plainT] at hp
  split at hp
  · rename_i r hr
    have hfit := hL T r hr
    have leaf : r.sh.agg = false → (∃ c, pvs = [c]) → (v.cells.toList.length = 1 → v.cells = #[v]) → ∃ c, DRep w (fun b => b < w.heap.size) c v ∧ argP L T c := by
      rintro ha ⟨c, rfl⟩ hv
      have hc := hv (by rw [← h1.1]; rfl)
      have hd := h1.2 0 c v rfl (by rw [hc]; rfl)
      refine ⟨c, hd.1, ?_⟩
      unfold argP
      rw [hr]
      simp only [ha, cond_false]
      exact h2
    have nagg : (∀ cs, v ≠ .agg cs) → v.cells = #[v] := by
      intro h
      cases v <;> first | rfl | exact absurd rfl (h _)
    have hty : ∃ r', L T = some r' ∧ _ := h2
    obtain ⟨r', hr', hty⟩ := hty
    rw [hr] at hr'
    have hr' := Option.some.inj hr'
    subst hr'
    split at hp
    · rename_i hs
      rw [hs] at hty
      obtain ⟨b, rfl⟩ := hty
      obtain ⟨b', rfl⟩ : ∃ b', v = .bool b' := by
        have := okWide_bool (und_bool hfit hs) hok; exact this
      exact leaf (by rw [hs]; rfl) ⟨_, rfl⟩ (fun _ => rfl)
    · rename_i k hs
      rw [hs] at hty
      obtain ⟨m, rfl⟩ := hty
      obtain ⟨m', rfl⟩ := okWide_int (und_int hfit hs) hok
      exact leaf (by rw [hs]; rfl) ⟨_, rfl⟩ (fun _ => rfl)
    · rename_i hs
      rw [hs] at hty
      obtain ⟨s, rfl⟩ := hty
      obtain ⟨s', rfl⟩ := okWide_string (und_str hfit hs) hok
      exact leaf (by rw [hs]; rfl) ⟨_, rfl⟩ (fun _ => rfl)
    · rename_i e hs
      rw [hs] at hty
      obtain ⟨rows, rfl, _⟩ := hty
      obtain ⟨a, l, c, rfl⟩ := okWide_slice (und_sl hfit hs) hok
      exact leaf (by rw [hs]; rfl) ⟨_, rfl⟩ (fun _ => rfl)
    · rename_i fs hs
      obtain ⟨fs', hu, _⟩ := und_st hfit hs
      obtain ⟨cs, rfl, _⟩ := okWide_struct hu hok
      refine ⟨.agg pvs, ?_, ?_⟩
      · have := DRep.agg (w := w) (ok := fun b => b < w.heap.size) pvs cs.toList h1.1 (fun i c v e1 e2 => (h1.2 i c v e1 e2).1)
        simpa using this
      · unfold argP
        rw [hr]
        simp only [hs, Sh.agg, cond_true]
        exact ⟨pvs, rfl, h2⟩
    · cases hp
  · cases hp

theorem args_dec (hL : LOk P L) {base : Nat} : ∀ (ts : List TypeId) (vs : List Value) (ds : List (DataW H)) (ps : List MemPlace), ts.all (plainT L 6) = true → DataW.TrodAll enc P w 0 sp held ts vs ds ps →
    (∀ (j : Nat) t v, ts[j]? = some t → vs[j]? = some v → Value.okWide P w .any base t v) →
    ∃ pargs : List PV, pargs.length = vs.length ∧ ts.length = vs.length ∧ ds.length = vs.length ∧ (∀ (i : Nat) (c : PV) (v : Value), pargs[i]? = some c → vs[i]? = some v → DRep w (fun b => b < w.heap.size) c v) ∧ ∀ (i : Nat) t c, ts[i]? = some t → pargs[i]? = some c → argP L t c
  | [], vs, ds, ps, _, h, _ => by
    obtain ⟨rfl, rfl, _⟩ := trodAll_nil h
    exact ⟨[], rfl, rfl, rfl, fun i c v e => by simp at e, fun i t c e => by simp at e⟩
  | t :: ts, vs, ds, ps, hp, h, hok => by
    obtain ⟨v, vs', d, ds', p, q, rfl, rfl, rfl, h1, h2⟩ := trodAll_cons h
    simp only [List.all_cons, Bool.and_eq_true] at hp
    obtain ⟨c, g1, g2⟩ := arg_dec hL hp.1 h1 (hok 0 t v rfl rfl)
    obtain ⟨pargs, e1, e2, e3, e4, e5⟩ := args_dec hL ts vs' ds' q hp.2 h2 (fun j t v a b => hok (j + 1) t v (by simpa using a) (by simpa using b))
    refine ⟨c :: pargs, by simp [e1], by simp [e2], by simp [e3], fun i c' v' a b => ?_, fun i t' c' a b => ?_⟩
    · cases i with
      | zero => simp at a b; subst a; subst b; exact g1
      | succ i => exact e4 i c' v' (by simpa using a) (by simpa using b)
    · cases i with
      | zero => simp at a b; subst a; subst b; exact g2
      | succ i => exact e5 i t' c' (by simpa using a) (by simpa using b)

theorem trodAll_below (hl : laidOutB P = true) {W W' : World} (hb : Below W.heap.size W W') : ∀ (ts : List TypeId) (vs : List Value) (ds : List (DataW H)) (ps : List MemPlace), (∀ t ∈ ts, P.readableRec t = true ∧ t < P.types.size) →
    DataW.TrodAll enc P W 0 (fun _ => true) true ts vs ds ps → (∀ x ∈ ps, x.block < W.heap.size) → DataW.TrodAll enc P W' 0 (fun b => decide (b < W.heap.size)) true ts vs ds ps
  | [], vs, ds, ps, _, h, _ => by
    obtain ⟨rfl, rfl, rfl⟩ := trodAll_nil h
    exact trodAll_mk0
  | t :: ts, vs, ds, ps, hr, h, hlt => by
    obtain ⟨v, vs', d, ds', p, q, rfl, rfl, rfl, h1, h2⟩ := trodAll_cons h
    have ht := hr t (by simp)
    exact ⟨p, q, Below.trod hl ht.1 ht.2 h1 hb (fun x hx => hlt x (by simp [hx])), trodAll_below hl hb ts vs' ds' q (fun t ht => hr t (by simp [ht])) h2 (fun x hx => hlt x (by simp [hx])), rfl⟩

/-- A law's step: what its contract says is what its row asks. -/
theorem law_step [Globs] (hL : LOk P L) (hl : laidOutB P = true) {f : FuncId} {fn : Func} {s : ChangeSpec} {ts : List TypeId} {T : TypeId} (hvars : s.vars = []) (hts : fn.params.toList = ts) (hplain : ts.all (plainT L 6) = true)
    (hread : ts.all (fun t => P.readableRec t && decide (t < P.types.size)) = true) (hres : fn.resultTypes = #[T]) (hT : P.underlying T = some .bool)
    (hspec : ∀ ds : List (DataW H), ds.length = ts.length → (s.fn H ds).results = [.lit (.bool true)] ∧ (s.fn H ds).args = ds ∧ (s.fn H ds).vars = [])
    (law : ∀ pargs : List PV, pargs.length = ts.length → (∀ (i : Nat) t c, ts[i]? = some t → pargs[i]? = some c → argP L t c) → Ret P .shared f pargs (.bool true))
    {W : World} {base : Nat} {args : Array Value} {ds gs : List (DataW H)} {before : List MemPlace} (hval : ∀ (j : Nat) t v, fn.params[j]? = some t → args[j]? = some v → Value.okWide P W .any base t v)
    (hglob : Globs.glob W) (hW : DataW.Whole enc P fn.params.toList s.vars false W args.toList ds gs before) :
    Calls P f args W fun e W' => ∃ v, e = .returned v ∧ s.post enc P fn false true false false W args v W' := by
  have hW' := hW
  obtain ⟨p, q, hA, hV, hpq, hfz, hnd⟩ := hW
  rw [hvars] at hV
  obtain ⟨rfl, rfl⟩ := trodVars_none hV
  rw [hts] at hA
  obtain ⟨pargs, e1, e2, e3, e4, e5⟩ := args_dec hL (base := base) ts _ _ _ hplain hA (fun j t v a b => hval j t v (by rw [← hts] at a; simpa using a) (by simpa using b))
  have hret := law pargs (by omega) e5
  have hcall := hret.2 W (fun _ => False) args.toList hglob (fun b hb => hb.elim) (by omega) (fun i c v a b => (e4 i c v a b).weaken fun b hb => ⟨hb, fun h => h⟩)
  have hargs : args.toList.toArray = args := by simp
  rw [hargs] at hcall
  refine hcall.mono ?_
  rintro e W' ⟨v, rfl, hb, hd⟩
  refine ⟨v, rfl, ?_⟩
  have hv : v = .bool true := by cases hd; rfl
  subst hv
  have hlt : ∀ x ∈ p, x.block < W.heap.size := fun x hx => by
    have := hW'.lt x (by rw [hpq]; simp [hx])
    simpa using this
  obtain ⟨s1, s2, s3⟩ := hspec ds (by omega)
  have hgs : ds ++ ([] : List (DataW H)) = ds := List.append_nil ds
  refine ⟨ds, [], before, [], p, [], hW', ?_, ?_, ?_, World.keptBut_mono (fun x hx => hx.elim) (hb.frame (fun _ => False)), fun h => by cases h⟩
  · rw [hgs, s1, hres]
    exact trodAll_mk1 (shut_bool hT true)
  · rw [hgs, s2, hts]
    exact trodAll_below hl hb ts _ _ _ (fun t ht => by
      have := List.all_eq_true.1 hread t ht
      simpa using this) hA hlt
  · rw [hgs, s3, hvars]
    exact rfl
end
end Go.Pv

/- What the laws' arguments are. -/
set_option maxHeartbeats 2000000
namespace Go.Pv
attribute [local irreducible] PWP POps PQuiet PSem XThen XBlock RetPost InlPost
open Go.Proofs

section
variable {L : Lay} {n : Nat} {T : TypeId} {cs : List PV}
theorem tyP_sh {r : LRow} {sh : Sh} (hr : L T = some r) (hs : (L T).map (·.sh) = some sh) : r.sh = sh := by rw [hr] at hs; exact Option.some.inj hs
theorem tyP_int {k : IntKind} (h : tyP L (n + 1) T cs) (hs : (L T).map (·.sh) = some (.int k)) : ∃ m, cs = [.int k m] := by
  obtain ⟨r, hr, h⟩ := h
  rw [tyP_sh hr hs] at h; exact h
theorem tyP_str (h : tyP L (n + 1) T cs) (hs : (L T).map (·.sh) = some .str) : ∃ s, cs = [.str s] := by
  obtain ⟨r, hr, h⟩ := h
  rw [tyP_sh hr hs] at h; exact h
theorem tyP_sl {e : TypeId} (h : tyP L (n + 1) T cs) (hs : (L T).map (·.sh) = some (.sl e)) : ∃ rows, cs = [.sl rows] ∧ ∀ row ∈ rows, tyP L n e row := by
  obtain ⟨r, hr, h⟩ := h
  rw [tyP_sh hr hs] at h; exact h
theorem tyP_st {fs : List (Nat × TypeId)} (h : tyP L (n + 1) T cs) (hs : (L T).map (·.sh) = some (.st fs)) : ∃ parts : List (List PV), cs = parts.flatten ∧ parts.length = fs.length ∧ ∀ (i : Nat) f p, fs[i]? = some f → parts[i]? = some p → tyP L n f.2 p := by
  obtain ⟨r, hr, h⟩ := h
  rw [tyP_sh hr hs] at h; exact h
end
theorem rows_map {α : Type} {f : α → List PV} : ∀ {rows : List (List PV)}, (∀ row ∈ rows, ∃ x, row = f x) → ∃ l : List α, rows = l.map f
  | [], _ => ⟨[], rfl⟩
  | row :: rows, h => by
    obtain ⟨x, rfl⟩ := h row (by simp)
    obtain ⟨l, rfl⟩ := rows_map (rows := rows) fun r hr => h r (by simp [hr])
    exact ⟨x :: l, rfl⟩
theorem dec_post {cs : List PV} (h : tyP lay.get 5 42 cs) : ∃ x, cs = ePost x := by
  obtain ⟨parts, rfl, hl, hp⟩ := tyP_st h rfl
  match parts, hl, hp with
  | [p0, p1, p2, p3, p4, p5, p6, p7, p8], _, hp =>
    obtain ⟨a0, rfl⟩ := tyP_int (hp 0 _ p0 rfl rfl) rfl
    obtain ⟨a1, rfl⟩ := tyP_int (hp 1 _ p1 rfl rfl) rfl
    obtain ⟨a2, rfl⟩ := tyP_str (hp 2 _ p2 rfl rfl) rfl
    obtain ⟨a3, rfl⟩ := tyP_str (hp 3 _ p3 rfl rfl) rfl
    obtain ⟨a4, rfl⟩ := tyP_str (hp 4 _ p4 rfl rfl) rfl
    obtain ⟨a5, rfl⟩ := tyP_str (hp 5 _ p5 rfl rfl) rfl
    obtain ⟨a6, rfl⟩ := tyP_int (hp 6 _ p6 rfl rfl) rfl
    obtain ⟨a7, rfl⟩ := tyP_int (hp 7 _ p7 rfl rfl) rfl
    obtain ⟨a8, rfl⟩ := tyP_int (hp 8 _ p8 rfl rfl) rfl
    exact ⟨⟨a0, a1, a2, a3, a4, a5, a6, a7, a8⟩, rfl⟩
theorem dec_posts {c : PV} (h : argP lay.get 22 c) : ∃ s : List SPost, c = .sl (s.map ePost) := by
  obtain ⟨rows, hr, h2⟩ := tyP_sl (show tyP lay.get 6 22 [c] from h) rfl
  cases hr
  obtain ⟨l, rfl⟩ := rows_map (f := ePost) fun row hrow => dec_post (h2 row hrow)
  exact ⟨l, rfl⟩
end Go.Pv

/- What the rows of this seat list: the three tables; a witness; what they give. -/
namespace Go.Proofs.YtakfiahnhjnndaaDoor
open Go Go.ChangeShapes Go.WideShapes Go.ChangeAt Go.RowKit Go.Pv

theorem ownL : ownKnob Tryd.prog.godebug = none := by kernel_rfl
theorem laidB : laidOutB Tryd.prog = true := by kernel_rfl
def laidL : List (String × DataW Unit) := [("math/bits.deBruijn32tab", Rows.laid_math_bits_deBruijn32tab), ("math/bits.deBruijn64tab", Rows.laid_math_bits_deBruijn64tab), ("internal/strconv.uint64pow10", Rows.laid_internal_strconv_uint64pow10)]
theorem laidL_plain (w : World) : laidMetH Tryd.prog laidL w = laidMet Tryd.prog laidL w := MakeChecks.laidMetH_plain _ _ _ (by kernel_rfl)
theorem laidL_met (os : Os) (args : Array Value) : laidMetH Tryd.prog laidL ((World.laidAll Tryd.prog os laidL).forCall (fun _ _ => 0) ⟨#[], args, []⟩).memory := by
  rw [laidL_plain]
  exact laidMet_laidAll _ (by kernel_rfl) (by kernel_rfl)
theorem pow_g : ∃ g t e, Tryd.prog.globalNamed "internal/strconv.uint64pow10" = some g ∧ (Tryd.prog.globals[g]?).map (·.type) = some t ∧ Tryd.prog.underlying t = some (.array 20 e) ∧ Tryd.prog.underlying e = some (.int .u64) ∧ Tryd.prog.cellsOf e = 1 ∧ Tryd.prog.cellsOf t = 20 := by
  refine ⟨(Tryd.prog.globalNamed "internal/strconv.uint64pow10").getD 0, ((Tryd.prog.globals[(Tryd.prog.globalNamed "internal/strconv.uint64pow10").getD 0]?).map (·.type)).getD 0, 125, ?_, ?_, ?_, ?_, ?_, ?_⟩ <;> kernel_rfl
theorem laidL_glob {w : World} (h : laidMetH Tryd.prog laidL w) : Globs.glob w := by
  rw [laidL_plain] at h
  unfold laidL at h
  have h3 := laidMet.tail (laidMet.tail h)
  obtain ⟨g, t, e, h1, h2, h4, h5, h6, h7⟩ := pow_g
  exact Lib.tabIs_of_head (k := .u64) (zs := Lib.pow10Tab) h1 h2 h4 h5 h6 h7 h3
end Go.Proofs.YtakfiahnhjnndaaDoor
