/- Texts of one hand, gathered: SfB, SeI, SeJ, SfC, SfD, SfE, SfF, SfG, SfI, SfJ, SeE, SfK, SeK. -/
import Derived.Test.YtfnjhhndbgidmaaFl4
import Derived.KernelRfl
/- The earliest days: what the program and the reference reckon. -/
set_option maxHeartbeats 2000000
namespace Go.Pv
attribute [local irreducible] PWP POps PQuiet PSem XThen XBlock RetPost InlPost
open Go.Proofs

def stepE (w : SWork) (i : Int) (out : List Int) (k : Int) : List Int := out.set i.toNat (imax (out.getD i.toNat 0) (out.getD k.toNat 0 + leastP (itP w k)))
def rowE (w : SWork) (i : Int) (row : List Int) (out : List Int) : List Int := row.foldl (stepE w i) out
def earlyF (w : SWork) (s : List Int × Int) (i : Int) : List Int × Int := (rowE w i ((bef w).getD i.toNat []) s.1, imax s.2 ((rowE w i ((bef w).getD i.toNat []) s.1).getD i.toNat 0 + leastP (itP w i)))
def earlyK2 (w : SWork) (k : Nat) : List Int × Int := ((ordS w).take k).foldl (earlyF w) (List.replicate w.items.length 0, 0)
def earlyS (w : SWork) : List Int × Int := (ordS w).foldl (earlyF w) (List.replicate w.items.length 0, 0)
theorem BndL.getZ {a : List Int} {B : Int} (h : BndL a B) (hB : 0 ≤ B) (d : Nat) : 0 ≤ a.getD d 0 ∧ a.getD d 0 ≤ B := by
  rcases Nat.lt_or_ge d a.length with hlt | hge
  · exact h.get hlt
  · rw [List.getD_eq_getElem?_getD, List.getElem?_eq_none hge]; exact ⟨Int.le_refl _, hB⟩
theorem BndL.set {a : List Int} {B : Int} (h : BndL a B) {d : Nat} {v : Int} (hv : 0 ≤ v ∧ v ≤ B) : BndL (a.set d v) B := by
  intro u hu
  rcases List.mem_or_eq_of_mem_set hu with h1 | rfl
  · exact h u h1
  · exact hv
def KnownRow (w : SWork) (row : List Int) : Prop := ∀ k ∈ row, ∃ (j : Nat) (y : SItem), k = j ∧ w.items[j]? = some y
theorem known_row {w : SWork} (hv : Well w) {x : SItem} (hx : x ∈ w.items) : KnownRow w (aft w x) := by
  intro k hk
  obtain ⟨nm, hnm, rfl⟩ := List.mem_map.1 hk
  obtain ⟨j, y, hy, _, hidx⟩ := known_at hv.good hx hnm
  exact ⟨j, y, hidx, hy⟩
theorem rowE_ok {w : SWork} (hv : Well w) (i : Int) {row : List Int} (hr : KnownRow w row) {out : List Int} {B : Int} (h : BndL out B) (hB : 0 ≤ B) (j : Nat) (hj : j ≤ row.length) : (rowE w i (row.take j) out).length = out.length ∧ BndL (rowE w i (row.take j) out) (B + 60 * j) := by
  induction j with
  | zero => exact ⟨rfl, h.mono (by omega)⟩
  | succ j ih =>
    obtain ⟨h1, h2⟩ := ih (by omega)
    obtain ⟨k, hk⟩ := get_lt (show j < row.length by omega)
    obtain ⟨m, y, rfl, hy⟩ := hr k (List.mem_of_getElem? hk)
    have hl := leastP_bound (hv.item y (List.mem_of_getElem? hy))
    have hs : rowE w i (row.take (j + 1)) out = stepE w i (rowE w i (row.take j) out) m := by rw [rowE, take_snoc hk, List.foldl_append]; rfl
    rw [hs, stepE, itP_at hy]
    have b1 := h2.getZ (by omega) i.toNat
    have b2 := h2.getZ (by omega) (m : Int).toNat
    refine ⟨by rw [List.length_set, h1], (h2.mono (by omega)).set ?_⟩
    unfold imax
    split <;> omega
theorem earlyK2_succ {w : SWork} {k i : Nat} {x : SItem} (hk : (ordS w)[k]? = some (i : Int)) (hx : w.items[i]? = some x) : earlyK2 w (k + 1) = (rowE w i (aft w x) (earlyK2 w k).1, imax (earlyK2 w k).2 ((rowE w i (aft w x) (earlyK2 w k).1).getD i 0 + leastP x)) := by
  have hbx : (bef w).getD i [] = aft w x := by rw [List.getD_eq_getElem?_getD, bef, List.getElem?_map, hx]; rfl
  rw [earlyK2, take_snoc hk, List.foldl_append]
  show earlyF w (earlyK2 w k) i = _
  rw [earlyF, Int.toNat_natCast, hbx, itP_at hx]
theorem earlyK2_ok {w : SWork} (hw : Sane w) (hv : Well w) (k : Nat) (hk : k ≤ (ordS w).length) : (earlyK2 w k).1.length = w.items.length ∧ BndL (earlyK2 w k).1 (6000060 * k) ∧ 0 ≤ (earlyK2 w k).2 ∧ (earlyK2 w k).2 ≤ 6000060 * k := by
  induction k with
  | zero => exact ⟨by simp [earlyK2], fun v hv => by simp [earlyK2] at hv; omega, by simp [earlyK2], by simp [earlyK2]⟩
  | succ k ih =>
    obtain ⟨h1, h2, h3, h4⟩ := ih (by omega)
    obtain ⟨y, hy⟩ := get_lt (show k < (ordS w).length by omega)
    obtain ⟨i, x, rfl, hx⟩ := (refOrd_eq hv.good).2 y (List.mem_of_getElem? hy)
    have hxm := List.mem_of_getElem? hx
    have hax := hw.after x hxm
    have hal : (aft w x).length = x.after.length := by simp [aft]
    have hl := leastP_bound (hv.item x hxm)
    have hr := rowE_ok hv (i : Int) (known_row hv hxm) h2 (by omega) (aft w x).length (Nat.le_refl _)
    rw [List.take_length] at hr
    rw [earlyK2_succ hy hx]
    have b := hr.2.getZ (by omega) i
    refine ⟨by rw [hr.1, h1], hr.2.mono (by omega), ?_⟩
    show 0 ≤ imax _ _ ∧ imax _ _ ≤ _
    unfold imax
    split <;> omega

set_option maxRecDepth 20000 in
theorem earliest0_ret (w : SWork) (hw : Sane w) (hv : Well w) : Ret Try.prog .shared 85 [.agg (eWork w)] (.tup [.sl ((earlyS w).1.map eI), I (earlyS w).2]) := by
  have h1 := hw.items
  have hn40 := hv.n40
  have hbl : ((bef w).map eL).length = w.items.length := by simp [bef]
  have hol := ordS_len w
  have hLl : ((ordS w).map eI).length = (ordS w).length := by simp
  refine Ret.of_pwp layOk mixed Go.Proofs.Try.func85 rfl (by decide) rfl rfl ?_
  repeat (refine stp rfl ?_ ?_;·repeat' constructor)
  apply qst;exact rfl;exact rfl;exact q_call rfl (before_ret w h1 hw.after) rfl (by repeat' constructor) rfl
  repeat (refine stp rfl ?_ ?_;·repeat' constructor)
  refine ps_run (o_make rfl rfl rfl rfl rfl rfl rfl rfl (by omega) (by rw [hbl]; show ((8 : Nat) : Int) * _ ≤ _; omega) (by rw [hbl]; omega) ?_)
  repeat (refine stp rfl ?_ ?_;·repeat' constructor)
  apply qst;exact rfl;exact rfl;exact q_call rfl (ordered_ret w h1 hw.after) rfl (by repeat' constructor) rfl
  repeat (refine stp rfl ?_ ?_;·repeat' constructor)
  refine pw_loop (fun k => k ≤ (ordS w).length) (fun k => [(1, .ptr 1 1 0 0), (4, .sl ((bef w).map eL)), (5, .als 19 1 0 w.items.length), (6, I (earlyK2 w k).2), (21, .sl ((ordS w).map eI)), (22, I (ordS w).length), (23, I k)])
    (fun k => [(1, 1, ⟨28, 9, [eWork w], 2⟩), (19, 1, ⟨3, 1, (earlyK2 w k).1.map eI, 0⟩)]) (fun k => (ordS w).length - k) 0 (Nat.zero_le _) ⟨rfl, rfl, ?_, rfl, rfl, ?_, rfl, rfl, ?_, trivial⟩ ?_
  · show PV.als 19 1 0 (List.length (List.replicate (Int.toNat ((bef w).map eL).length) _)) = _
    rw [hbl]; simp
  · show I (((ordS w).map eI).length) = _
    rw [hLl]
  · show (1, some (Cont.mk 3 1 (List.replicate (Int.toNat ((bef w).map eL).length) _) 0)) = _
    rw [hbl]; simp [earlyK2, eI]
  intro k s hk
  obtain ⟨hc1, hc2, hc3, hc4⟩ := earlyK2_ok hw hv k hk
  repeat (refine stp rfl ?_ ?_;·repeat' constructor)
  refine pw_cond rfl (fun h => ?_) (fun h => ?_)
  · have hlt : k < (ordS w).length := by have := of_decide_eq_true h; omega
    clear h
    obtain ⟨y0, hy0⟩ := get_lt hlt
    obtain ⟨i, x, rfl, hx⟩ := (refOrd_eq hv.good).2 y0 (List.mem_of_getElem? hy0)
    have hil := (List.getElem?_eq_some_iff.1 hx).1
    have hxm := List.mem_of_getElem? hx
    have hax := hw.after x hxm
    have hal : (aft w x).length = x.after.length := by simp [aft]
    have hio := hv.item x hxm
    have hlb := leastP_bound hio
    have hbx : (bef w)[i]? = some (aft w x) := by rw [bef, List.getElem?_map, hx]; rfl
    have hkr := known_row hv hxm
    have hro := fun j hj => rowE_ok hv (i : Int) hkr hc2 (by omega) j hj
    have hsucc := earlyK2_succ hy0 hx
    generalize earlyK2 w k = st at *
    obtain ⟨out, last⟩ := st
    replace hc1 : out.length = w.items.length := hc1
    replace hc3 : 0 ≤ last := hc3
    replace hc4 : last ≤ 6000060 * (k : Int) := hc4
    replace hro : ∀ j, j ≤ (aft w x).length → (rowE w i ((aft w x).take j) out).length = out.length ∧ BndL (rowE w i ((aft w x).take j) out) (6000060 * k + 60 * j) := hro
    replace hsucc : earlyK2 w (k + 1) = (rowE w i (aft w x) out, imax last ((rowE w i (aft w x) out).getD i 0 + leastP x)) := hsucc
    repeat (refine stp rfl ?_ ?_;·repeat' constructor)
    apply qst;exact rfl;exact rfl;exact q_idxm rfl rfl rfl rfl rfl (by omega) hy0 rfl
    repeat (refine stp rfl ?_ ?_;·repeat' constructor)
    apply qst;exact rfl;exact rfl;exact q_idxm rfl rfl rfl rfl rfl (by omega) hbx rfl
    repeat (refine stp rfl ?_ ?_;·repeat' constructor)
    refine pw_loop (fun j => j ≤ (aft w x).length) (fun j => [(1, .ptr 1 1 0 0), (4, .sl ((bef w).map eL)), (5, .als 19 1 0 w.items.length), (6, I last), (8, I i), (21, .sl ((ordS w).map eI)), (22, I (ordS w).length), (23, I k), (30, .sl ((aft w x).map eI)), (31, I (aft w x).length), (32, I j)])
      (fun j => [(1, 1, ⟨28, 9, [eWork w], 2⟩), (19, 1, ⟨3, 1, (rowE w i ((aft w x).take j) out).map eI, 0⟩)]) (fun j => (aft w x).length - j) 0 (Nat.zero_le _) ⟨rfl, rfl, rfl, rfl, rfl, rfl, rfl, rfl, rfl, ?_, rfl, rfl, rfl, trivial⟩ ?_
    · show I (((aft w x).map eI).length) = _
      rw [List.length_map]
    intro j s2 hj
    obtain ⟨ho1, ho2⟩ := hro j hj
    repeat (refine stp rfl ?_ ?_;·repeat' constructor)
    refine pw_cond rfl (fun h => ?_) (fun h => ?_)
    · have hlt' : j < (aft w x).length := by have := of_decide_eq_true h; omega
      clear h
      obtain ⟨m0, hm0⟩ := get_lt hlt'
      obtain ⟨m, y, rfl, hy⟩ := hkr m0 (List.mem_of_getElem? hm0)
      have hml := (List.getElem?_eq_some_iff.1 hy).1
      have hyo := hv.item y (List.mem_of_getElem? hy)
      have hly := leastP_bound hyo
      have hs : rowE w i ((aft w x).take (j + 1)) out = stepE w i (rowE w i ((aft w x).take j) out) m := by rw [rowE, take_snoc hm0, List.foldl_append]; rfl
      rw [stepE, itP_at hy, Int.toNat_natCast, Int.toNat_natCast] at hs
      generalize rowE w i ((aft w x).take j) out = OUT at *
      have r1 : (OUT.map eI)[0 + (i : Int).toNat]? = some (eI (OUT.getD i 0)) := by rw [Nat.zero_add, Int.toNat_natCast, List.getElem?_map, List.getD_eq_getElem?_getD, List.getElem?_eq_getElem (by omega)]; rfl
      have r2 : (OUT.map eI)[0 + (m : Int).toNat]? = some (eI (OUT.getD m 0)) := by rw [Nat.zero_add, Int.toNat_natCast, List.getElem?_map, List.getD_eq_getElem?_getD, List.getElem?_eq_getElem (by omega)]; rfl
      have b2 := ho2.getZ (by omega) m
      repeat (refine stp rfl ?_ ?_;·repeat' constructor)
      apply qst;exact rfl;exact rfl;exact q_idxm rfl rfl rfl rfl rfl (by omega) hm0 rfl
      repeat (refine stp rfl ?_ ?_;·repeat' constructor)
      apply qst;exact rfl;exact rfl;exact q_idxm rfl rfl rfl rfl rfl (by omega) hy rfl
      repeat (refine stp rfl ?_ ?_;·repeat' constructor)
      apply qst;exact rfl;exact rfl;exact q_callP rfl (least_ret y hyo.modes.1 (by have := hyo.modes; omega) (fun m hm => by have := hyo.mode m hm; exact ⟨this.1, this.2.1⟩)) rfl (by repeat' constructor) rfl rfl
      repeat (refine stp rfl ?_ ?_;·repeat' constructor)
      refine pw_draw 14 [45, 46, 47, 48, 49, 50, 51, 52, 53, 54, 55, 56, 57, 58] (by decide +kernel) ?_
      repeat (refine stp rfl ?_ ?_;·repeat' constructor)
      refine zqq rfl (q_idxA rfl rfl rfl rfl rfl rfl rfl (by omega) (by omega)) ?_
      repeat (refine stp rfl ?_ ?_;·repeat' constructor)
      refine zqq rfl (q_ldp rfl rfl rfl r1 rfl) ?_
      repeat (refine stp rfl ?_ ?_;·repeat' constructor)
      refine zqq rfl (q_idxA rfl rfl rfl rfl rfl rfl rfl (by omega) (by omega)) ?_
      repeat (refine stp rfl ?_ ?_;·repeat' constructor)
      refine zqq rfl (q_ldp rfl rfl rfl r2 rfl) ?_
      repeat (refine stp rfl ?_ ?_;·repeat' constructor)
      refine zqq rfl (q_idxA rfl rfl rfl rfl rfl rfl rfl (by omega) (by omega)) ?_
      repeat (refine stp rfl ?_ ?_;·repeat' constructor)
      refine ps_run0 (o_store (kd' := 0) rfl rfl rfl r1 rfl rfl (by repeat' constructor) rfl rfl rfl rfl ?_)
      repeat (refine stp rfl ?_ ?_;·repeat' constructor)
      refine ⟨j + 1, hlt', by omega, rfl, rfl, rfl, rfl, rfl, rfl, rfl, rfl, rfl, rfl, ?_, rfl, ?_, trivial⟩
      · exact i64_next (by omega) (by omega)
      · rw [hs, List.map_set]
        show (1, some (Cont.mk 3 1 ((OUT.map eI).set (0 + (i : Int).toNat) [I (imax (OUT.getD i 0) (IntKind.i64.wrap (OUT.getD m 0 + leastP y)))]) 0)) = _
        rw [Nat.zero_add, Int.toNat_natCast, wrap_i64 (by omega) (by omega)]
        rfl
    · have hge : j = (aft w x).length := by have := of_decide_eq_false h; omega
      subst hge
      clear h
      rw [List.take_length] at ho1 ho2 ⊢
      generalize rowE w i (aft w x) out = OUT at *
      have r1 : (OUT.map eI)[0 + (i : Int).toNat]? = some (eI (OUT.getD i 0)) := by rw [Nat.zero_add, Int.toNat_natCast, List.getElem?_map, List.getD_eq_getElem?_getD, List.getElem?_eq_getElem (by omega)]; rfl
      have b1 := ho2.getZ (by omega) i
      repeat (refine stp rfl ?_ ?_;·repeat' constructor)
      apply qst;exact rfl;exact rfl;exact q_idxm rfl rfl rfl rfl rfl (by omega) hx rfl
      repeat (refine stp rfl ?_ ?_;·repeat' constructor)
      apply qst;exact rfl;exact rfl;exact q_callP rfl (least_ret x hio.modes.1 (by have := hio.modes; omega) (fun m hm => by have := hio.mode m hm; exact ⟨this.1, this.2.1⟩)) rfl (by repeat' constructor) rfl rfl
      repeat (refine stp rfl ?_ ?_;·repeat' constructor)
      refine ps_q (q_idxA rfl rfl rfl rfl rfl rfl rfl (by omega) (by omega)) ?_
      repeat (refine stp rfl ?_ ?_;·repeat' constructor)
      refine ps_q (q_ldp rfl rfl rfl r1 rfl) ?_
      repeat (refine stp rfl ?_ ?_;·repeat' constructor)
      refine ⟨k + 1, hlt, by omega, rfl, rfl, rfl, ?_, rfl, rfl, ?_, rfl, ?_, trivial⟩
      · rw [hsucc]
        show I (imax last (IntKind.i64.wrap (OUT.getD i 0 + leastP x))) = I (imax last (OUT.getD i 0 + leastP x))
        rw [wrap_i64 (by omega) (by omega)]
      · exact i64_next (by omega) (by omega)
      · rw [hsucc]; rfl
  · have hge : k = (ordS w).length := by have := of_decide_eq_false h; omega
    subst hge
    have hfin : earlyK2 w (ordS w).length = earlyS w := by rw [earlyK2, List.take_length, earlyS]
    rw [hfin] at hc1 ⊢
    repeat (refine stp rfl ?_ ?_;·repeat' constructor)
    exact end2 rfl rfl rfl rfl rfl ⟨rfl, rfl, by rw [List.length_map, hc1]⟩ trivial rfl
end Go.Pv

/- The example, and the bound of a trade. -/
set_option maxHeartbeats 2000000
namespace Go.Pv
attribute [local irreducible] PWP POps PQuiet PSem XThen XBlock RetPost InlPost
open Go.Proofs

/-- Nil slices, told as empty ones. -/
def dn : Nat → PV → PV
  | 0, c => c
  | _ + 1, .nil => .sl []
  | n + 1, .agg cs => .agg (cs.map (dn n))
  | n + 1, .sl rows => .sl (rows.map (·.map (dn n)))
  | _ + 1, c => c
theorem dn_drep {w : World} {ok : Nat → Prop} : ∀ (n : Nat) (c : PV) (v : Value), DRep w ok c v → DRep w ok (dn n c) v
  | 0, _, _, h => h
  | n + 1, c, v, h => by
    cases h with
    | nil => exact .sl0 none 0
    | agg cs vs hl hd =>
      refine .agg _ vs (by simp [hl]) fun i c v e1 e2 => ?_
      rw [List.getElem?_map] at e1
      cases hq : cs[i]? with
      | none => rw [hq] at e1; simp at e1
      | some c0 => rw [hq] at e1; simp at e1; subst e1; exact dn_drep n _ _ (hd i c0 v hq e2)
    | sl0 a cap => exact .sl0 a cap
    | sl rows b off cap sz vals hb hs hcap hrow hcell hd =>
      have at_ : ∀ (i j : Nat) (row : List PV) (c : PV), (rows.map (·.map (dn n)))[i]? = some row → row[j]? = some c → ∃ row0 c0, rows[i]? = some row0 ∧ row0[j]? = some c0 ∧ dn n c0 = c := fun i j row c e1 e2 => map_at e1 e2
      have := DRep.sl (w := w) (ok := ok) (rows.map (·.map (dn n))) b off cap sz vals hb hs (by simpa using hcap) (fun row hr => by
        obtain ⟨r0, h0, rfl⟩ := List.mem_map.1 hr
        simpa using hrow r0 h0) (fun i j row c e1 e2 => by
        obtain ⟨row0, c0, f1, f2, _⟩ := at_ i j row c e1 e2
        exact hcell i j row0 c0 f1 f2) (fun i j row c e1 e2 => by
        obtain ⟨row0, c0, f1, f2, rfl⟩ := at_ i j row c e1 e2
        exact dn_drep n _ _ (hd i j row0 c0 f1 f2))
      rwa [List.length_map] at this
    | bool b => exact .bool b
    | int k m => exact .int k m
    | str s => exact .str s
    | tup cs vs hl hd => exact .tup cs vs hl hd
    | dref cs j b off vals h1 h2 h3 => exact .dref cs j b off vals h1 h2 h3
    | clo f caps vs hl hd => exact .clo f caps vs hl hd
    | mapd rows b es h1 h2 h3 h4 h5 h6 h7 => exact .mapd rows b es h1 h2 h3 h4 h5 h6 h7
    | raw u =>
      show DRep w ok (.raw v) v
      exact .raw v
theorem Ret.dn {P : Program} {m : Mode} {f : FuncId} {args : List PV} {r : PV} (n : Nat) (h : Ret P m f args r) : Ret P m f args (Pv.dn n r) :=
  ⟨h.1, fun w X args h1 h2 h3 => (h.2 w X args h1 h2 h3).mono fun _ _ ⟨v, e1, e2, e3⟩ => ⟨v, e1, e2, dn_drep n _ _ e3⟩⟩

def itemA : SItem := ⟨[97], [119], [⟨2, 1⟩], [], -1, false, []⟩
def itemB : SItem := ⟨[98], [119], [⟨1, 2⟩], [], -1, false, []⟩
def tradeW : STrade := ⟨[119], 2, 100⟩
def pairW : SWork := ⟨[itemA, itemB], [tradeW], [], [], [], 10, 0, 0, 9⟩
def pairS : List SSlot := [⟨[97], 0, 0⟩, ⟨[98], 0, 2⟩]
theorem pair_sane : Sane pairW := by
  refine ⟨by decide, by decide, by decide, by decide, by decide, by decide, fun x hx => ?_⟩
  simp [pairW] at hx
  rcases hx with rfl | rfl <;> decide
theorem pair_ret : Ret Try.prog .shared 42 [] (.agg (eWork pairW)) := by
  have : Ret Try.prog .shared 42 [] (.agg [.sl [[.str [97], .str [119], .sl [[I 2, I 1]], .str [], I (-1), .bool false, .nil], [.str [98], .str [119], .sl [[I 1, I 2]], .str [], I (-1), .bool false, .nil]], .sl [[.str [119], I 2, I 100]], .nil, .nil, .nil, I 10, I 0, I 0, I 9]) := by
    refine Ret.of_pwp layOk mixed Go.Proofs.Try.func42 rfl (by decide) rfl rfl ?_
    repeat (refine stp rfl ?_ ?_;·repeat' constructor)
    apply qst;exact rfl;exact rfl;exact q_slit rfl rfl rfl rfl rfl rfl rfl rfl rfl rfl (by repeat' constructor) rfl
    repeat (refine stp rfl ?_ ?_;·repeat' constructor)
    apply qst;exact rfl;exact rfl;exact q_slit rfl rfl rfl rfl rfl rfl rfl rfl rfl rfl (by repeat' constructor) rfl
    repeat (refine stp rfl ?_ ?_;·repeat' constructor)
    apply qst;exact rfl;exact rfl;exact q_slit rfl rfl rfl rfl rfl rfl rfl rfl rfl rfl (by repeat' constructor) rfl
    repeat (refine stp rfl ?_ ?_;·repeat' constructor)
    apply qst;exact rfl;exact rfl;exact q_slit rfl rfl rfl rfl rfl rfl rfl rfl rfl rfl (by repeat' constructor) rfl
    repeat (refine stp rfl ?_ ?_;·repeat' constructor)
    exact endc rfl rfl rfl rfl (by repeat' constructor) rfl
  exact this.dn 6
theorem pair_work : workE pairW = 0 := by decide +kernel
theorem pair_cost : Ret Try.prog .shared 41 [.agg (eWork pairW), .sl (pairS.map eSlot)] (.tup [I 430, I 0]) := by
  have h := costF_ret pairW pair_sane pairS
  have h1 : planE pairW pairS = 0 := by decide +kernel
  have h2 : costP pairW (placed pairW pairS) = 430 := by decide +kernel
  rw [h1, if_pos rfl, h2] at h
  exact h

/-! ### The bound of a trade -/
def sumT (w : SWork) (t : STrade) (a : Int) (x : SItem) : Int := if x.trade = t.name then a + lwP x else a
def sumB (w : SWork) (t : STrade) : Int := w.items.foldl (sumT w t) 0
def tradeB (w : SWork) (t : STrade) : Int := if sumB w t = 0 then 0 else (sumB w t + t.crew - 1).tdiv t.crew
theorem lwP_bound {w : SWork} {x : SItem} (h : ItemOk w x) : 0 ≤ lwP x ∧ lwP x ≤ 60000 := by
  have hm0 : x.modes[0]? = some (modeAt x 0) := by rw [modeAt]; show _ = some ((x.modes[0]?).getD _); rw [List.getElem?_eq_getElem (by have := h.modes; omega)]; rfl
  have h0 := h.mode _ (List.mem_of_getElem? hm0)
  have hb := mul_bound (A := 60) (B := 1000) (by omega) h0.1.2 h0.2.1.1 h0.2.1.2
  refine fold_bound' x.modes _ (fun a m hm ha hb => ?_) hb.1 hb.2
  have h1 := h.mode m hm
  have h2 := mul_bound (A := 60) (B := 1000) (by omega) h1.1.2 h1.2.1.1 h1.2.1.2
  unfold workF imin
  split <;> omega
theorem sumK_bound {w : SWork} (hv : Well w) (t : STrade) (k : Nat) (hk : k ≤ w.items.length) : 0 ≤ (w.items.take k).foldl (sumT w t) 0 ∧ (w.items.take k).foldl (sumT w t) 0 ≤ 60000 * k := by
  induction k with
  | zero => simp
  | succ k ih =>
    have ih := ih (by omega)
    obtain ⟨x, hx⟩ := get_lt (show k < w.items.length by omega)
    have hl := lwP_bound (hv.item x (List.mem_of_getElem? hx))
    rw [take_snoc hx, List.foldl_append]
    generalize List.foldl (sumT w t) 0 (w.items.take k) = a at ih ⊢
    show 0 ≤ sumT w t a x ∧ sumT w t a x ≤ _
    unfold sumT
    split <;> omega
theorem tradeBound_ret (w : SWork) (hv : Well w) (t : STrade) (ht : 0 ≤ t.crew ∧ t.crew ≤ 1000) (hc : sumB w t ≠ 0 → t.crew ≠ 0) : Ret Try.prog .shared 78 [.agg (eWork w), .agg (eTrade t)] (I (tradeB w t)) := by
  have hn := hv.n40
  have hsb := sumK_bound hv t w.items.length (Nat.le_refl _)
  rw [List.take_length] at hsb
  replace hsb : 0 ≤ sumB w t ∧ sumB w t ≤ 60000 * w.items.length := hsb
  have hml : (w.items.map eItem).length = w.items.length := by simp
  refine Ret.of_pwp layOk mixed Go.Proofs.Try.func78 rfl (by decide) rfl rfl ?_
  repeat (refine stp rfl ?_ ?_;·repeat' constructor)
  refine pw_loop (fun k => k ≤ w.items.length) (fun k => [(2, .ptr 2 1 0 0), (3, .ptr 3 1 0 0), (5, I ((w.items.take k).foldl (sumT w t) 0)), (11, .sl (w.items.map eItem)), (12, I w.items.length), (13, I k)]) (fun _ => [(2, 1, ⟨28, 9, [eWork w], 2⟩), (3, 1, ⟨86, 3, [eTrade t], 2⟩)]) (fun k => w.items.length - k) 0 (Nat.zero_le _) ⟨rfl, rfl, rfl, rfl, ?_, rfl, rfl, rfl, trivial⟩ ?_
  · show I ((w.items.map eItem).length) = _
    rw [hml]
  intro k s hk
  repeat (refine stp rfl ?_ ?_;·repeat' constructor)
  refine pw_cond rfl (fun h => ?_) (fun h => ?_)
  · have hlt : k < w.items.length := by simpa using h
    obtain ⟨x, hx⟩ := get_lt hlt
    clear h
    have hio := hv.item x (List.mem_of_getElem? hx)
    have hb := sumK_bound hv t (k + 1) hlt
    have hs := take_snoc hx
    rw [hs, List.foldl_append] at hb
    replace hb : 0 ≤ sumT w t ((w.items.take k).foldl (sumT w t) 0) x ∧ sumT w t ((w.items.take k).foldl (sumT w t) 0) x ≤ _ := hb
    repeat (refine stp rfl ?_ ?_;·repeat' constructor)
    apply qst;exact rfl;exact rfl;exact q_idxm rfl rfl rfl rfl rfl (by omega) hx rfl
    repeat (refine stp rfl ?_ ?_;·repeat' constructor)
    refine pw_cond rfl (fun h => ?_) (fun h => ?_)
    · have he : x.trade = t.name := of_decide_eq_true h
      clear h
      have hst : ∀ a, sumT w t a x = a + lwP x := fun a => by rw [sumT, if_pos he]
      rw [hst] at hb
      repeat (refine stp rfl ?_ ?_;·repeat' constructor)
      apply qst;exact rfl;exact rfl;exact q_callP rfl (least_ret x hio.modes.1 (by have := hio.modes; omega) (fun m hm => by have := hio.mode m hm; exact ⟨this.1, this.2.1⟩)) rfl (by repeat' constructor) rfl rfl
      repeat (refine stp rfl ?_ ?_;·repeat' constructor)
      refine ⟨k + 1, hlt, by omega, rfl, rfl, ?_, rfl, rfl, ?_, rfl, rfl, trivial⟩
      · rw [hs, List.foldl_append]
        show PV.int .i64 (IntKind.i64.wrap ((w.items.take k).foldl (sumT w t) 0 + lwP x)) = I (sumT w t ((w.items.take k).foldl (sumT w t) 0) x)
        rw [wrap_i64 (by omega) (by omega), hst]
      · exact i64_next (by omega) (by omega)
    · have he : ¬ x.trade = t.name := of_decide_eq_false h
      clear h
      have hst : ∀ a, sumT w t a x = a := fun a => by rw [sumT, if_neg he]
      repeat (refine stp rfl ?_ ?_;·repeat' constructor)
      refine ⟨k + 1, hlt, by omega, rfl, rfl, ?_, rfl, rfl, ?_, rfl, rfl, trivial⟩
      · rw [hs, List.foldl_append]
        show _ = I (sumT w t ((w.items.take k).foldl (sumT w t) 0) x)
        rw [hst]; rfl
      · exact i64_next (by omega) (by omega)
  · have hge : k = w.items.length := by have := of_decide_eq_false h; omega
    subst hge
    rw [List.take_length]
    clear h
    repeat (refine stp rfl ?_ ?_;·repeat' constructor)
    refine pw_cond rfl (fun h => ?_) (fun h => ?_)
    · have hz : sumB w t = 0 := of_decide_eq_true h
      repeat (refine stp rfl ?_ ?_;·repeat' constructor)
      exact end1i rfl rfl (by rw [tradeB, if_pos hz])
    · have hz : ¬ sumB w t = 0 := of_decide_eq_false h
      have hc := hc hz
      repeat (refine stp rfl ?_ ?_;·repeat' constructor)
      refine ps_v rfl hc ?_
      repeat (refine stp rfl ?_ ?_;·repeat' constructor)
      refine end1i rfl rfl ?_
      rw [tradeB, if_neg hz]
      show PV.int .i64 (IntKind.i64.wrap ((IntKind.i64.wrap (IntKind.i64.wrap (sumB w t + t.crew) - 1)).tdiv t.crew)) = _
      rw [wrap_i64 (n := sumB w t + t.crew) (by omega) (by omega), wrap_i64 (n := sumB w t + t.crew - 1) (by omega) (by omega)]
      have h1 := Int.tdiv_nonneg (a := sumB w t + t.crew - 1) (b := t.crew) (by omega) ht.1
      have h2 : (sumB w t + t.crew - 1).tdiv t.crew ≤ sumB w t + t.crew - 1 := by
        rw [Int.tdiv_eq_ediv_of_nonneg (by omega)]
        exact Int.ediv_le_self _ (by omega)
      rw [wrap_i64 (by omega) (by omega)]
end Go.Pv

/- The example's longest chain. -/
set_option maxHeartbeats 2000000
namespace Go.Pv
attribute [local irreducible] PWP POps PQuiet PSem XThen XBlock RetPost InlPost
open Go.Proofs

theorem endm {L : Lay} {s : St} {fn : Func} {r d : PV} {l : List PV} {A Cd : Prop} {fl : Fl} (h : rvs L s fn.results.toList = some (l, A)) (ha : A) (hres : res s 5 (tupled l) = some (d, Cd, fl)) (hc : Cd) (hd : d = r) : RetPost L fn .shared r .ret s := by
  unfold RetPost
  exact ⟨l, A, d, Cd, fl, h, ha, hres, hc, trivial, hd⟩

theorem pair_well : Well pairW := well_of pair_work
theorem pair_chain : Ret Try.prog .shared 116 [.agg (eWork pairW)] (.sl [[I 2], [I 1]]) := by
  have h := chainFrom_ret pairW pair_sane pair_well
  rw [show chainS pairW = [2, 1] by decide +kernel] at h
  exact h
theorem pair_bef : Ret Try.prog .shared 97 [.agg (eWork pairW)] (.sl [[.sl []], [.sl []]]) := by
  have h := before_ret pairW (by decide) (by decide)
  rw [show bef pairW = [[], []] by decide +kernel] at h
  exact h
theorem pair_index : Ret Try.prog .shared 117 [.sl [[I 2], [I 1]], I 2] (I 0) := by
  have h := indexI_ret [2, 1] 2 (by decide)
  rw [show idx [2, 1] (· == (2 : Int)) = 0 by decide +kernel] at h
  exact h
theorem pair_clo (x : Int) : Ret Try.prog .shared 120 [I x, .dref [I 0] 0] (.bool (x == 0)) := by
  refine Ret.of_pwp layOk mixed Go.Proofs.Try.func120 rfl (by decide) rfl rfl ?_
  repeat (refine stp rfl ?_ ?_;·repeat' constructor)
  exact end1b rfl rfl rfl
theorem pair_find : Ret Try.prog .shared 119 [.sl [[I 2], [I 1]], .clo 120 [.dref [I 0] 0]] (I (-1)) := by
  have h := indexFI_ret [2, 1] 120 [I 0] (· == 0) (by decide) (fun x _ => pair_clo x)
  rw [show idx [2, 1] (· == (0 : Int)) = -1 by decide +kernel] at h
  exact h
theorem pair_least : Ret Try.prog .shared 118 [.agg (eItem itemA)] (.tup [I 2, I 2]) := by
  have h := least_ret itemA (by decide) (by decide) (by intro m hm; simp [itemA] at hm; subst hm; decide)
  rw [show leastP itemA = 2 by decide +kernel, show lwP itemA = 2 by decide +kernel] at h
  exact h

def mxP : Nat → Int
  | 0 => 0
  | _ => 2
set_option maxRecDepth 20000 in
theorem pair_longest : Ret Try.prog .shared 77 [.agg (eWork pairW)] (.agg [I 2, .sl [[.str [97]]], .str []]) := by
  refine Ret.of_pwp layOk mixed Go.Proofs.Try.func77 rfl (by decide) rfl rfl ?_
  repeat (refine stp rfl ?_ ?_;·repeat' constructor)
  apply qst;exact rfl;exact rfl;exact q_call rfl (pair_chain) rfl (by repeat' constructor) rfl
  repeat (refine stp rfl ?_ ?_;·repeat' constructor)
  apply qst;exact rfl;exact rfl;exact q_call rfl (pair_bef) rfl (by repeat' constructor) rfl
  repeat (refine stp rfl ?_ ?_;·repeat' constructor)
  refine pw_loop (fun (k : Nat) => k ≤ 2) (fun k => [(1, .ptr 1 1 0 0), (2, .ptr 2 1 0 0), (3, .sl [[I 2], [I 1]]), (4, .sl [[.sl []], [.sl []]]), (5, .ptr 5 1 0 0), (19, .sl [[I 2], [I 1]]), (20, I 2), (21, I k)])
    (fun k => [(1, 1, ⟨28, 9, [eWork pairW], 2⟩), (2, 1, ⟨60, 3, [[I 0, .nil, .str []]], 2⟩), (5, 1, ⟨60, 3, [[I (mxP k), .nil, .str []]], 2⟩)]) (fun k => 2 - k) 0 (by omega) ⟨rfl, rfl, rfl, rfl, rfl, rfl, rfl, rfl, rfl, rfl, rfl, trivial⟩ ?_
  intro k s hk
  obtain rfl | rfl | rfl : k = 0 ∨ k = 1 ∨ k = 2 := by omega
  · repeat (refine stp rfl ?_ ?_;·repeat' constructor)
    refine zsq rfl (q_idx rfl rfl rfl rfl rfl (by decide) rfl rfl) ?_
    repeat (refine stp rfl ?_ ?_;·repeat' constructor)
    exact ⟨1, by omega, by omega, rfl, rfl, rfl, rfl, rfl, rfl, rfl, rfl, rfl, rfl, rfl, trivial⟩
  · repeat (refine stp rfl ?_ ?_;·repeat' constructor)
    refine zsq rfl (q_idx rfl rfl rfl rfl rfl (by decide) rfl rfl) ?_
    repeat (refine stp rfl ?_ ?_;·repeat' constructor)
    exact ⟨2, by omega, by omega, rfl, rfl, rfl, rfl, rfl, rfl, rfl, rfl, rfl, rfl, rfl, trivial⟩
  repeat (refine stp rfl ?_ ?_;·repeat' constructor)
  refine pw_ghost (Ghost.drop (k := 9) rfl) ?_
  refine pw_draw2 6 1 [31, 32, 33, 34, 35, 36, 9] [4,5] (by decide +kernel) rfl ?_
  repeat (refine stp rfl ?_ ?_;·repeat' constructor)
  apply qst;exact rfl;exact rfl;exact q_callP rfl (pair_index) rfl (by repeat' constructor) rfl rfl
  repeat (refine stp rfl ?_ ?_;·repeat' constructor)
  refine ⟨by kernel_rfl, ?_⟩
  repeat (refine stp rfl ?_ ?_;·repeat' constructor)
  refine pw_loop (fun (_ : Option Nat) => True)
    (fun i => [(1, .ptr 1 1 0 0), (2, .ptr 2 1 0 0), (3, .sl [[I 2], [I 1]]), (4, .sl [[.sl []], [.sl []]]), (5, .ptr 5 1 0 0), (8, match i with | none => I 0 | some _ => I (-1)), (9, .ptr 9 ((s.own 9).1 + 2 + 1) 0 0)])
    (fun i => match i with
      | none => [(1, 1, ⟨28, 9, [eWork pairW], 2⟩), (2, 1, ⟨60, 3, [[I 0, .nil, .str []]], 2⟩), (5, 1, ⟨60, 3, [[I 2, .nil, .str []]], 2⟩), (9, (s.own 9).1 + 2 + 1, ⟨3, 1, [[I 2]], 2⟩)]
      | some g => [(1, 1, ⟨28, 9, [eWork pairW], 2⟩), (2, 1, ⟨60, 3, [[I 0, .nil, .str []]], 2⟩), (5, 1, ⟨60, 3, [[I 2, .als 48 g 0 1, .str []]], 2⟩), (9, (s.own 9).1 + 2 + 1, ⟨3, 1, [[I 0]], 2⟩), (48, g, ⟨9, 1, [[.str [97]]], 0⟩)])
    (fun i => match i with | none => 1 | some _ => 0) none trivial ⟨rfl, rfl, rfl, rfl, rfl, rfl, rfl, rfl, rfl, rfl, rfl, trivial⟩ ?_
  intro i s2 _
  cases i with
  | none =>
    repeat (refine stp rfl ?_ ?_;·repeat' constructor)
    refine pw_draw 9 [39, 40, 41, 42, 43, 44, 45, 46, 47] (by decide +kernel) ?_
    repeat (refine stp rfl ?_ ?_;·repeat' constructor)
    refine zqq rfl (q_idx rfl rfl rfl rfl rfl (by decide) rfl rfl) ?_
    repeat (refine stp rfl ?_ ?_;·repeat' constructor)
    apply qst;exact rfl;exact rfl;exact q_slit rfl rfl rfl rfl rfl rfl rfl rfl rfl rfl (by repeat' constructor) rfl
    repeat (refine stp rfl ?_ ?_;·repeat' constructor)
    refine ps_run (o_appN rfl rfl rfl rfl rfl rfl rfl rfl (by repeat' constructor) (by intro row hr; simp at hr; subst hr; rfl) (by decide) (by decide) ?_)
    repeat (refine stp rfl ?_ ?_;·repeat' constructor)
    refine zsq rfl (q_idx rfl rfl rfl rfl rfl (by decide) rfl rfl) ?_
    repeat (refine stp rfl ?_ ?_;·repeat' constructor)
    apply qst;exact rfl;exact rfl;exact q_call rfl (pair_least) rfl (by repeat' constructor) rfl
    repeat (refine stp rfl ?_ ?_;·repeat' constructor)
    apply qst;exact rfl;exact rfl;exact q_callP rfl (pair_find) rfl (by repeat' constructor) rfl rfl
    repeat (refine stp rfl ?_ ?_;·repeat' constructor)
    refine pw_loop (fun (_ : Unit) => True) (fun _ => [(1, .ptr 1 1 0 0), (2, .ptr 2 1 0 0), (3, .sl [[I 2], [I 1]]), (4, .sl [[.sl []], [.sl []]]), (5, .ptr 5 1 0 0), (8, I (-1)), (9, .ptr 9 ((s.own 9).1 + 2 + 1) 0 0)])
      (fun _ => [(1, 1, ⟨28, 9, [eWork pairW], 2⟩), (2, 1, ⟨60, 3, [[I 0, .nil, .str []]], 2⟩), (5, 1, ⟨60, 3, [[I 2, .als 48 ((s2.own 48).1 + 1) 0 1, .str []]], 2⟩), (9, (s.own 9).1 + 2 + 1, ⟨3, 1, [[I 0]], 2⟩), (48, (s2.own 48).1 + 1, ⟨9, 1, [[.str [97]]], 0⟩)])
      (fun _ => 0) () trivial ⟨rfl, rfl, rfl, rfl, rfl, rfl, rfl, rfl, rfl, rfl, rfl, rfl, trivial⟩ ?_
    intro _ s3 _
    repeat (refine stp rfl ?_ ?_;·repeat' constructor)
    exact ⟨some ((s2.own 48).1 + 1), trivial, Nat.zero_lt_one, rfl, rfl, rfl, rfl, rfl, rfl, rfl, rfl, rfl, rfl, rfl, rfl, trivial⟩
  | some g =>
    repeat (refine stp rfl ?_ ?_;·repeat' constructor)
    exact endc rfl rfl rfl rfl (by repeat' constructor) rfl
end Go.Pv

/- The earliest days: the program's answer, and the reference's. -/
set_option maxHeartbeats 2000000
namespace Go.Pv
attribute [local irreducible] PWP POps PQuiet PSem XThen XBlock RetPost InlPost
open Go.Proofs

def earliestR (w : SWork) : PV := if workE w = 0 then .tup [.sl ((earlyS w).1.map eI), I (earlyS w).2, I 0] else .tup [.nil, I 0, I (workE w)]
theorem earliest_ret (w : SWork) (hw : Sane w) : Ret Try.prog .shared 33 [.agg (eWork w)] (earliestR w) := by
  have h20 := checkWork_ret w hw
  by_cases hz : workE w = 0
  · have h85 := earliest0_ret w hw (well_of hz)
    rw [earliestR, if_pos hz]
    rw [hz] at h20
    refine Ret.of_pwp layOk mixed Go.Proofs.Try.func33 rfl (by decide) rfl rfl ?_
    repeat (refine stp rfl ?_ ?_;·repeat' constructor)
    apply qst;exact rfl;exact rfl;exact q_callP rfl (h20) rfl (by repeat' constructor) rfl rfl
    repeat (refine stp rfl ?_ ?_;·repeat' constructor)
    apply qst;exact rfl;exact rfl;exact q_call rfl (h85) rfl (by repeat' constructor) rfl
    repeat (refine stp rfl ?_ ?_;·repeat' constructor)
    exact endm rfl (by repeat' constructor) rfl (by repeat' constructor) rfl
  · rw [earliestR, if_neg hz]
    generalize workE w = e at *
    refine Ret.of_pwp layOk mixed Go.Proofs.Try.func33 rfl (by decide) rfl rfl ?_
    repeat (refine stp rfl ?_ ?_;·repeat' constructor)
    apply qst;exact rfl;exact rfl;exact q_callP rfl (h20) rfl (by repeat' constructor) rfl rfl
    repeat (refine stp rfl ?_ ?_;·repeat' constructor)
    refine pw_cond rfl (fun h => ?_) (fun h => ?_)
    · repeat (refine stp rfl ?_ ?_;·repeat' constructor)
      exact endm rfl (by repeat' constructor) rfl (by repeat' constructor) rfl
    · exact absurd (by simpa using h) hz

theorem idx_known {w : SWork} (hv : Well w) {x : SItem} (hx : x ∈ w.items) {j : Nat} {nm : Str} {m : Int} (h1 : x.after[j]? = some nm) (h2 : (aft w x)[j]? = some m) : idx w.items (·.name == nm) = m := by
  rw [aft, List.getElem?_map, h1] at h2
  have h2 := Option.some.inj h2
  rw [← h2]
  show _ = idx (w.items.map (·.name)) (· == nm)
  rw [idx_map]
theorem ord_name {w : SWork} (hv : Well w) {k i : Nat} {x : SItem} (hk : (ordS w)[k]? = some (i : Int)) (hx : w.items[i]? = some x) : ((ordS w).map (nameAt w))[k]? = some x.name := by
  rw [List.getElem?_map, hk]
  exact congrArg some (nameAt_at hx)
theorem order_ref' (w : SWork) (hw : Sane w) (hv : Well w) : Ret Try.prog .shared 22 [.agg (eWork w)] (.sl (((ordS w).map (nameAt w)).map eS)) := by
  have := order_ref w hw
  rwa [(refOrd_eq hv.good).1] at this

set_option maxRecDepth 20000 in
theorem earliest_ref (w : SWork) (hw : Sane w) (hv : Well w) : Ret Try.prog .shared 36 [.agg (eWork w)] (.tup [.sl ((earlyS w).1.map eI), I (earlyS w).2]) := by
  have h1 := hw.items
  have hn40 := hv.n40
  have hol := ordS_len w
  have hwl : ((w.items.map eItem).length : Int) = w.items.length := by simp
  have hLl : ((((ordS w).map (nameAt w)).map eS).length : Int) = (ordS w).length := by simp
  refine Ret.of_pwp layOk mixed Go.Proofs.Try.func36 rfl (by decide) rfl rfl ?_
  repeat (refine stp rfl ?_ ?_;·repeat' constructor)
  refine ps_run (o_make rfl rfl rfl rfl rfl rfl rfl rfl (by omega) (by rw [hwl]; show ((8 : Nat) : Int) * _ ≤ _; omega) (by rw [hwl]; omega) ?_)
  repeat (refine stp rfl ?_ ?_;·repeat' constructor)
  apply qst;exact rfl;exact rfl;exact q_call rfl (order_ref' w hw hv) rfl (by repeat' constructor) rfl
  repeat (refine stp rfl ?_ ?_;·repeat' constructor)
  refine pw_loop (fun k => k ≤ (ordS w).length) (fun k => [(1, .ptr 1 1 0 0), (4, .als 14 1 0 w.items.length), (5, I (earlyK2 w k).2), (6, .sl (((ordS w).map (nameAt w)).map eS)), (7, I k)])
    (fun k => [(1, 1, ⟨28, 9, [eWork w], 2⟩), (14, 1, ⟨3, 1, (earlyK2 w k).1.map eI, 0⟩)]) (fun k => (ordS w).length - k) 0 (Nat.zero_le _) ⟨rfl, ?_, rfl, rfl, rfl, rfl, ?_, trivial⟩ ?_
  · show PV.als 14 1 0 (List.length (List.replicate (Int.toNat (w.items.map eItem).length) _)) = _
    simp
  · show (1, some (Cont.mk 3 1 (List.replicate (Int.toNat (w.items.map eItem).length) _) 0)) = _
    simp [earlyK2, eI]
  intro k s hk
  obtain ⟨hc1, hc2, hc3, hc4⟩ := earlyK2_ok hw hv k hk
  repeat (refine stp rfl ?_ ?_;·repeat' constructor)
  refine pw_cond rfl (fun h => ?_) (fun h => ?_)
  · have hlt : k < (ordS w).length := by have := of_decide_eq_true h; omega
    clear h
    obtain ⟨y0, hy0⟩ := get_lt hlt
    obtain ⟨i, x, rfl, hx⟩ := (refOrd_eq hv.good).2 y0 (List.mem_of_getElem? hy0)
    have hil := (List.getElem?_eq_some_iff.1 hx).1
    have hxm := List.mem_of_getElem? hx
    have hax := hw.after x hxm
    have hal : (aft w x).length = x.after.length := by simp [aft]
    have hio := hv.item x hxm
    have hlb := leastP_bound hio
    have hnm := ord_name hv hy0 hx
    have hiu := hv.good.uniq i x hx
    have h24 := itemOf_ret w x.name (by omega)
    rw [hiu] at h24
    have hkr := known_row hv hxm
    have hro := fun j hj => rowE_ok hv (i : Int) hkr hc2 (by omega) j hj
    have hsucc := earlyK2_succ hy0 hx
    generalize earlyK2 w k = st at *
    obtain ⟨out, last⟩ := st
    replace hc1 : out.length = w.items.length := hc1
    replace hc3 : 0 ≤ last := hc3
    replace hc4 : last ≤ 6000060 * (k : Int) := hc4
    replace hro : ∀ j, j ≤ (aft w x).length → (rowE w i ((aft w x).take j) out).length = out.length ∧ BndL (rowE w i ((aft w x).take j) out) (6000060 * k + 60 * j) := hro
    replace hsucc : earlyK2 w (k + 1) = (rowE w i (aft w x) out, imax last ((rowE w i (aft w x) out).getD i 0 + leastP x)) := hsucc
    repeat (refine stp rfl ?_ ?_;·repeat' constructor)
    refine pw_draw 7 [23, 24, 25, 26, 27, 28, 8] (by decide +kernel) ?_
    repeat (refine stp rfl ?_ ?_;·repeat' constructor)
    apply qst;exact rfl;exact rfl;exact q_idxm rfl rfl rfl rfl rfl (by omega) hnm rfl
    repeat (refine stp rfl ?_ ?_;·repeat' constructor)
    apply qst;exact rfl;exact rfl;exact q_callP rfl (h24) rfl (by repeat' constructor) rfl rfl
    repeat (refine stp rfl ?_ ?_;·repeat' constructor)
    refine pw_loop (fun j => j ≤ (aft w x).length) (fun j => [(1, .ptr 1 1 0 0), (4, .als 14 1 0 w.items.length), (5, I last), (6, .sl (((ordS w).map (nameAt w)).map eS)), (7, I k), (8, I i), (9, I j)])
      (fun j => [(1, 1, ⟨28, 9, [eWork w], 2⟩), (14, 1, ⟨3, 1, (rowE w i ((aft w x).take j) out).map eI, 0⟩)]) (fun j => (aft w x).length - j) 0 (Nat.zero_le _) ⟨rfl, rfl, rfl, rfl, rfl, rfl, rfl, rfl, rfl, trivial⟩ ?_
    intro j s2 hj
    obtain ⟨ho1, ho2⟩ := hro j hj
    repeat (refine stp rfl ?_ ?_;·repeat' constructor)
    apply qst;exact rfl;exact rfl;exact q_idxm rfl rfl rfl rfl rfl (by omega) hx rfl
    repeat (refine stp rfl ?_ ?_;·repeat' constructor)
    refine pw_cond rfl (fun h => ?_) (fun h => ?_)
    · have hlt' : j < (aft w x).length := by have := of_decide_eq_true h; rw [List.length_map] at this; omega
      clear h
      obtain ⟨m0, hm0⟩ := get_lt hlt'
      obtain ⟨m, y, rfl, hy⟩ := hkr m0 (List.mem_of_getElem? hm0)
      obtain ⟨nm, hn2⟩ := get_lt (show j < x.after.length by omega)
      have h24m := itemOf_ret w nm (by omega)
      rw [idx_known hv hxm hn2 hm0] at h24m
      have hml := (List.getElem?_eq_some_iff.1 hy).1
      have hyo := hv.item y (List.mem_of_getElem? hy)
      have hly := leastP_bound hyo
      have hs : rowE w i ((aft w x).take (j + 1)) out = stepE w i (rowE w i ((aft w x).take j) out) m := by rw [rowE, take_snoc hm0, List.foldl_append]; rfl
      rw [stepE, itP_at hy, Int.toNat_natCast, Int.toNat_natCast] at hs
      generalize rowE w i ((aft w x).take j) out = OUT at *
      have r1 : (OUT.map eI)[0 + (i : Int).toNat]? = some (eI (OUT.getD i 0)) := by rw [Nat.zero_add, Int.toNat_natCast, List.getElem?_map, List.getD_eq_getElem?_getD, List.getElem?_eq_getElem (by omega)]; rfl
      have r2 : (OUT.map eI)[0 + (m : Int).toNat]? = some (eI (OUT.getD m 0)) := by rw [Nat.zero_add, Int.toNat_natCast, List.getElem?_map, List.getD_eq_getElem?_getD, List.getElem?_eq_getElem (by omega)]; rfl
      have b2 := ho2.getZ (by omega) m
      repeat (refine stp rfl ?_ ?_;·repeat' constructor)
      refine pw_draw 12 [40, 41, 42, 43, 44, 45, 46, 47, 48, 49, 50, 10] (by decide +kernel) ?_
      repeat (refine stp rfl ?_ ?_;·repeat' constructor)
      apply qst;exact rfl;exact rfl;exact q_idxm rfl rfl rfl rfl rfl (by omega) hx rfl
      repeat (refine stp rfl ?_ ?_;·repeat' constructor)
      apply qst;exact rfl;exact rfl;exact q_idxm rfl rfl rfl rfl rfl (by omega) hn2 rfl
      repeat (refine stp rfl ?_ ?_;·repeat' constructor)
      apply qst;exact rfl;exact rfl;exact q_callP rfl (h24m) rfl (by repeat' constructor) rfl rfl
      repeat (refine stp rfl ?_ ?_;·repeat' constructor)
      refine pw_draw 19 [51, 52, 53, 54, 55, 56, 57, 58, 59, 60, 61, 62, 63, 64, 65, 66, 67, 68, 69] (by decide +kernel) ?_
      repeat (refine stp rfl ?_ ?_;·repeat' constructor)
      refine zqq rfl (q_idxA rfl rfl rfl rfl rfl rfl rfl (by omega) (by omega)) ?_
      repeat (refine stp rfl ?_ ?_;·repeat' constructor)
      refine zqq rfl (q_ldp rfl rfl rfl r1 rfl) ?_
      repeat (refine stp rfl ?_ ?_;·repeat' constructor)
      refine zqq rfl (q_idxA rfl rfl rfl rfl rfl rfl rfl (by omega) (by omega)) ?_
      repeat (refine stp rfl ?_ ?_;·repeat' constructor)
      refine zqq rfl (q_ldp rfl rfl rfl r2 rfl) ?_
      repeat (refine stp rfl ?_ ?_;·repeat' constructor)
      apply qst;exact rfl;exact rfl;exact q_idxm rfl rfl rfl rfl rfl (by omega) hy rfl
      repeat (refine stp rfl ?_ ?_;·repeat' constructor)
      apply qst;exact rfl;exact rfl;exact q_callP rfl (least_ref y hyo.modes.1 (by have := hyo.modes; omega)) rfl (by repeat' constructor) rfl rfl
      repeat (refine stp rfl ?_ ?_;·repeat' constructor)
      refine zqq rfl (q_idxA rfl rfl rfl rfl rfl rfl rfl (by omega) (by omega)) ?_
      repeat (refine stp rfl ?_ ?_;·repeat' constructor)
      refine ps_run0 (o_store (kd' := 0) rfl rfl rfl r1 rfl rfl (by repeat' constructor) rfl rfl rfl rfl ?_)
      repeat (refine stp rfl ?_ ?_;·repeat' constructor)
      refine ⟨j + 1, hlt', by omega, rfl, rfl, rfl, rfl, rfl, rfl, ?_, rfl, ?_, trivial⟩
      · exact i64_next (by omega) (by omega)
      · rw [hs, List.map_set]
        show (1, some (Cont.mk 3 1 ((OUT.map eI).set (0 + (i : Int).toNat) [I (imax (OUT.getD i 0) (IntKind.i64.wrap (OUT.getD m 0 + leastP y)))]) 0)) = _
        rw [Nat.zero_add, Int.toNat_natCast, wrap_i64 (by omega) (by omega)]
        rfl
    · have hge : j = (aft w x).length := by have := of_decide_eq_false h; rw [List.length_map] at this; omega
      subst hge
      clear h
      rw [List.take_length] at ho1 ho2 ⊢
      generalize rowE w i (aft w x) out = OUT at *
      have r1 : (OUT.map eI)[0 + (i : Int).toNat]? = some (eI (OUT.getD i 0)) := by rw [Nat.zero_add, Int.toNat_natCast, List.getElem?_map, List.getD_eq_getElem?_getD, List.getElem?_eq_getElem (by omega)]; rfl
      have b1 := ho2.getZ (by omega) i
      repeat (refine stp rfl ?_ ?_;·repeat' constructor)
      refine pw_draw 13 [70, 71, 72, 73, 74, 75, 76, 77, 78, 79, 80, 81, 82] (by decide +kernel) ?_
      repeat (refine stp rfl ?_ ?_;·repeat' constructor)
      refine zqq rfl (q_idxA rfl rfl rfl rfl rfl rfl rfl (by omega) (by omega)) ?_
      repeat (refine stp rfl ?_ ?_;·repeat' constructor)
      refine zqq rfl (q_ldp rfl rfl rfl r1 rfl) ?_
      repeat (refine stp rfl ?_ ?_;·repeat' constructor)
      apply qst;exact rfl;exact rfl;exact q_idxm rfl rfl rfl rfl rfl (by omega) hx rfl
      repeat (refine stp rfl ?_ ?_;·repeat' constructor)
      apply qst;exact rfl;exact rfl;exact q_callP rfl (least_ref x hio.modes.1 (by have := hio.modes; omega)) rfl (by repeat' constructor) rfl rfl
      repeat (refine stp rfl ?_ ?_;·repeat' constructor)
      refine ⟨k + 1, hlt, by omega, rfl, rfl, ?_, rfl, i64_next (by omega) (by omega), rfl, ?_, trivial⟩
      · rw [hsucc]
        show I (imax last (IntKind.i64.wrap (OUT.getD i 0 + leastP x))) = I (imax last (OUT.getD i 0 + leastP x))
        rw [wrap_i64 (by omega) (by omega)]
      · rw [hsucc]; rfl
  · have hge : k = (ordS w).length := by have := of_decide_eq_false h; omega
    subst hge
    have hfin : earlyK2 w (ordS w).length = earlyS w := by rw [earlyK2, List.take_length, earlyS]
    rw [hfin] at hc1 ⊢
    repeat (refine stp rfl ?_ ?_;·repeat' constructor)
    exact end2 rfl rfl rfl rfl rfl ⟨rfl, rfl, by rw [List.length_map, hc1]⟩ trivial rfl
end Go.Pv

/- The latest days: what the program reckons. -/
set_option maxHeartbeats 2000000
namespace Go.Pv
attribute [local irreducible] PWP POps PQuiet PSem XThen XBlock RetPost InlPost
open Go.Proofs

/-- Numbers from 'A' to 'B'. -/
def BndR (a : List Int) (A B : Int) : Prop := ∀ v ∈ a, A ≤ v ∧ v ≤ B
theorem BndR.mono {a : List Int} {A A' B B' : Int} (h : BndR a A B) (h1 : A' ≤ A) (h2 : B ≤ B') : BndR a A' B' := fun v hv => ⟨Int.le_trans h1 (h v hv).1, Int.le_trans (h v hv).2 h2⟩
theorem BndR.get {a : List Int} {A B : Int} (h : BndR a A B) {d : Nat} (hd : d < a.length) : A ≤ a.getD d 0 ∧ a.getD d 0 ≤ B := by
  rw [List.getD_eq_getElem?_getD, List.getElem?_eq_getElem hd]
  exact h _ (List.getElem_mem hd)
theorem BndR.set {a : List Int} {A B : Int} (h : BndR a A B) {d : Nat} {v : Int} (hv : A ≤ v ∧ v ≤ B) : BndR (a.set d v) A B := by
  intro u hu
  rcases List.mem_or_eq_of_mem_set hu with h1 | rfl
  · exact h u h1
  · exact hv

def cutL (o : Int) (en : List Int) (k : Int) : List Int := en.set k.toNat (imin (en.getD k.toNat 0) o)
def rowL (o : Int) (row : List Int) (en : List Int) : List Int := row.foldl (cutL o) en
def latF (w : SWork) (s : List Int × List Int) (i : Int) : List Int × List Int := (rowL (s.1.getD i.toNat 0 - leastP (itP w i)) ((bef w).getD i.toNat []) s.1, s.2.set i.toNat (s.1.getD i.toNat 0 - leastP (itP w i)))
def latK (w : SWork) (days : Int) (k : Nat) : List Int × List Int := ((ordS w).reverse.take k).foldl (latF w) (List.replicate w.items.length days, List.replicate w.items.length 0)
def latS (w : SWork) (days : Int) : List Int := ((ordS w).reverse.foldl (latF w) (List.replicate w.items.length days, List.replicate w.items.length 0)).2
theorem rowL_ok {w : SWork} {o A B : Int} (ho : A ≤ o ∧ o ≤ B) {row : List Int} (hr : KnownRow w row) {en : List Int} (hl : en.length = w.items.length) (h : BndR en A B) (j : Nat) (hj : j ≤ row.length) : (rowL o (row.take j) en).length = w.items.length ∧ BndR (rowL o (row.take j) en) A B := by
  induction j with
  | zero => exact ⟨hl, h⟩
  | succ j ih =>
    obtain ⟨h1, h2⟩ := ih (by omega)
    obtain ⟨k, hk⟩ := get_lt (show j < row.length by omega)
    obtain ⟨m, y, rfl, hy⟩ := hr k (List.mem_of_getElem? hk)
    have hml := (List.getElem?_eq_some_iff.1 hy).1
    have hs : rowL o (row.take (j + 1)) en = cutL o (rowL o (row.take j) en) m := by rw [rowL, take_snoc hk, List.foldl_append]; rfl
    rw [hs, cutL]
    have b := h2.get (d := (m : Int).toNat) (by rw [h1, Int.toNat_natCast]; exact hml)
    refine ⟨by rw [List.length_set, h1], h2.set ?_⟩
    unfold imin
    split <;> omega
theorem latK_succ {w : SWork} {days : Int} {k i : Nat} {x : SItem} (hk : (ordS w).reverse[k]? = some (i : Int)) (hx : w.items[i]? = some x) :
    latK w days (k + 1) = (rowL ((latK w days k).1.getD i 0 - leastP x) (aft w x) (latK w days k).1, (latK w days k).2.set i ((latK w days k).1.getD i 0 - leastP x)) := by
  have hbx : (bef w).getD i [] = aft w x := by rw [List.getD_eq_getElem?_getD, bef, List.getElem?_map, hx]; rfl
  rw [latK, take_snoc hk, List.foldl_append]
  show latF w (latK w days k) i = _
  rw [latF, Int.toNat_natCast, hbx, itP_at hx]
theorem rev_known {w : SWork} (hv : Well w) {k : Nat} {y : Int} (hy : (ordS w).reverse[k]? = some y) : ∃ (i : Nat) (x : SItem), y = i ∧ w.items[i]? = some x :=
  (refOrd_eq hv.good).2 y (by simpa using List.mem_of_getElem? hy)
theorem latK_ok {w : SWork} (hv : Well w) {days : Int} (hd : 0 ≤ days) (k : Nat) (hk : k ≤ (ordS w).length) : (latK w days k).1.length = w.items.length ∧ BndR (latK w days k).1 (days - 60 * k) days ∧ (latK w days k).2.length = w.items.length ∧ BndR (latK w days k).2 (- 60 * k) days := by
  induction k with
  | zero => exact ⟨by simp [latK], fun v hv => by simp [latK] at hv; omega, by simp [latK], fun v hv => by simp [latK] at hv; omega⟩
  | succ k ih =>
    obtain ⟨h1, h2, h3, h4⟩ := ih (by omega)
    obtain ⟨y, hy⟩ := get_lt (show k < (ordS w).reverse.length by simp; omega)
    obtain ⟨i, x, rfl, hx⟩ := rev_known hv hy
    have hxm := List.mem_of_getElem? hx
    have hil := (List.getElem?_eq_some_iff.1 hx).1
    have hl := leastP_bound (hv.item x hxm)
    have b := h2.get (d := i) (by omega)
    rw [latK_succ hy hx]
    have hr := rowL_ok (w := w) (o := (latK w days k).1.getD i 0 - leastP x) (A := days - 60 * ((k + 1 : Nat) : Int)) (B := days) (by omega) (known_row hv hxm) h1 (h2.mono (by omega) (by omega)) (aft w x).length (Nat.le_refl _)
    rw [List.take_length] at hr
    exact ⟨hr.1, hr.2, by rw [List.length_set, h3], (h4.mono (by omega) (by omega)).set (by omega)⟩
end Go.Pv

/- The latest days: the program's walk. -/
set_option maxHeartbeats 2000000
namespace Go.Pv
attribute [local irreducible] PWP POps PQuiet PSem XThen XBlock RetPost InlPost
open Go.Proofs

set_option maxRecDepth 20000 in
theorem reverse35 {K : St → Prop} {s : St} {d : Nat} {x : Operand} {tys : Array TypeId} {ty : TypeId} {pos : String} {af : Array Edge} (w : SWork) (g2 g : Nat) (R R2 : List (List PV)) (l : List Int) (hl : l.length ≤ 1000000) (hx : s.ev x = .als 35 g 0 (l.map eI).length) (ho : FitO s [(2, 1, ⟨28, 9, [eWork w], 2⟩), (20, 1, ⟨3, 1, R, 0⟩), (33, g2, ⟨3, 1, R2, 0⟩), (35, g, ⟨3, 1, l.map eI, 0⟩)])
    (hK : ∀ s1 : St, K (({ reg := s.reg, own := (s1.over [] [(2, 1, ⟨28, 9, [eWork w], 2⟩), (20, 1, ⟨3, 1, R, 0⟩), (33, g2, ⟨3, 1, R2, 0⟩), (35, g, ⟨3, 1, l.reverse.map eI, 0⟩)]).own } : St).putR d (.tup []))) :
    Sm Try.prog lay.get s ⟨some d, .call ⟨.value (.func 124), #[x], tys⟩, ty, pos, af, none⟩ K := by
  have hsub : ∀ (r : List Int), ((r.map eI).length : Int) = r.length := fun r => by simp
  refine sm_inline layOk rfl rfl Try.func124 rfl (by decide) rfl rfl ?_
  have hargs : (([x] : List Operand).map s.ev ++ ([] : List PV)) = [.als 35 g 0 (l.map eI).length] := by simp [hx]
  show PWP _ _ _ _ (callSt s (([x] : List Operand).map s.ev ++ []))
  rw [hargs]
  rw [show callSt s [.als 35 g 0 (l.map eI).length] = callSt (s.over [] [(2, 1, ⟨28, 9, [eWork w], 2⟩), (20, 1, ⟨3, 1, R, 0⟩), (33, g2, ⟨3, 1, R2, 0⟩), (35, g, ⟨3, 1, l.map eI, 0⟩)]) [.als 35 g 0 (l.map eI).length] by rw [Fit.over (l := []) ho]]
  repeat (refine stp rfl ?_ ?_;·repeat' constructor)
  refine pw_loop (RevAt l) (fun q => [(0, .als 35 g 0 (l.map eI).length), (2, I q.1), (3, I ((l.length : Int) - 1 - q.1))]) (fun q => [(2, 1, ⟨28, 9, [eWork w], 2⟩), (20, 1, ⟨3, 1, R, 0⟩), (33, g2, ⟨3, 1, R2, 0⟩), (35, g, ⟨3, 1, q.2.map eI, 0⟩)]) (fun q => l.length - q.1) (0, l) (.zero l) ⟨rfl, rfl, ?_, rfl, rfl, rfl, rfl, trivial⟩ ?_
  · show PV.int .i64 (IntKind.i64.wrap (((l.map eI).length : Int) - 1)) = _
    rw [wrap_i64 (by rw [hsub]; omega) (by rw [hsub]; omega), hsub]
    exact congrArg I (by simp)
  rintro ⟨i, r⟩ s1 hr
  have h1 : r.length = l.length := hr.1
  have h2 : i ≤ l.length := hr.2.1
  repeat (refine stp rfl ?_ ?_;·repeat' constructor)
  refine pw_cond rfl (fun h => ?_) (fun h => ?_)
  · have hlt : 2 * i + 1 < l.length := by have := of_decide_eq_true h; omega
    clear h
    obtain ⟨u, hu⟩ := get_lt (show i < r.length by omega)
    obtain ⟨v, hv⟩ := get_lt (show l.length - 1 - i < r.length by omega)
    have hj : ((l.length : Int) - 1 - i) = ((l.length - 1 - i : Nat) : Int) := by omega
    have hui : (r.map eI)[i]? = some (eI u) := by rw [List.getElem?_map, hu]; rfl
    have hvj : (r.map eI)[l.length - 1 - i]? = some (eI v) := by rw [List.getElem?_map, hv]; rfl
    have hll : (l.map eI).length = l.length := by simp
    repeat (refine stp rfl ?_ ?_;·repeat' constructor)
    refine pw_draw2 13 0 [14, 15, 16, 17, 18, 19, 20, 21, 22, 23, 24, 25, 26] [2,3] (by decide +kernel) rfl ?_
    repeat (refine stp rfl ?_ ?_;·repeat' constructor)
    rw [hj]
    refine pq_q (q_idxA rfl rfl rfl rfl rfl rfl rfl (by omega) (by rw [hll]; omega)) ?_
    rw [Int.toNat_natCast, Nat.zero_add (l.length - 1 - i)]
    refine pq_q (q_ldp rfl rfl rfl hvj rfl) ?_
    repeat (refine stp rfl ?_ ?_;·repeat' constructor)
    refine pq_q (q_idxA rfl rfl rfl rfl rfl rfl rfl (by omega) (by rw [hll]; omega)) ?_
    rw [Int.toNat_natCast, Nat.zero_add i]
    refine pq_q (q_ldp rfl rfl rfl hui rfl) ?_
    repeat (refine stp rfl ?_ ?_;·repeat' constructor)
    refine pq_q (q_idxA rfl rfl rfl rfl rfl rfl rfl (by omega) (by rw [hll]; omega)) ?_
    rw [Int.toNat_natCast, Nat.zero_add i]
    repeat (refine stp rfl ?_ ?_;·repeat' constructor)
    refine ps_run0 (o_store (kd' := 0) rfl rfl rfl hui rfl rfl (by repeat' constructor) rfl rfl rfl rfl ?_)
    refine ps_q (q_idxA rfl rfl rfl rfl rfl rfl rfl (by omega) (by rw [hll]; omega)) ?_
    rw [Int.toNat_natCast, Nat.zero_add (l.length - 1 - i)]
    refine ps_run0 (o_store (kd' := 0) rfl rfl rfl (row := eI v) (by
      show ((r.map eI).set i _)[l.length - 1 - i]? = _
      rw [List.getElem?_set_ne (by omega)]; exact hvj) rfl rfl (by repeat' constructor) rfl rfl rfl rfl ?_)
    repeat (refine stp rfl ?_ ?_;·repeat' constructor)
    refine ⟨(i + 1, (r.set i v).set (l.length - 1 - i) u), hr.step hlt hu hv, by show l.length - (i + 1) < l.length - i; omega, rfl, ?_, ?_, rfl, rfl, rfl, ?_, trivial⟩
    · exact i64_next (by omega) (by omega)
    · show PV.int .i64 (IntKind.i64.wrap (((l.length - 1 - i : Nat) : Int) - 1)) = _
      rw [wrap_i64 (by omega) (by omega)]
      exact congrArg I (by show ((l.length - 1 - i : Nat) : Int) - 1 = (l.length : Int) - 1 - ((i + 1 : Nat) : Int); omega)
    · refine Eq.trans (b := (g, some (Cont.mk 3 1 (((r.map eI).set i (eI v)).set (l.length - 1 - i) (eI u)) 0))) rfl ?_
      rw [← List.map_set, ← List.map_set]
  · have hd := hr.done (by have := of_decide_eq_false h; omega)
    subst hd
    repeat (refine stp rfl ?_ ?_;·repeat' constructor)
    exact inl_end0 rfl (hK s1)

def fillL (n : Nat) (days : Int) (k : Nat) : List Int := List.replicate k days ++ List.replicate (n - k) 0
theorem fillL_len {n k : Nat} (days : Int) (hk : k ≤ n) : (fillL n days k).length = n := by simp [fillL]; omega
theorem fillL_set {n k : Nat} {days : Int} (hk : k < n) : (fillL n days k).set k days = fillL n days (k + 1) := by
  unfold fillL
  rw [List.set_append, if_neg (by simp), List.length_replicate, Nat.sub_self, show n - k = (n - (k + 1)) + 1 by omega, List.replicate_succ, List.set_cons_zero, List.replicate_succ', List.append_assoc]
  rfl
theorem eI_at {l : List Int} {i : Nat} (h : i < l.length) : (l.map eI)[0 + (i : Int).toNat]? = some (eI (l.getD i 0)) := by
  rw [Nat.zero_add, Int.toNat_natCast, List.getElem?_map, List.getD_eq_getElem?_getD, List.getElem?_eq_getElem h]; rfl

set_option maxRecDepth 20000 in
theorem latest0_ret (w : SWork) (hw : Sane w) (hv : Well w) (days : Int) (hd : 0 ≤ days ∧ days ≤ 1000000000) : Ret Try.prog .shared 86 [.agg (eWork w), I days] (.sl ((latS w days).map eI)) := by
  have h1 := hw.items
  have hn40 := hv.n40
  have hbl : ((bef w).map eL).length = w.items.length := by simp [bef]
  have hol := ordS_len w
  have hLl : ((ordS w).map eI).length = (ordS w).reverse.length := by simp
  refine Ret.of_pwp layOk mixed Go.Proofs.Try.func86 rfl (by decide) rfl rfl ?_
  repeat (refine stp rfl ?_ ?_;·repeat' constructor)
  apply qst;exact rfl;exact rfl;exact q_call rfl (before_ret w h1 hw.after) rfl (by repeat' constructor) rfl
  repeat (refine stp rfl ?_ ?_;·repeat' constructor)
  refine ps_run (o_make rfl rfl rfl rfl rfl rfl rfl rfl (by omega) (by rw [hbl]; show ((8 : Nat) : Int) * _ ≤ _; omega) (by rw [hbl]; omega) ?_)
  repeat (refine stp rfl ?_ ?_;·repeat' constructor)
  refine pw_loop (fun k => k ≤ w.items.length) (fun k => [(1, I days), (2, .ptr 2 1 0 0), (5, .sl ((bef w).map eL)), (6, .als 20 1 0 w.items.length), (22, I w.items.length), (23, I k)])
    (fun k => [(2, 1, ⟨28, 9, [eWork w], 2⟩), (20, 1, ⟨3, 1, (fillL w.items.length days k).map eI, 0⟩)]) (fun k => w.items.length - k) 0 (Nat.zero_le _) ⟨rfl, rfl, rfl, ?_, ?_, rfl, rfl, ?_, trivial⟩ ?_
  · show PV.als 20 1 0 (List.length (List.replicate (Int.toNat ((bef w).map eL).length) _)) = _
    rw [hbl]; simp
  · show I ((List.replicate (Int.toNat ((bef w).map eL).length) _ : List (List PV)).length) = _
    rw [hbl]; simp
  · show (1, some (Cont.mk 3 1 (List.replicate (Int.toNat ((bef w).map eL).length) _) 0)) = _
    rw [hbl]; simp [fillL, eI]
  intro k s hk
  have hfl := fillL_len days hk
  repeat (refine stp rfl ?_ ?_;·repeat' constructor)
  refine pw_cond rfl (fun h => ?_) (fun h => ?_)
  · have hlt : k < w.items.length := by have := of_decide_eq_true h; omega
    clear h
    have hs := fillL_set (days := days) hlt
    have r1 := eI_at (l := fillL w.items.length days k) (i := k) (by omega)
    repeat (refine stp rfl ?_ ?_;·repeat' constructor)
    refine ps_q (q_idxA rfl rfl rfl rfl rfl rfl rfl (by omega) (by omega)) ?_
    repeat (refine stp rfl ?_ ?_;·repeat' constructor)
    refine ps_run0 (o_store (kd' := 0) rfl rfl rfl r1 rfl rfl (by repeat' constructor) rfl rfl rfl rfl ?_)
    repeat (refine stp rfl ?_ ?_;·repeat' constructor)
    refine ⟨k + 1, hlt, by omega, rfl, rfl, rfl, rfl, rfl, i64_next (by omega) (by omega), rfl, ?_, trivial⟩
    rw [← hs, List.map_set]
    show (1, some (Cont.mk 3 1 (((fillL w.items.length days k).map eI).set (0 + (k : Int).toNat) [I days]) 0)) = _
    rw [Nat.zero_add, Int.toNat_natCast]; rfl
  have hge : k = w.items.length := by have := of_decide_eq_false h; omega
  subst hge
  clear h
  repeat (refine stp rfl ?_ ?_;·repeat' constructor)
  refine ps_run (o_make rfl rfl rfl rfl rfl rfl rfl rfl (by omega) (by rw [hbl]; show ((8 : Nat) : Int) * _ ≤ _; omega) (by rw [hbl]; omega) ?_)
  refine ps_v rfl trivial ?_
  refine ps_nil ?_
  refine x_norm ?_
  refine pw_seq ?_
  refine pw_regionS 1 ?_
  first | refine ps_v rfl trivial ?_ | refine ps_v rfl rfl ?_
  refine ps_nil ?_
  refine psem_sm rfl (sm_callO rfl (ordered_own w h1 hw.after) rfl (by repeat' constructor) rfl ?_)
  refine psem_ops ?_
  refine ps_v rfl trivial ?_
  refine ps_nil ?_
  refine x_norm ?_
  refine pw_seq ?_
  refine pw_regionS 1 ?_
  first | refine ps_v rfl trivial ?_ | refine ps_v rfl rfl ?_
  refine ps_nil ?_
  refine psem_sm rfl (reverse35 w ((s.own 33).1 + 1) ((s.own 35).1 + 1) ((fillL w.items.length days w.items.length).map eI) (List.replicate w.items.length [I 0]) (ordS w) (by omega) rfl ⟨rfl, rfl, ?_, rfl, trivial⟩ (fun s1 => ?_))
  · show ((s.own 33).1 + 1, some (Cont.mk 3 1 (List.replicate (Int.toNat ((bef w).map eL).length) _) 0)) = _
    rw [hbl]; rfl
  refine psem_ops ?_
  have hfn : fillL w.items.length days w.items.length = List.replicate w.items.length days := by simp [fillL]
  rw [hfn]
  generalize (s.own 33).1 + 1 = g2
  generalize (s.own 35).1 + 1 = g
  repeat (refine stp rfl ?_ ?_;·repeat' constructor)
  refine pw_loop (fun k => k ≤ (ordS w).reverse.length) (fun k => [(2, .ptr 2 1 0 0), (5, .sl ((bef w).map eL)), (6, .als 20 1 0 w.items.length), (8, .als 33 g2 0 w.items.length), (38, .als 35 g 0 ((ordS w).map eI).length), (39, I ((ordS w).map eI).length), (40, I k)])
    (fun k => [(2, 1, ⟨28, 9, [eWork w], 2⟩), (20, 1, ⟨3, 1, (latK w days k).1.map eI, 0⟩), (33, g2, ⟨3, 1, (latK w days k).2.map eI, 0⟩), (35, g, ⟨3, 1, (ordS w).reverse.map eI, 0⟩)]) (fun k => (ordS w).reverse.length - k) 0 (Nat.zero_le _) ⟨rfl, rfl, rfl, ?_, rfl, rfl, rfl, rfl, ?_, ?_, rfl, trivial⟩ ?_
  · show PV.als 33 g2 0 (List.length (List.replicate (Int.toNat ((bef w).map eL).length) _)) = _
    rw [hbl]; simp
  · rfl
  · show (g2, some (Cont.mk 3 1 (List.replicate w.items.length [I 0]) 0)) = _
    simp [latK, eI]
  intro k s hk
  have hrl : (ordS w).reverse.length = (ordS w).length := by simp
  obtain ⟨hc1, hc2, hc3, hc4⟩ := latK_ok hv hd.1 k (by omega)
  repeat (refine stp rfl ?_ ?_;·repeat' constructor)
  refine pw_cond rfl (fun h => ?_) (fun h => ?_)
  · have hlt : k < (ordS w).reverse.length := by have := of_decide_eq_true h; omega
    clear h
    obtain ⟨y0, hy0⟩ := get_lt hlt
    obtain ⟨i, x, rfl, hx⟩ := rev_known hv hy0
    have hil := (List.getElem?_eq_some_iff.1 hx).1
    have hxm := List.mem_of_getElem? hx
    have hax := hw.after x hxm
    have hal : (aft w x).length = x.after.length := by simp [aft]
    have hio := hv.item x hxm
    have hlb := leastP_bound hio
    have hbx : (bef w)[i]? = some (aft w x) := by rw [bef, List.getElem?_map, hx]; rfl
    have hkr := known_row hv hxm
    have hsucc := latK_succ (days := days) hy0 hx
    generalize latK w days k = st at *
    obtain ⟨en, out⟩ := st
    replace hc1 : en.length = w.items.length := hc1
    replace hc2 : BndR en (days - 60 * k) days := hc2
    replace hc3 : out.length = w.items.length := hc3
    replace hsucc : latK w days (k + 1) = (rowL (en.getD i 0 - leastP x) (aft w x) en, out.set i (en.getD i 0 - leastP x)) := hsucc
    have be := hc2.get (d := i) (by omega)
    have hro := fun j hj => rowL_ok (w := w) (o := en.getD i 0 - leastP x) (A := days - 60 * ((k + 1 : Nat) : Int)) (B := days) (by omega) hkr hc1 (hc2.mono (by omega) (by omega)) j hj
    have hwr : IntKind.i64.wrap (en.getD i 0 - leastP x) = en.getD i 0 - leastP x := wrap_i64 (by omega) (by omega)
    have hyr : ((ordS w).reverse.map eI)[0 + (k : Int).toNat]? = some (eI i) := by rw [Nat.zero_add, Int.toNat_natCast, List.getElem?_map, hy0]; rfl
    have r1 := eI_at (l := en) (i := i) (by omega)
    have r2 := eI_at (l := out) (i := i) (by omega)
    repeat (refine stp rfl ?_ ?_;·repeat' constructor)
    refine ps_q (q_idxA rfl rfl rfl rfl rfl rfl rfl (by omega) (by omega)) ?_
    repeat (refine stp rfl ?_ ?_;·repeat' constructor)
    refine ps_q (q_ldp rfl rfl rfl hyr rfl) ?_
    repeat (refine stp rfl ?_ ?_;·repeat' constructor)
    apply qst;exact rfl;exact rfl;exact q_idxm rfl rfl rfl rfl rfl (by omega) hx rfl
    repeat (refine stp rfl ?_ ?_;·repeat' constructor)
    apply qst;exact rfl;exact rfl;exact q_callP rfl (least_ret x hio.modes.1 (by have := hio.modes; omega) (fun m hm => by have := hio.mode m hm; exact ⟨this.1, this.2.1⟩)) rfl (by repeat' constructor) rfl rfl
    repeat (refine stp rfl ?_ ?_;·repeat' constructor)
    refine ps_q (q_idxA rfl rfl rfl rfl rfl rfl rfl (by omega) (by omega)) ?_
    repeat (refine stp rfl ?_ ?_;·repeat' constructor)
    refine ps_q (q_ldp rfl rfl rfl r1 rfl) ?_
    repeat (refine stp rfl ?_ ?_;·repeat' constructor)
    rw [hwr]
    refine ps_q (q_idxA rfl rfl rfl rfl rfl rfl rfl (by omega) (by omega)) ?_
    repeat (refine stp rfl ?_ ?_;·repeat' constructor)
    refine ps_run0 (o_store (kd' := 0) rfl rfl rfl r2 rfl rfl (by repeat' constructor) rfl rfl rfl rfl ?_)
    repeat (refine stp rfl ?_ ?_;·repeat' constructor)
    apply qst;exact rfl;exact rfl;exact q_idxm rfl rfl rfl rfl rfl (by omega) hbx rfl
    repeat (refine stp rfl ?_ ?_;·repeat' constructor)
    generalize hO : en.getD i 0 - leastP x = o at *
    refine pw_loop (fun j => j ≤ (aft w x).length) (fun j => [(2, .ptr 2 1 0 0), (5, .sl ((bef w).map eL)), (6, .als 20 1 0 w.items.length), (8, .als 33 g2 0 w.items.length), (11, I i), (38, .als 35 g 0 ((ordS w).map eI).length), (39, I ((ordS w).map eI).length), (40, I k), (65, .sl ((aft w x).map eI)), (66, I (aft w x).length), (67, I j)])
      (fun j => [(2, 1, ⟨28, 9, [eWork w], 2⟩), (20, 1, ⟨3, 1, (rowL o ((aft w x).take j) en).map eI, 0⟩), (33, g2, ⟨3, 1, (out.set i o).map eI, 0⟩), (35, g, ⟨3, 1, (ordS w).reverse.map eI, 0⟩)]) (fun j => (aft w x).length - j) 0 (Nat.zero_le _) ⟨rfl, rfl, rfl, rfl, rfl, rfl, rfl, rfl, rfl, ?_, rfl, rfl, rfl, ?_, rfl, trivial⟩ ?_
    · show I (((aft w x).map eI).length) = _
      rw [List.length_map]
    · rw [List.map_set]
      show (g2, some (Cont.mk 3 1 ((out.map eI).set (0 + (i : Int).toNat) [I o]) 0)) = _
      rw [Nat.zero_add, Int.toNat_natCast]; rfl
    intro j s2 hj
    obtain ⟨ho1, ho2⟩ := hro j hj
    repeat (refine stp rfl ?_ ?_;·repeat' constructor)
    refine pw_cond rfl (fun h => ?_) (fun h => ?_)
    · have hlt' : j < (aft w x).length := by have := of_decide_eq_true h; omega
      clear h
      obtain ⟨m0, hm0⟩ := get_lt hlt'
      obtain ⟨m, y, rfl, hy⟩ := hkr m0 (List.mem_of_getElem? hm0)
      have hml := (List.getElem?_eq_some_iff.1 hy).1
      have hs : rowL o ((aft w x).take (j + 1)) en = cutL o (rowL o ((aft w x).take j) en) m := by rw [rowL, take_snoc hm0, List.foldl_append]; rfl
      rw [cutL, Int.toNat_natCast] at hs
      generalize rowL o ((aft w x).take j) en = EN at *
      have r3 := eI_at (l := EN) (i := m) (by omega)
      have r4 := eI_at (l := out.set i o) (i := i) (by rw [List.length_set]; omega)
      have hoi : (out.set i o).getD i 0 = o := by rw [List.getD_eq_getElem?_getD, List.getElem?_set_self (by omega)]; rfl
      rw [hoi] at r4
      have hol2 : (out.set i o).length = w.items.length := by rw [List.length_set, hc3]
      repeat (refine stp rfl ?_ ?_;·repeat' constructor)
      apply qst;exact rfl;exact rfl;exact q_idxm rfl rfl rfl rfl rfl (by omega) hm0 rfl
      repeat (refine stp rfl ?_ ?_;·repeat' constructor)
      refine pw_draw 12 [71, 72, 73, 74, 75, 76, 77, 78, 79, 80, 81, 82] (by decide +kernel) ?_
      repeat (refine stp rfl ?_ ?_;·repeat' constructor)
      refine zqq rfl (q_idxA rfl rfl rfl rfl rfl rfl rfl (by omega) (by omega)) ?_
      repeat (refine stp rfl ?_ ?_;·repeat' constructor)
      refine zqq rfl (q_ldp rfl rfl rfl r3 rfl) ?_
      repeat (refine stp rfl ?_ ?_;·repeat' constructor)
      refine zqq rfl (q_idxA rfl rfl rfl rfl rfl rfl rfl (by omega) (by omega)) ?_
      repeat (refine stp rfl ?_ ?_;·repeat' constructor)
      refine zqq rfl (q_ldp rfl rfl rfl r4 rfl) ?_
      repeat (refine stp rfl ?_ ?_;·repeat' constructor)
      refine zqq rfl (q_idxA rfl rfl rfl rfl rfl rfl rfl (by omega) (by omega)) ?_
      repeat (refine stp rfl ?_ ?_;·repeat' constructor)
      refine ps_run0 (o_store (kd' := 0) rfl rfl rfl r3 rfl rfl (by repeat' constructor) rfl rfl rfl rfl ?_)
      repeat (refine stp rfl ?_ ?_;·repeat' constructor)
      refine ⟨j + 1, hlt', by omega, rfl, rfl, rfl, rfl, rfl, rfl, rfl, rfl, rfl, rfl, i64_next (by omega) (by omega), rfl, ?_, rfl, rfl, trivial⟩
      rw [hs]
      show (1, some (Cont.mk 3 1 ((EN.map eI).set (0 + (m : Int).toNat) [I (imin (EN.getD m 0) o)]) 0)) = _
      rw [Nat.zero_add, Int.toNat_natCast, List.map_set (l := EN)]
      rfl
    · have hge : j = (aft w x).length := by have := of_decide_eq_false h; omega
      subst hge
      clear h
      rw [List.take_length] at ho1 ho2 ⊢
      repeat (refine stp rfl ?_ ?_;·repeat' constructor)
      refine ⟨k + 1, hlt, by omega, rfl, rfl, rfl, rfl, rfl, rfl, i64_next (by omega) (by omega), rfl, ?_, ?_, rfl, trivial⟩
      · rw [hsucc]; rfl
      · rw [hsucc]; rfl
  · have hge : k = (ordS w).reverse.length := by have := of_decide_eq_false h; omega
    subst hge
    have hfin : (latK w days (ordS w).reverse.length).2 = latS w days := by rw [latK, List.take_length, latS]
    rw [hfin] at hc3 ⊢
    repeat (refine stp rfl ?_ ?_;·repeat' constructor)
    exact end1 rfl rfl rfl ⟨rfl, rfl, by rw [List.length_map, hc3]⟩ rfl
end Go.Pv

/- The order's law: each item stands behind those that it waits for; the latest days by the reference are those of the program. -/
set_option maxHeartbeats 2000000
namespace Go.Pv
attribute [local irreducible] PWP POps PQuiet PSem XThen XBlock RetPost InlPost
open Go.Proofs

structure Topo (w : SWork) (L : List Int) : Prop where
  nodup : L.Nodup
  pre : ∀ (p : Nat) (e : Int), L[p]? = some e → ∀ m ∈ (bef w).getD e.toNat [], m ∈ L.take p
theorem Topo.snoc {w : SWork} {L : List Int} (h : Topo w L) {e : Int} (hn : e ∉ L) (hp : ∀ m ∈ (bef w).getD e.toNat [], m ∈ L) : Topo w (L ++ [e]) := by
  refine ⟨?_, fun p d hd m hm => ?_⟩
  · rw [List.nodup_append]
    exact ⟨h.nodup, by simp, fun a ha b hb => by simp at hb; subst hb; exact fun he => hn (he ▸ ha)⟩
  · rcases Nat.lt_or_ge p L.length with hlt | hge
    · rw [List.getElem?_append_left hlt] at hd
      rw [List.take_append_of_le_length (by omega)]
      exact h.pre p d hd m hm
    · rw [List.getElem?_append_right hge] at hd
      have hpl : p - L.length = 0 := by
        rcases Nat.eq_zero_or_pos (p - L.length) with h0 | h0
        · exact h0
        · rw [List.getElem?_eq_none (by simp; omega)] at hd; cases hd
      rw [hpl] at hd
      simp at hd
      subst hd
      rw [show p = L.length by omega, List.take_left']
      · exact hp m hm
      · rfl
theorem topo_orderF {w : SWork} : ∀ (f : Nat) (out : List Int), Topo w out → Topo w (orderF f (bef w) out)
  | 0, _, h => h
  | f + 1, out, h => by
    unfold orderF
    split
    · exact h
    · rename_i hge
      refine topo_orderF f _ ?_
      rcases idx_cases (List.range (bef w).length) (fitB (bef w) out) with ⟨h1, _⟩ | ⟨i, a, h1, h2, h3, _⟩
      · exact absurd (show nextO (bef w) out = -1 from h1) (by omega)
      · have hil : i < (bef w).length := by have := (List.getElem?_eq_some_iff.1 h2).1; simpa using this
        rw [List.getElem?_range hil] at h2
        have h2 := Option.some.inj h2
        subst h2
        have hno : nextO (bef w) out = i := h1
        rw [hno]
        simp only [fitB, Bool.and_eq_true, Bool.not_eq_true'] at h3
        refine h.snoc (fun hin => ?_) fun m hm => ?_
        · have := h3.2
          rw [List.any_eq_false] at this
          exact this _ hin (by simp)
        · rw [Int.toNat_natCast] at hm
          have := h3.1
          rw [readyB, Bool.not_eq_true', List.any_eq_false] at this
          have := this m hm
          simp only [Bool.not_eq_true', Bool.not_eq_false] at this
          obtain ⟨y, hy, he⟩ := List.any_eq_true.1 this
          have : y = m := by simpa using he
          exact this ▸ hy
theorem topo_ord (w : SWork) : Topo w (ordS w) := topo_orderF _ _ ⟨by simp, fun p e h => by simp at h⟩
theorem ord_all {w : SWork} (hv : Well w) {i : Nat} (hi : i < w.items.length) : (i : Int) ∈ ordS w := by
  have hin := (refOrd_eq hv.good).2
  refine nodup_cover (ordS w) ((List.range w.items.length).map fun k => ((k : Nat) : Int)) (topo_ord w).nodup (fun x hx => ?_) (by rw [List.length_map, List.length_range]; have := hv.full; omega) _ (List.mem_map.2 ⟨i, List.mem_range.2 hi, rfl⟩)
  obtain ⟨k, y, rfl, hy⟩ := hin x hx
  exact List.mem_map.2 ⟨k, List.mem_range.2 (List.getElem?_eq_some_iff.1 hy).1, rfl⟩
theorem ord_full {w : SWork} (hv : Well w) : (ordS w).length = w.items.length := by have := hv.full; have := ordS_len w; omega
theorem nodup_pos {α : Type} {L : List α} (h : L.Nodup) {p q : Nat} {e : α} (hp : L[p]? = some e) (hq : L[q]? = some e) : p = q := by
  obtain ⟨h1, h2⟩ := List.getElem?_eq_some_iff.1 hp
  obtain ⟨h3, h4⟩ := List.getElem?_eq_some_iff.1 hq
  have hpw := List.pairwise_iff_getElem.1 h
  rcases Nat.lt_trichotomy p q with hlt | he | hlt
  · exact absurd (h2.trans h4.symm) (hpw p q h1 h3 hlt)
  · exact he
  · exact absurd (h4.trans h2.symm) (hpw q p h3 h1 hlt)
/-- What waits for an item stands before it in the turned order. -/
theorem rev_before {w : SWork} (hv : Well w) {k i j : Nat} (hk : (ordS w).reverse[k]? = some (i : Int)) (hj : j < w.items.length) (hij : (i : Int) ∈ (bef w).getD j []) : (j : Int) ∈ (ordS w).reverse.take k := by
  have ht := topo_ord w
  obtain ⟨p, hp, hpj⟩ := List.getElem_of_mem (ord_all hv hj)
  have hpj' : (ordS w)[p]? = some (j : Int) := by rw [List.getElem?_eq_getElem hp, hpj]
  have hin := ht.pre p _ hpj' i (by rw [Int.toNat_natCast]; exact hij)
  rw [List.mem_take_iff_getElem] at hin
  obtain ⟨q, hq, hqi⟩ := hin
  have hql : q < p := by omega
  have hkl : k < (ordS w).length := by have := (List.getElem?_eq_some_iff.1 hk).1; simpa using this
  rw [List.getElem?_reverse hkl] at hk
  have := nodup_pos ht.nodup (show (ordS w)[q]? = some (i : Int) by rw [List.getElem?_eq_getElem (by omega), hqi]) hk
  rw [List.mem_take_iff_getElem]
  refine ⟨(ordS w).length - 1 - p, by rw [List.length_reverse]; omega, ?_⟩
  rw [List.getElem_reverse]
  have : (ordS w).length - 1 - ((ordS w).length - 1 - p) = p := by omega
  simp only [this, hpj]

/-! ### The latest days by the reference -/
def refMin (w : SWork) (out : List Int) (i : Int) (days : Int) (n : Nat) : Int := (List.range n).foldl (fun e j => if ((bef w).getD j []).any (· == i) = true then imin e (out.getD j 0) else e) days
theorem refMin_succ (w : SWork) (out : List Int) (i days : Int) (n : Nat) : refMin w out i days (n + 1) = if ((bef w).getD n []).any (· == i) = true then imin (refMin w out i days n) (out.getD n 0) else refMin w out i days n := by
  rw [refMin, List.range_succ, List.foldl_append]; rfl
theorem le_imin {a b B : Int} : B ≤ imin a b ↔ B ≤ a ∧ B ≤ b := by unfold imin; split <;> omega
theorem le_refMin (w : SWork) (out : List Int) (i days B : Int) : ∀ n : Nat, B ≤ refMin w out i days n ↔ B ≤ days ∧ ∀ j, j < n → i ∈ (bef w).getD j [] → B ≤ out.getD j 0
  | 0 => by simp [refMin]
  | n + 1 => by
    have ih := le_refMin w out i days B n
    rw [refMin_succ]
    have hmem : ((bef w).getD n []).any (· == i) = true ↔ i ∈ (bef w).getD n [] := by simp
    by_cases hi : i ∈ (bef w).getD n []
    · rw [if_pos (hmem.2 hi), le_imin, ih]
      constructor
      · rintro ⟨⟨h1, h2⟩, h3⟩
        refine ⟨h1, fun j hj hjm => ?_⟩
        rcases Nat.lt_or_ge j n with hlt | hge
        · exact h2 j hlt hjm
        · rw [show j = n by omega]; exact h3
      · rintro ⟨h1, h2⟩
        exact ⟨⟨h1, fun j hj => h2 j (by omega)⟩, h2 n (by omega) hi⟩
    · rw [if_neg (fun h => hi (hmem.1 h)), ih]
      constructor
      · rintro ⟨h1, h2⟩
        refine ⟨h1, fun j hj hjm => ?_⟩
        rcases Nat.lt_or_ge j n with hlt | hge
        · exact h2 j hlt hjm
        · rw [show j = n by omega] at hjm; exact absurd hjm hi
      · rintro ⟨h1, h2⟩
        exact ⟨h1, fun j hj => h2 j (by omega)⟩
theorem le_rowL {w : SWork} {o B : Int} {m : Nat} (hm : m < w.items.length) : ∀ (row : List Int) (en : List Int), KnownRow w row → en.length = w.items.length → (B ≤ (rowL o row en).getD m 0 ↔ B ≤ en.getD m 0 ∧ ((m : Int) ∈ row → B ≤ o))
  | [], en, _, _ => by simp [rowL]
  | k :: row, en, hr, hl => by
    obtain ⟨j, y, rfl, hy⟩ := hr k (by simp)
    have hjl := (List.getElem?_eq_some_iff.1 hy).1
    have hs : rowL o ((j : Int) :: row) en = rowL o row (cutL o en j) := rfl
    rw [hs, le_rowL hm row _ (fun k hk => hr k (by simp [hk])) (by rw [cutL, List.length_set, hl]), cutL, Int.toNat_natCast, List.getD_eq_getElem?_getD]
    by_cases hjm : j = m
    · subst hjm
      rw [List.getElem?_set_self (by omega)]
      show B ≤ imin _ _ ∧ _ ↔ _
      rw [le_imin]
      constructor
      · rintro ⟨⟨h1, h2⟩, h3⟩; exact ⟨h1, fun _ => h2⟩
      · rintro ⟨h1, h2⟩; exact ⟨⟨h1, h2 (by simp)⟩, fun _ => h2 (by simp)⟩
    · rw [List.getElem?_set_ne hjm, ← List.getD_eq_getElem?_getD]
      constructor
      · rintro ⟨h1, h2⟩
        refine ⟨h1, fun h => h2 ?_⟩
        rcases List.mem_cons.1 h with h | h
        · omega
        · exact h
      · rintro ⟨h1, h2⟩; exact ⟨h1, fun h => h2 (by simp [h])⟩
theorem le_latK {w : SWork} (hv : Well w) {days : Int} (hd : 0 ≤ days) {m : Nat} (hm : m < w.items.length) (B : Int) : ∀ k : Nat, k ≤ (ordS w).length →
    (B ≤ (latK w days k).1.getD m 0 ↔ B ≤ days ∧ ∀ j : Nat, (j : Int) ∈ (ordS w).reverse.take k → (m : Int) ∈ (bef w).getD j [] → B ≤ (latK w days k).2.getD j 0)
  | 0, _ => by
    have : (latK w days 0).1.getD m 0 = days := by
      show (List.replicate w.items.length days).getD m 0 = days
      rw [List.getD_eq_getElem?_getD, List.getElem?_replicate, if_pos hm]; rfl
    rw [this]
    simp
  | k + 1, hk => by
    have ih := le_latK hv hd hm B k (by omega)
    obtain ⟨h1, _, h3, _⟩ := latK_ok hv hd k (by omega)
    obtain ⟨y, hy⟩ := get_lt (show k < (ordS w).reverse.length by simp; omega)
    obtain ⟨i, x, rfl, hx⟩ := rev_known hv hy
    have hil := (List.getElem?_eq_some_iff.1 hx).1
    have hnd : (ordS w).reverse.Nodup := List.pairwise_reverse.2 ((topo_ord w).nodup.imp fun h => Ne.symm h)
    have hbx : (bef w).getD i [] = aft w x := by rw [List.getD_eq_getElem?_getD, bef, List.getElem?_map, hx]; rfl
    rw [latK_succ hy hx]
    show B ≤ (rowL _ _ _).getD m 0 ↔ _
    rw [le_rowL hm _ _ (known_row hv (List.mem_of_getElem? hx)) h1, ih, take_snoc hy, and_assoc]
    refine and_congr Iff.rfl ?_
    have hne : ∀ j : Nat, (j : Int) ∈ (ordS w).reverse.take k → j ≠ i := by
      rintro j hj rfl
      rw [List.mem_take_iff_getElem] at hj
      obtain ⟨q, hq, hqi⟩ := hj
      have := nodup_pos hnd (show (ordS w).reverse[q]? = some (j : Int) by rw [List.getElem?_eq_getElem (by omega), hqi]) hy
      omega
    constructor
    · rintro ⟨g1, g2⟩ j hj hjm
      show B ≤ ((latK w days k).2.set i _).getD j 0
      rw [List.getD_eq_getElem?_getD]
      rw [List.mem_append] at hj
      rcases hj with hj | hj
      · rw [List.getElem?_set_ne (hne j hj).symm, ← List.getD_eq_getElem?_getD]
        exact g1 j hj hjm
      · have hji : j = i := by simp at hj; omega
        subst hji
        rw [List.getElem?_set_self (by omega)]
        exact g2 (by rw [← hbx]; exact hjm)
    · intro g
      refine ⟨fun j hj hjm => ?_, fun hmx => ?_⟩
      · have := g j (by rw [List.mem_append]; exact .inl hj) hjm
        rw [List.getD_eq_getElem?_getD] at this
        rw [List.getD_eq_getElem?_getD]
        rw [show ((latK w days k).2.set i ((latK w days k).1.getD i 0 - leastP x))[j]? = (latK w days k).2[j]? from List.getElem?_set_ne (hne j hj).symm] at this
        exact this
      · have := g i (by simp) (by rw [hbx]; exact hmx)
        rw [List.getD_eq_getElem?_getD] at this
        rw [show ((latK w days k).2.set i ((latK w days k).1.getD i 0 - leastP x))[i]? = some ((latK w days k).1.getD i 0 - leastP x) from List.getElem?_set_self (by omega)] at this
        exact this
theorem refMin_eq {w : SWork} (hv : Well w) {days : Int} (hd : 0 ≤ days) {k i : Nat} (hk : (ordS w).reverse[k]? = some (i : Int)) (hi : i < w.items.length) : refMin w (latK w days k).2 i days w.items.length = (latK w days k).1.getD i 0 := by
  have hkl : k < (ordS w).length := by have := (List.getElem?_eq_some_iff.1 hk).1; simpa using this
  have key : ∀ B, B ≤ refMin w (latK w days k).2 i days w.items.length ↔ B ≤ (latK w days k).1.getD i 0 := by
    intro B
    rw [le_refMin, le_latK hv hd hi B k (by omega)]
    refine and_congr Iff.rfl ?_
    constructor
    · intro h j hj hij
      obtain ⟨q, y, he, hy⟩ := (refOrd_eq hv.good).2 (j : Int) (by have := List.mem_of_mem_take hj; simpa using this)
      have : j = q := by omega
      subst this
      exact h j (List.getElem?_eq_some_iff.1 hy).1 hij
    · intro h j hj hij
      exact h j (rev_before hv hk hj hij) hij
  exact Int.le_antisymm ((key _).1 (Int.le_refl _)) ((key _).2 (Int.le_refl _))
theorem after_any {w : SWork} (hv : Well w) {i : Nat} {x z : SItem} (hx : w.items[i]? = some x) (hz : z ∈ w.items) : z.after.any (· == x.name) = (aft w z).any (· == (i : Int)) := by
  rw [aft, List.any_map, Bool.eq_iff_iff, List.any_eq_true, List.any_eq_true]
  have hu := hv.good.uniq i x hx
  constructor
  · rintro ⟨s, hs, he⟩
    have he : s = x.name := by simpa using he
    subst he
    refine ⟨_, hs, ?_⟩
    show (idx (w.items.map (·.name)) (· == x.name) == (i : Int)) = true
    rw [idx_map, hu]; simp
  · rintro ⟨s, hs, he⟩
    obtain ⟨j, y, hy, hn, hidx⟩ := known_at hv.good hz hs
    have he : idx (w.items.map (·.name)) (· == s) = (i : Int) := by simpa using he
    rw [hidx] at he
    have : j = i := by omega
    subst this
    rw [hx] at hy
    cases hy
    exact ⟨s, hs, by simp [hn]⟩
end Go.Pv

/- The latest days and the critical items: the program's answers and the reference's. -/
set_option maxHeartbeats 2000000
namespace Go.Pv
attribute [local irreducible] PWP POps PQuiet PSem XThen XBlock RetPost InlPost
open Go.Proofs

theorem earlyS_ok {w : SWork} (hw : Sane w) (hv : Well w) : (earlyS w).1.length = w.items.length ∧ 0 ≤ (earlyS w).2 ∧ (earlyS w).2 ≤ 1000000000 := by
  have hfin : earlyK2 w (ordS w).length = earlyS w := by rw [earlyK2, List.take_length, earlyS]
  obtain ⟨h1, _, h3, h4⟩ := earlyK2_ok hw hv (ordS w).length (Nat.le_refl _)
  rw [hfin] at h1 h3 h4
  have := ordS_len w
  have := hv.n40
  exact ⟨h1, h3, by omega⟩
theorem latS_len {w : SWork} (hv : Well w) {days : Int} (hd : 0 ≤ days) : (latS w days).length = w.items.length := by
  have hfin : (latK w days (ordS w).reverse.length).2 = latS w days := by rw [latK, List.take_length, latS]
  have := (latK_ok hv hd (ordS w).reverse.length (by simp)).2.2.1
  rwa [hfin] at this

set_option maxRecDepth 20000 in
theorem latest_ref (w : SWork) (hw : Sane w) (hv : Well w) (days : Int) (hd : 0 ≤ days ∧ days ≤ 1000000000) : Ret Try.prog .shared 39 [.agg (eWork w), I days] (.sl ((latS w days).map eI)) := by
  have h1 := hw.items
  have hn40 := hv.n40
  have hol := ord_full hv
  have hwl : ((w.items.map eItem).length : Int) = w.items.length := by simp
  have hLl : ((((ordS w).map (nameAt w)).map eS).length : Int) = (ordS w).length := by simp
  have hrl : (ordS w).reverse.length = (ordS w).length := by simp
  refine Ret.of_pwp layOk mixed Go.Proofs.Try.func39 rfl (by decide) rfl rfl ?_
  repeat (refine stp rfl ?_ ?_;·repeat' constructor)
  refine ps_run (o_make rfl rfl rfl rfl rfl rfl rfl rfl (by omega) (by rw [hwl]; show ((8 : Nat) : Int) * _ ≤ _; omega) (by rw [hwl]; omega) ?_)
  repeat (refine stp rfl ?_ ?_;·repeat' constructor)
  apply qst;exact rfl;exact rfl;exact q_call rfl (order_ref' w hw hv) rfl (by repeat' constructor) rfl
  repeat (refine stp rfl ?_ ?_;·repeat' constructor)
  refine pw_loop (fun k => k ≤ (ordS w).length) (fun k => [(1, I days), (2, .ptr 2 1 0 0), (5, .als 14 1 0 w.items.length), (6, .sl (((ordS w).map (nameAt w)).map eS)), (7, I (((ordS w).length : Int) - 1 - k))])
    (fun k => [(2, 1, ⟨28, 9, [eWork w], 2⟩), (14, 1, ⟨3, 1, (latK w days k).2.map eI, 0⟩)]) (fun k => (ordS w).length - k) 0 (Nat.zero_le _) ⟨rfl, rfl, ?_, rfl, ?_, rfl, ?_, trivial⟩ ?_
  · show PV.als 14 1 0 (List.length (List.replicate (Int.toNat (w.items.map eItem).length) _)) = _
    simp
  · show PV.int .i64 (IntKind.i64.wrap ((((ordS w).map (nameAt w)).map eS).length - 1)) = _
    rw [hLl, wrap_i64 (by omega) (by omega)]
    congr 1
    omega
  · show (1, some (Cont.mk 3 1 (List.replicate (Int.toNat (w.items.map eItem).length) _) 0)) = _
    simp [latK, eI]
  intro k s hk
  obtain ⟨hc1, hc2, hc3, hc4⟩ := latK_ok hv hd.1 k hk
  repeat (refine stp rfl ?_ ?_;·repeat' constructor)
  refine pw_cond rfl (fun h => ?_) (fun h => ?_)
  · have hlt : k < (ordS w).length := by have := of_decide_eq_true h; omega
    clear h
    obtain ⟨y0, hy0⟩ := get_lt (show k < (ordS w).reverse.length by omega)
    obtain ⟨i, x, rfl, hx⟩ := rev_known hv hy0
    have hil := (List.getElem?_eq_some_iff.1 hx).1
    have hxm := List.mem_of_getElem? hx
    have hio := hv.item x hxm
    have hlb := leastP_bound hio
    have hy1 : (ordS w)[(((ordS w).length : Int) - 1 - k).toNat]? = some (i : Int) := by
      have := hy0
      rw [List.getElem?_reverse hlt] at this
      rw [show (((ordS w).length : Int) - 1 - k).toNat = (ordS w).length - 1 - k by omega]; exact this
    have hnm := ord_name hv hy1 hx
    have hiu := hv.good.uniq i x hx
    have h24 := itemOf_ret w x.name (by omega)
    rw [hiu] at h24
    have hmin := refMin_eq hv hd.1 hy0 hil
    have hsucc := latK_succ (days := days) hy0 hx
    rw [← hmin] at hsucc
    have be := hc2.get (d := i) (by omega)
    rw [← hmin] at be
    generalize (latK w days k).2 = out at *
    repeat (refine stp rfl ?_ ?_;·repeat' constructor)
    refine pw_draw 7 [24, 25, 26, 27, 28, 29, 8] (by decide +kernel) ?_
    repeat (refine stp rfl ?_ ?_;·repeat' constructor)
    apply qst;exact rfl;exact rfl;exact q_idxm rfl rfl rfl rfl rfl (by omega) hnm rfl
    repeat (refine stp rfl ?_ ?_;·repeat' constructor)
    apply qst;exact rfl;exact rfl;exact q_callP rfl (h24) rfl (by repeat' constructor) rfl rfl
    repeat (refine stp rfl ?_ ?_;·repeat' constructor)
    refine pw_loop (fun j => j ≤ w.items.length) (fun j => [(1, I days), (2, .ptr 2 1 0 0), (5, .als 14 1 0 w.items.length), (6, .sl (((ordS w).map (nameAt w)).map eS)), (7, I (((ordS w).length : Int) - 1 - k)), (8, I i), (9, I (refMin w out i days j)), (10, I j)])
      (fun j => [(2, 1, ⟨28, 9, [eWork w], 2⟩), (14, 1, ⟨3, 1, out.map eI, 0⟩)]) (fun j => w.items.length - j) 0 (Nat.zero_le _) ⟨rfl, rfl, rfl, rfl, rfl, rfl, rfl, rfl, rfl, rfl, trivial⟩ ?_
    intro j s2 hj
    repeat (refine stp rfl ?_ ?_;·repeat' constructor)
    refine pw_cond rfl (fun h => ?_) (fun h => ?_)
    · have hlt' : j < w.items.length := by simpa using h
      clear h
      obtain ⟨z, hz⟩ := get_lt hlt'
      have hzm := List.mem_of_getElem? hz
      have hza := hw.after z hzm
      have hbz : (bef w).getD j [] = aft w z := by rw [List.getD_eq_getElem?_getD, bef, List.getElem?_map, hz]; rfl
      have hrm := refMin_succ w out i days j
      rw [hbz, ← after_any hv hx hzm] at hrm
      have r1 := eI_at (l := out) (i := j) (by omega)
      repeat (refine stp rfl ?_ ?_;·repeat' constructor)
      refine pw_draw 11 [38, 39, 40, 41, 42, 43, 44, 45, 46, 47, 48] (by decide +kernel) ?_
      repeat (refine stp rfl ?_ ?_;·repeat' constructor)
      apply qst;exact rfl;exact rfl;exact q_idxm rfl rfl rfl rfl rfl (by omega) hz rfl
      repeat (refine stp rfl ?_ ?_;·repeat' constructor)
      apply qst;exact rfl;exact rfl;exact q_idxm rfl rfl rfl rfl rfl (by omega) hnm rfl
      repeat (refine stp rfl ?_ ?_;·repeat' constructor)
      apply qst;exact rfl;exact rfl;exact q_callP rfl (among_ret z.after x.name (by omega)) rfl (by repeat' constructor) rfl rfl
      repeat (refine stp rfl ?_ ?_;·repeat' constructor)
      refine pw_cond rfl (fun h => ?_) (fun h => ?_)
      · rw [if_pos h] at hrm
        clear h
        repeat (refine stp rfl ?_ ?_;·repeat' constructor)
        refine ps_q (q_idxA rfl rfl rfl rfl rfl rfl rfl (by omega) (by omega)) ?_
        repeat (refine stp rfl ?_ ?_;·repeat' constructor)
        refine ps_q (q_ldp rfl rfl rfl r1 rfl) ?_
        repeat (refine stp rfl ?_ ?_;·repeat' constructor)
        refine ⟨j + 1, hlt', by omega, rfl, rfl, rfl, rfl, rfl, rfl, ?_, i64_next (by omega) (by omega), rfl, rfl, trivial⟩
        rw [hrm]; rfl
      · rw [if_neg (by rw [h]; simp)] at hrm
        clear h
        repeat (refine stp rfl ?_ ?_;·repeat' constructor)
        refine ⟨j + 1, hlt', by omega, rfl, rfl, rfl, rfl, rfl, rfl, ?_, i64_next (by omega) (by omega), rfl, rfl, trivial⟩
        rw [hrm]; rfl
    · have hge : j = w.items.length := by have : ¬ j < w.items.length := by simpa using h
                                          omega
      subst hge
      clear h
      generalize refMin w out i days w.items.length = v at *
      have hwr : IntKind.i64.wrap (v - leastP x) = v - leastP x := wrap_i64 (by omega) (by omega)
      have r1 := eI_at (l := out) (i := i) (by omega)
      repeat (refine stp rfl ?_ ?_;·repeat' constructor)
      apply qst;exact rfl;exact rfl;exact q_idxm rfl rfl rfl rfl rfl (by omega) hx rfl
      repeat (refine stp rfl ?_ ?_;·repeat' constructor)
      apply qst;exact rfl;exact rfl;exact q_callP rfl (least_ref x hio.modes.1 (by have := hio.modes; omega)) rfl (by repeat' constructor) rfl rfl
      repeat (refine stp rfl ?_ ?_;·repeat' constructor)
      refine ps_q (q_idxA rfl rfl rfl rfl rfl rfl rfl (by omega) (by omega)) ?_
      repeat (refine stp rfl ?_ ?_;·repeat' constructor)
      refine ps_run0 (o_store (kd' := 0) rfl rfl rfl r1 rfl rfl (by repeat' constructor) rfl rfl rfl rfl ?_)
      repeat (refine stp rfl ?_ ?_;·repeat' constructor)
      refine ⟨k + 1, hlt, by omega, rfl, rfl, rfl, rfl, ?_, rfl, ?_, trivial⟩
      · show PV.int .i64 (IntKind.i64.wrap (((ordS w).length : Int) - 1 - k - 1)) = _
        rw [wrap_i64 (by omega) (by omega)]
        congr 1
        omega
      · rw [hsucc]
        show (1, some (Cont.mk 3 1 ((out.map eI).set (0 + (i : Int).toNat) [I (IntKind.i64.wrap (v - leastP x))]) 0)) = (1, some (Cont.mk 3 1 ((out.set i (v - leastP x)).map eI) 0))
        rw [Nat.zero_add, Int.toNat_natCast, List.map_set, hwr]
        rfl
  · have hge : k = (ordS w).length := by have := of_decide_eq_false h; omega
    subst hge
    have hfin : (latK w days (ordS w).length).2 = latS w days := by rw [latK, ← hrl, List.take_length, latS]
    rw [hfin] at hc3 ⊢
    repeat (refine stp rfl ?_ ?_;·repeat' constructor)
    exact end1 rfl rfl rfl ⟨rfl, rfl, by rw [List.length_map, hc3]⟩ rfl

def latestR (w : SWork) (days : Int) : PV := if workE w = 0 then (if days < (earlyS w).2 ∨ 400 < days then .tup [.nil, I 16] else .tup [.sl ((latS w days).map eI), I 0]) else .tup [.nil, I (workE w)]
theorem latest_ret (w : SWork) (hw : Sane w) (days : Int) : Ret Try.prog .shared 34 [.agg (eWork w), I days] (latestR w days) := by
  have h33 := earliest_ret w hw
  by_cases hz : workE w = 0
  · have hv := well_of hz
    rw [earliestR, if_pos hz] at h33
    rw [latestR, if_pos hz]
    obtain ⟨_, he1, he2⟩ := earlyS_ok hw hv
    by_cases hc : days < (earlyS w).2 ∨ 400 < days
    · rw [if_pos hc]
      refine Ret.of_pwp layOk mixed Go.Proofs.Try.func34 rfl (by decide) rfl rfl ?_
      repeat (refine stp rfl ?_ ?_;·repeat' constructor)
      apply qst;exact rfl;exact rfl;exact q_call rfl (h33) rfl (by repeat' constructor) rfl
      repeat (refine stp rfl ?_ ?_;·repeat' constructor)
      (first | refine ps_split rfl rfl (fun h => ?_) (fun h => ?_) | refine pq_split rfl rfl (fun h => ?_) (fun h => ?_) | refine p3_split rfl rfl (fun h => ?_) (fun h => ?_))
      · repeat (refine stp rfl ?_ ?_;·repeat' constructor)
        exact end2 rfl rfl rfl rfl rfl trivial trivial rfl
      · have h1 := of_decide_eq_false h
        clear h
        repeat (refine stp rfl ?_ ?_;·repeat' constructor)
        refine pw_cond rfl (fun h => ?_) (fun h => ?_)
        · repeat (refine stp rfl ?_ ?_;·repeat' constructor)
          exact end2 rfl rfl rfl rfl rfl trivial trivial rfl
        · have h2 := of_decide_eq_false h
          exact absurd hc (by omega)
    · rw [if_neg hc]
      have h86 := latest0_ret w hw hv days (by omega)
      refine Ret.of_pwp layOk mixed Go.Proofs.Try.func34 rfl (by decide) rfl rfl ?_
      repeat (refine stp rfl ?_ ?_;·repeat' constructor)
      apply qst;exact rfl;exact rfl;exact q_call rfl (h33) rfl (by repeat' constructor) rfl
      repeat (refine stp rfl ?_ ?_;·repeat' constructor)
      (first | refine ps_split rfl rfl (fun h => ?_) (fun h => ?_) | refine pq_split rfl rfl (fun h => ?_) (fun h => ?_) | refine p3_split rfl rfl (fun h => ?_) (fun h => ?_))
      · have h1 := of_decide_eq_true h
        exact absurd (.inl h1) hc
      · clear h
        repeat (refine stp rfl ?_ ?_;·repeat' constructor)
        refine pw_cond rfl (fun h => ?_) (fun h => ?_)
        · have h2 := of_decide_eq_true h
          exact absurd (.inr h2) hc
        · clear h
          repeat (refine stp rfl ?_ ?_;·repeat' constructor)
          apply qst;exact rfl;exact rfl;exact q_call rfl (h86) rfl (by repeat' constructor) rfl
          repeat (refine stp rfl ?_ ?_;·repeat' constructor)
          exact end2 rfl rfl rfl rfl rfl trivial trivial rfl
  · rw [earliestR, if_neg hz] at h33
    rw [latestR, if_neg hz]
    generalize workE w = e at *
    refine Ret.of_pwp layOk mixed Go.Proofs.Try.func34 rfl (by decide) rfl rfl ?_
    repeat (refine stp rfl ?_ ?_;·repeat' constructor)
    apply qst;exact rfl;exact rfl;exact q_call rfl (h33) rfl (by repeat' constructor) rfl
    repeat (refine stp rfl ?_ ?_;·repeat' constructor)
    refine pw_cond rfl (fun h => ?_) (fun h => ?_)
    · repeat (refine stp rfl ?_ ?_;·repeat' constructor)
      exact end2 rfl rfl rfl rfl rfl trivial trivial rfl
    · exact absurd (by simpa using h) hz

def critAt (w : SWork) (a b : List Int) (i : Nat) : List Str := if b.getD i 0 = a.getD i 0 then [(itP w i).name] else []
def critN (w : SWork) (a b : List Int) (n : Nat) : List Str := (List.range n).flatMap (critAt w a b)
def critS (w : SWork) : List Str := critN w (earlyS w).1 (latS w (earlyS w).2) w.items.length
theorem critN_len (w : SWork) (a b : List Int) (n : Nat) : (critN w a b n).length ≤ n := by
  have := flatMap_len (f := critAt w a b) (c := 1) (fun i => by unfold critAt; split <;> simp) (List.range n)
  simpa [critN] using this
theorem eI_get {l : List Int} {i : Nat} (h : i < l.length) : l[i]? = some (l.getD i 0) := by rw [List.getD_eq_getElem?_getD, List.getElem?_eq_getElem h]; rfl
def criticalR (w : SWork) : PV := if workE w = 0 then .tup [.sl ((critS w).map eS), I 0] else .tup [.nil, I (workE w)]
theorem critical_ret (w : SWork) (hw : Sane w) : Ret Try.prog .shared 35 [.agg (eWork w)] (criticalR w) := by
  have h33 := earliest_ret w hw
  by_cases hz : workE w = 0
  · have hv := well_of hz
    have hn := hv.n40
    rw [earliestR, if_pos hz] at h33
    rw [criticalR, if_pos hz]
    obtain ⟨hel, he1, he2⟩ := earlyS_ok hw hv
    have h86 := latest0_ret w hw hv (earlyS w).2 ⟨he1, he2⟩
    have hll := latS_len hv he1
    have hcs : critS w = critN w (earlyS w).1 (latS w (earlyS w).2) w.items.length := rfl
    have hcl := critN_len w (earlyS w).1 (latS w (earlyS w).2)
    rw [hcs]
    generalize latS w (earlyS w).2 = b at *
    generalize (earlyS w).2 = all at *
    generalize (earlyS w).1 = a at *
    refine Ret.of_pwp layOk mixed Go.Proofs.Try.func35 rfl (by decide) rfl rfl ?_
    repeat (refine stp rfl ?_ ?_;·repeat' constructor)
    apply qst;exact rfl;exact rfl;exact q_call rfl (h33) rfl (by repeat' constructor) rfl
    repeat (refine stp rfl ?_ ?_;·repeat' constructor)
    apply qst;exact rfl;exact rfl;exact q_call rfl (h86) rfl (by repeat' constructor) rfl
    repeat (refine stp rfl ?_ ?_;·repeat' constructor)
    refine pw_ghost (Ghost.nilreg (k := 7) (t := 7) 9 1 0 rfl rfl) ?_
    refine pw_loop (fun k => k ≤ w.items.length) (fun k => [(1, .ptr 1 1 0 0), (4, .sl (a.map eI)), (7, .als 7 (1 + (critN w a b k).length) 0 ((critN w a b k).map eS).length), (21, .sl (b.map eI)), (22, I w.items.length), (23, I k)])
      (fun k => [(1, 1, ⟨28, 9, [eWork w], 2⟩), (7, 1 + (critN w a b k).length, ⟨9, 1, (critN w a b k).map eS, 0⟩)]) (fun k => w.items.length - k) 0 (Nat.zero_le _) ⟨rfl, rfl, rfl, rfl, ?_, rfl, rfl, rfl, trivial⟩ ?_
    · show I ((b.map eI).length) = _
      rw [List.length_map, hll]
    intro k s hk
    have hck := hcl k
    repeat (refine stp rfl ?_ ?_;·repeat' constructor)
    refine pw_cond rfl (fun h => ?_) (fun h => ?_)
    · have hlt : k < w.items.length := by have := of_decide_eq_true h; omega
      clear h
      obtain ⟨x, hx⟩ := get_lt hlt
      have ha := eI_get (l := a) (i := k) (by omega)
      have hb := eI_get (l := b) (i := k) (by omega)
      have hs : critN w a b (k + 1) = critN w a b k ++ critAt w a b k := range_flatMap _ _
      rw [critAt, itP_at hx] at hs
      generalize critN w a b k = ACC at *
      repeat (refine stp rfl ?_ ?_;·repeat' constructor)
      apply qst;exact rfl;exact rfl;exact q_idxm rfl rfl rfl rfl rfl (by omega) hb rfl
      repeat (refine stp rfl ?_ ?_;·repeat' constructor)
      apply qst;exact rfl;exact rfl;exact q_idxm rfl rfl rfl rfl rfl (by omega) ha rfl
      repeat (refine stp rfl ?_ ?_;·repeat' constructor)
      refine pw_cond rfl (fun h => ?_) (fun h => ?_)
      · have he := of_decide_eq_true h
        clear h
        rw [if_pos he] at hs
        repeat (refine stp rfl ?_ ?_;·repeat' constructor)
        apply qst;exact rfl;exact rfl;exact q_idxm rfl rfl rfl rfl rfl (by omega) hx rfl
        repeat (refine stp rfl ?_ ?_;·repeat' constructor)
        apply qst;exact rfl;exact rfl;exact q_slit rfl rfl rfl rfl rfl rfl rfl rfl rfl rfl (by repeat' constructor) rfl
        repeat (refine stp rfl ?_ ?_;·repeat' constructor)
        refine ps_run (o_app 0 rfl rfl rfl rfl rfl rfl rfl rfl rfl rfl rfl (by repeat' constructor) (by intro row hr; first | (simp at hr; subst hr; rfl) | simp at hr) rfl rfl (by simp; omega) (by simp; omega) ?_)
        repeat (refine stp rfl ?_ ?_;·repeat' constructor)
        refine ⟨k + 1, hlt, by omega, rfl, rfl, ?_, rfl, rfl, i64_next (by omega) (by omega), rfl, ?_, trivial⟩
        · rw [hs]; exact als_snoc eS 7 1 ACC x.name
        · rw [hs]; exact cont_snoc eS 1 9 1 0 ACC x.name
      · have he := of_decide_eq_false h
        clear h
        rw [if_neg he, List.append_nil] at hs
        repeat (refine stp rfl ?_ ?_;·repeat' constructor)
        refine ⟨k + 1, hlt, by omega, rfl, rfl, ?_, rfl, rfl, i64_next (by omega) (by omega), rfl, ?_, trivial⟩
        · rw [hs]; rfl
        · rw [hs]; rfl
    · have hge : k = w.items.length := by have := of_decide_eq_false h; omega
      subst hge
      repeat (refine stp rfl ?_ ?_;·repeat' constructor)
      exact end2 rfl rfl rfl rfl rfl ⟨rfl, rfl, rfl⟩ trivial rfl
  · rw [earliestR, if_neg hz] at h33
    rw [criticalR, if_neg hz]
    generalize workE w = e at *
    refine Ret.of_pwp layOk mixed Go.Proofs.Try.func35 rfl (by decide) rfl rfl ?_
    repeat (refine stp rfl ?_ ?_;·repeat' constructor)
    apply qst;exact rfl;exact rfl;exact q_call rfl (h33) rfl (by repeat' constructor) rfl
    repeat (refine stp rfl ?_ ?_;·repeat' constructor)
    refine pw_cond rfl (fun h => ?_) (fun h => ?_)
    · repeat (refine stp rfl ?_ ?_;·repeat' constructor)
      exact end2 rfl rfl rfl rfl rfl trivial trivial rfl
    · exact absurd (by simpa using h) hz
theorem critical_ref (w : SWork) (hw : Sane w) (hv : Well w) : Ret Try.prog .shared 38 [.agg (eWork w)] (.sl ((critS w).map eS)) := by
  have h36 := earliest_ref w hw hv
  have hn := hv.n40
  obtain ⟨hel, he1, he2⟩ := earlyS_ok hw hv
  have h39 := latest_ref w hw hv (earlyS w).2 ⟨he1, he2⟩
  have hll := latS_len hv he1
  have hcs : critS w = critN w (earlyS w).1 (latS w (earlyS w).2) w.items.length := rfl
  have hcl := critN_len w (earlyS w).1 (latS w (earlyS w).2)
  rw [hcs]
  generalize latS w (earlyS w).2 = b at *
  generalize (earlyS w).2 = all at *
  generalize (earlyS w).1 = a at *
  have hal : ((a.map eI).length : Int) = w.items.length := by simp [hel]
  refine Ret.of_pwp layOk mixed Go.Proofs.Try.func38 rfl (by decide) rfl rfl ?_
  repeat (refine stp rfl ?_ ?_;·repeat' constructor)
  apply qst;exact rfl;exact rfl;exact q_call rfl (h36) rfl (by repeat' constructor) rfl
  repeat (refine stp rfl ?_ ?_;·repeat' constructor)
  apply qst;exact rfl;exact rfl;exact q_call rfl (h39) rfl (by repeat' constructor) rfl
  repeat (refine stp rfl ?_ ?_;·repeat' constructor)
  refine pw_ghost (Ghost.nilreg (k := 6) (t := 6) 9 1 0 rfl rfl) ?_
  refine pw_loop (fun k => k ≤ w.items.length) (fun k => [(1, .ptr 1 1 0 0), (3, .sl (a.map eI)), (5, .sl (b.map eI)), (6, .als 6 (1 + (critN w a b k).length) 0 ((critN w a b k).map eS).length), (7, I k)])
    (fun k => [(1, 1, ⟨28, 9, [eWork w], 2⟩), (6, 1 + (critN w a b k).length, ⟨9, 1, (critN w a b k).map eS, 0⟩)]) (fun k => w.items.length - k) 0 (Nat.zero_le _) ⟨rfl, rfl, rfl, rfl, rfl, rfl, rfl, trivial⟩ ?_
  intro k s hk
  have hck := hcl k
  repeat (refine stp rfl ?_ ?_;·repeat' constructor)
  refine pw_cond rfl (fun h => ?_) (fun h => ?_)
  · have hlt : k < w.items.length := by have := of_decide_eq_true h; omega
    clear h
    obtain ⟨x, hx⟩ := get_lt hlt
    have ha := eI_get (l := a) (i := k) (by omega)
    have hb := eI_get (l := b) (i := k) (by omega)
    have hs : critN w a b (k + 1) = critN w a b k ++ critAt w a b k := range_flatMap _ _
    rw [critAt, itP_at hx] at hs
    generalize critN w a b k = ACC at *
    repeat (refine stp rfl ?_ ?_;·repeat' constructor)
    refine pw_draw 9 [22, 23, 24, 25, 26, 27, 28, 29, 30] (by decide +kernel) ?_
    repeat (refine stp rfl ?_ ?_;·repeat' constructor)
    apply qst;exact rfl;exact rfl;exact q_idxm rfl rfl rfl rfl rfl (by omega) ha rfl
    repeat (refine stp rfl ?_ ?_;·repeat' constructor)
    apply qst;exact rfl;exact rfl;exact q_idxm rfl rfl rfl rfl rfl (by omega) hb rfl
    repeat (refine stp rfl ?_ ?_;·repeat' constructor)
    refine pw_cond rfl (fun h => ?_) (fun h => ?_)
    · have he := of_decide_eq_true h
      clear h
      rw [if_pos he.symm] at hs
      repeat (refine stp rfl ?_ ?_;·repeat' constructor)
      apply qst;exact rfl;exact rfl;exact q_idxm rfl rfl rfl rfl rfl (by omega) hx rfl
      repeat (refine stp rfl ?_ ?_;·repeat' constructor)
      apply qst;exact rfl;exact rfl;exact q_slit rfl rfl rfl rfl rfl rfl rfl rfl rfl rfl (by repeat' constructor) rfl
      repeat (refine stp rfl ?_ ?_;·repeat' constructor)
      refine ps_run (o_app 0 rfl rfl rfl rfl rfl rfl rfl rfl rfl rfl rfl (by repeat' constructor) (by intro row hr; first | (simp at hr; subst hr; rfl) | simp at hr) rfl rfl (by simp; omega) (by simp; omega) ?_)
      repeat (refine stp rfl ?_ ?_;·repeat' constructor)
      refine ⟨k + 1, hlt, by omega, rfl, rfl, rfl, ?_, i64_next (by omega) (by omega), rfl, ?_, trivial⟩
      · rw [hs]; exact als_snoc eS 6 1 ACC x.name
      · rw [hs]; exact cont_snoc eS 1 9 1 0 ACC x.name
    · have he := of_decide_eq_false h
      clear h
      rw [if_neg (Ne.symm he), List.append_nil] at hs
      repeat (refine stp rfl ?_ ?_;·repeat' constructor)
      refine ⟨k + 1, hlt, by omega, rfl, rfl, rfl, ?_, i64_next (by omega) (by omega), rfl, ?_, trivial⟩
      · rw [hs]; rfl
      · rw [hs]; rfl
  · have hge : k = w.items.length := by have := of_decide_eq_false h; omega
    subst hge
    repeat (refine stp rfl ?_ ?_;·repeat' constructor)
    exact end1 rfl rfl rfl ⟨rfl, rfl, rfl⟩ rfl
end Go.Pv

/- What earliest and latest days are to a plan, and to each other. -/
set_option maxHeartbeats 2000000
namespace Go.Pv
attribute [local irreducible] PWP POps PQuiet PSem XThen XBlock RetPost InlPost
open Go.Proofs

def rowN (w : SWork) (i : Nat) : List Int := (bef w).getD i []
def lst (w : SWork) (i : Nat) : Int := leastP (itP w (i : Int))
theorem rowN_at {w : SWork} {i : Nat} {x : SItem} (hx : w.items[i]? = some x) : rowN w i = aft w x := by rw [rowN, List.getD_eq_getElem?_getD, bef, List.getElem?_map, hx]; rfl
theorem lst_at {w : SWork} {i : Nat} {x : SItem} (hx : w.items[i]? = some x) : lst w i = leastP x := by rw [lst, itP_at hx]
theorem rowN_known {w : SWork} (hv : Well w) {i : Nat} (hi : i < w.items.length) : KnownRow w (rowN w i) := by
  obtain ⟨x, hx⟩ := get_lt hi
  rw [rowN_at hx]; exact known_row hv (List.mem_of_getElem? hx)
theorem lst_pos {w : SWork} (hv : Well w) {i : Nat} (hi : i < w.items.length) : 1 ≤ lst w i := by
  obtain ⟨x, hx⟩ := get_lt hi
  rw [lst_at hx]; exact (leastP_bound (hv.item x (List.mem_of_getElem? hx))).1
theorem set_get {l : List Int} {i m : Nat} {v : Int} (hi : i < l.length) : (l.set i v).getD m 0 = if i = m then v else l.getD m 0 := by
  rw [List.getD_eq_getElem?_getD]
  by_cases h : i = m
  · subst h
    rw [List.getElem?_set_self hi, if_pos rfl]; rfl
  · rw [List.getElem?_set_ne h, if_neg h, List.getD_eq_getElem?_getD]
theorem imax_cases (a b : Int) : (imax a b = a ∧ b ≤ a) ∨ (imax a b = b ∧ a < b) := by unfold imax; split <;> omega

structure RowSpec (w : SWork) (i : Nat) (row : List Int) (out new : List Int) : Prop where
  len : new.length = out.length
  other : ∀ m, m ≠ i → new.getD m 0 = out.getD m 0
  ge : out.getD i 0 ≤ new.getD i 0
  all : ∀ m : Nat, (m : Int) ∈ row → out.getD m 0 + lst w m ≤ new.getD i 0
  att : new.getD i 0 = out.getD i 0 ∨ ∃ m : Nat, (m : Int) ∈ row ∧ new.getD i 0 = out.getD m 0 + lst w m
theorem rowE_spec {w : SWork} {i : Nat} {out : List Int} (hi : i < out.length) : ∀ (row : List Int), KnownRow w row → (i : Int) ∉ row → RowSpec w i row out (rowE w i row out) := by
  intro row hr hn
  have : ∀ j, j ≤ row.length → RowSpec w i (row.take j) out (rowE w i (row.take j) out) := by
    intro j
    induction j with
    | zero => intro _; exact ⟨rfl, fun _ _ => rfl, Int.le_refl _, fun m hm => by simp at hm, .inl rfl⟩
    | succ j ih =>
      intro hj
      have ih := ih (by omega)
      obtain ⟨k, hk⟩ := get_lt (show j < row.length by omega)
      obtain ⟨m, y, rfl, hy⟩ := hr k (List.mem_of_getElem? hk)
      have hmi : m ≠ i := fun h => hn (h ▸ List.mem_of_getElem? hk)
      have hs : rowE w i (row.take (j + 1)) out = stepE w i (rowE w i (row.take j) out) m := by rw [rowE, take_snoc hk, List.foldl_append]; rfl
      rw [hs]
      generalize rowE w i (row.take j) out = new at *
      have hil : i < new.length := by rw [ih.len]; exact hi
      have hst : stepE w i new m = new.set i (imax (new.getD i 0) (new.getD m 0 + lst w m)) := by rw [stepE, Int.toNat_natCast, Int.toNat_natCast]; rfl
      have hgi : (stepE w i new m).getD i 0 = imax (new.getD i 0) (out.getD m 0 + lst w m) := by rw [hst, set_get hil, if_pos rfl, ih.other m hmi]
      refine ⟨by rw [hst, List.length_set, ih.len], fun q hq => ?_, ?_, fun q hq => ?_, ?_⟩
      · rw [hst, set_get hil, if_neg (Ne.symm hq)]; exact ih.other q hq
      · rw [hgi]
        have := ih.ge
        rcases imax_cases (new.getD i 0) (out.getD m 0 + lst w m) with ⟨h, _⟩ | ⟨h, _⟩ <;> omega
      · rw [hgi]
        rw [take_snoc hk, List.mem_append] at hq
        rcases hq with hq | hq
        · have := ih.all q hq
          rcases imax_cases (new.getD i 0) (out.getD m 0 + lst w m) with ⟨h, _⟩ | ⟨h, _⟩ <;> omega
        · have : q = m := by simp at hq; omega
          subst this
          rcases imax_cases (new.getD i 0) (out.getD q 0 + lst w q) with ⟨h, _⟩ | ⟨h, _⟩ <;> omega
      · rw [hgi]
        rcases imax_cases (new.getD i 0) (out.getD m 0 + lst w m) with ⟨h, _⟩ | ⟨h, _⟩
        · rw [h]
          rcases ih.att with h1 | ⟨q, hq, h1⟩
          · exact .inl h1
          · exact .inr ⟨q, by rw [take_snoc hk, List.mem_append]; exact .inl hq, h1⟩
        · exact .inr ⟨m, by rw [take_snoc hk, List.mem_append]; exact .inr (by simp), h⟩
  have := this row.length (Nat.le_refl _)
  rwa [List.take_length] at this

/-- What stands in the order, and what it waits for. -/
theorem ord_step {w : SWork} (hv : Well w) {k : Nat} (hk : k < (ordS w).length) : ∃ (i : Nat) (x : SItem), (ordS w)[k]? = some (i : Int) ∧ w.items[i]? = some x ∧ (i : Int) ∉ (ordS w).take k ∧ (∀ m ∈ rowN w i, m ∈ (ordS w).take k) ∧ (i : Int) ∉ rowN w i := by
  obtain ⟨y, hy⟩ := get_lt hk
  obtain ⟨i, x, rfl, hx⟩ := (refOrd_eq hv.good).2 y (List.mem_of_getElem? hy)
  have ht := topo_ord w
  have hni : (i : Int) ∉ (ordS w).take k := by
    intro h
    rw [List.mem_take_iff_getElem] at h
    obtain ⟨q, hq, hqi⟩ := h
    have := nodup_pos ht.nodup (show (ordS w)[q]? = some (i : Int) by rw [List.getElem?_eq_getElem (by omega), hqi]) hy
    omega
  have hrow : ∀ m ∈ rowN w i, m ∈ (ordS w).take k := fun m hm => ht.pre k _ hy m (by rw [Int.toNat_natCast]; exact hm)
  exact ⟨i, x, hy, hx, hni, hrow, fun h => hni (hrow _ h)⟩
structure ESpec (w : SWork) (K : Nat) (out : List Int) (last : Int) : Prop where
  len : out.length = w.items.length
  none : ∀ i : Nat, (i : Int) ∉ (ordS w).take K → out.getD i 0 = 0
  all : ∀ i : Nat, (i : Int) ∈ (ordS w).take K → ∀ m : Nat, (m : Int) ∈ rowN w i → out.getD m 0 + lst w m ≤ out.getD i 0
  nonneg : ∀ i : Nat, 0 ≤ out.getD i 0
  att : ∀ i : Nat, out.getD i 0 = 0 ∨ ∃ m : Nat, (m : Int) ∈ rowN w i ∧ out.getD i 0 = out.getD m 0 + lst w m
  le : ∀ i : Nat, (i : Int) ∈ (ordS w).take K → out.getD i 0 + lst w i ≤ last
  last0 : (last = 0 ∧ K = 0) ∨ ∃ i : Nat, (i : Int) ∈ (ordS w).take K ∧ last = out.getD i 0 + lst w i
theorem early_spec {w : SWork} (hv : Well w) : ∀ K, K ≤ (ordS w).length → ESpec w K (earlyK2 w K).1 (earlyK2 w K).2
  | 0, _ => by
    have hz : ∀ i : Nat, (earlyK2 w 0).1.getD i 0 = 0 := fun i => by
      show (List.replicate w.items.length (0 : Int)).getD i 0 = 0
      rw [List.getD_eq_getElem?_getD, List.getElem?_replicate]; split <;> rfl
    exact ⟨by simp [earlyK2], fun i _ => hz i, fun i h => by simp at h, fun i => by rw [hz i]; exact Int.le_refl _, fun i => .inl (hz i), fun i h => by simp at h, .inl ⟨rfl, rfl⟩⟩
  | K + 1, hK => by
    have ih := early_spec hv K (by omega)
    obtain ⟨i, x, hy, hx, hni, hrow, hself⟩ := ord_step hv (show K < (ordS w).length by omega)
    have hil := (List.getElem?_eq_some_iff.1 hx).1
    rw [earlyK2_succ hy hx, ← rowN_at hx, ← lst_at hx]
    have hrs := rowE_spec (w := w) (i := i) (out := (earlyK2 w K).1) (by rw [ih.len]; exact hil) (rowN w i) (rowN_known hv hil) hself
    generalize (earlyK2 w K).1 = out at *
    generalize (earlyK2 w K).2 = last at *
    generalize rowE w i (rowN w i) out = new at *
    have hi0 : out.getD i 0 = 0 := ih.none i hni
    have hne : ∀ j : Nat, (j : Int) ∈ (ordS w).take K → j ≠ i := fun j hj h => hni (h ▸ hj)
    have hmem : ∀ j : Nat, (j : Int) ∈ (ordS w).take (K + 1) ↔ (j : Int) ∈ (ordS w).take K ∨ j = i := fun j => by
      rw [take_snoc hy, List.mem_append, List.mem_singleton]
      constructor
      · rintro (h | h)
        · exact .inl h
        · exact .inr (by omega)
      · rintro (h | h)
        · exact .inl h
        · exact .inr (by rw [h])
    have hrne : ∀ m : Nat, (m : Int) ∈ rowN w i → m ≠ i := fun m hm => hne m (hrow _ hm)
    show ESpec w (K + 1) new (imax last (new.getD i 0 + lst w i))
    refine ⟨by rw [hrs.len, ih.len], fun j hj => ?_, fun j hj m hm => ?_, fun j => ?_, fun j => ?_, fun j hj => ?_, .inr ?_⟩
    · rw [hmem] at hj
      rw [hrs.other j (fun h => hj (.inr h))]
      exact ih.none j fun h => hj (.inl h)
    · rw [hmem] at hj
      rcases hj with hj | rfl
      · have hmt : (m : Int) ∈ (ordS w).take K := by
          rw [List.mem_take_iff_getElem] at hj
          obtain ⟨q, hq, hqj⟩ := hj
          have := (topo_ord w).pre q _ (show (ordS w)[q]? = some (j : Int) by rw [List.getElem?_eq_getElem (by omega), hqj]) m (by rw [Int.toNat_natCast]; exact hm)
          exact List.mem_of_mem_take (by rw [List.take_take, Nat.min_eq_left (by omega : q ≤ K)]; exact this : (m : Int) ∈ ((ordS w).take K).take q)
        rw [hrs.other j (hne j hj), hrs.other m (hne m hmt)]
        exact ih.all j hj m hm
      · rw [hrs.other m (hrne m hm)]
        exact hrs.all m hm
    · by_cases hji : j = i
      · subst hji
        have := hrs.ge
        omega
      · rw [hrs.other j hji]; exact ih.nonneg j
    · by_cases hji : j = i
      · subst hji
        rcases hrs.att with h | ⟨m, hm, h⟩
        · exact .inl (by omega)
        · exact .inr ⟨m, hm, by rw [h, hrs.other m (hrne m hm)]⟩
      · rw [hrs.other j hji]
        rcases ih.att j with h | ⟨m, hm, h⟩
        · exact .inl h
        · by_cases hjt : (j : Int) ∈ (ordS w).take K
          · have hmt : m ≠ i := by
              rw [List.mem_take_iff_getElem] at hjt
              obtain ⟨q, hq, hqj⟩ := hjt
              have := (topo_ord w).pre q _ (show (ordS w)[q]? = some (j : Int) by rw [List.getElem?_eq_getElem (by omega), hqj]) m (by rw [Int.toNat_natCast]; exact hm)
              exact hne m (List.mem_of_mem_take (by rw [List.take_take, Nat.min_eq_left (by omega : q ≤ K)]; exact this : (m : Int) ∈ ((ordS w).take K).take q))
            exact .inr ⟨m, hm, by rw [hrs.other m hmt]; exact h⟩
          · exact .inl (ih.none j hjt)
    · rw [hmem] at hj
      rcases hj with hj | rfl
      · rw [hrs.other j (hne j hj)]
        have := ih.le j hj
        rcases imax_cases last (new.getD i 0 + lst w i) with ⟨h, _⟩ | ⟨h, _⟩ <;> omega
      · rcases imax_cases last (new.getD j 0 + lst w j) with ⟨h, _⟩ | ⟨h, _⟩ <;> omega
    · rcases imax_cases last (new.getD i 0 + lst w i) with ⟨h, hle⟩ | ⟨h, _⟩
      · rw [h]
        rcases ih.last0 with ⟨h0, _⟩ | ⟨j, hj, h1⟩
        · have := lst_pos hv hil
          have := hrs.ge
          omega
        · exact ⟨j, (hmem j).2 (.inl hj), by rw [hrs.other j (hne j hj)]; exact h1⟩
      · exact ⟨i, (hmem i).2 (.inr rfl), h⟩
/-- The earliest days of all items. -/
theorem early_all {w : SWork} (hv : Well w) : ESpec w w.items.length (earlyS w).1 (earlyS w).2 := by
  have := early_spec hv (ordS w).length (Nat.le_refl _)
  have hfin : earlyK2 w (ordS w).length = earlyS w := by rw [earlyK2, List.take_length, earlyS]
  rw [hfin, ord_full hv] at this
  exact this
theorem take_all {w : SWork} (hv : Well w) {i : Nat} (hi : i < w.items.length) : (i : Int) ∈ (ordS w).take w.items.length := by
  rw [← ord_full hv, List.take_length]; exact ord_all hv hi

/-- Days that fit the order are not before the earliest ones. -/
theorem early_le {w : SWork} (hv : Well w) {D : Nat → Int} (h0 : ∀ i, i < w.items.length → 0 ≤ D i) (h1 : ∀ i m : Nat, i < w.items.length → m < w.items.length → (m : Int) ∈ rowN w i → D m + lst w m ≤ D i) : ∀ i, i < w.items.length → (earlyS w).1.getD i 0 ≤ D i := by
  have hs := early_all hv
  have key : ∀ (f i : Nat), i < w.items.length → ((earlyS w).1.getD i 0).toNat ≤ f → (earlyS w).1.getD i 0 ≤ D i := by
    intro f
    induction f with
    | zero =>
      intro i hi hf
      have := hs.nonneg i
      have := h0 i hi
      omega
    | succ f ih =>
      intro i hi hf
      rcases hs.att i with h | ⟨m, hm, h⟩
      · rw [h]; exact h0 i hi
      · obtain ⟨q, y, hq, hy⟩ := rowN_known hv hi _ hm
        have hml : m < w.items.length := by have := (List.getElem?_eq_some_iff.1 hy).1; omega
        have hl := lst_pos hv hml
        have hnn := hs.nonneg m
        have := ih m hml (by omega)
        have := h1 i m hi hml hm
        omega
  exact fun i hi => key _ i hi (Nat.le_refl _)

/-! ### The latest days -/
theorem rev_pos {w : SWork} (hv : Well w) {i : Nat} (hi : i < w.items.length) : ∃ k, k < (ordS w).reverse.length ∧ (ordS w).reverse[k]? = some (i : Int) := by
  have : (i : Int) ∈ (ordS w).reverse := by rw [List.mem_reverse]; exact ord_all hv hi
  obtain ⟨k, hk, h⟩ := List.getElem_of_mem this
  exact ⟨k, hk, by rw [List.getElem?_eq_getElem hk, h]⟩
theorem rev_not {w : SWork} {k i : Nat} (hk : (ordS w).reverse[k]? = some (i : Int)) : (i : Int) ∉ (ordS w).reverse.take k := by
  have hnd : (ordS w).reverse.Nodup := List.pairwise_reverse.2 ((topo_ord w).nodup.imp fun h => Ne.symm h)
  intro h
  rw [List.mem_take_iff_getElem] at h
  obtain ⟨q, hq, hqi⟩ := h
  have := nodup_pos hnd (show (ordS w).reverse[q]? = some (i : Int) by rw [List.getElem?_eq_getElem (by omega), hqi]) hk
  omega
theorem latK_out {w : SWork} (hv : Well w) {days : Int} (hd : 0 ≤ days) {k i : Nat} {x : SItem} (hk : (ordS w).reverse[k]? = some (i : Int)) (hx : w.items[i]? = some x) (j : Nat) :
    (latK w days (k + 1)).2.getD j 0 = if i = j then (latK w days k).1.getD i 0 - lst w i else (latK w days k).2.getD j 0 := by
  have hkl : k < (ordS w).length := by have := (List.getElem?_eq_some_iff.1 hk).1; simpa using this
  obtain ⟨_, _, h3, _⟩ := latK_ok hv hd k (by omega)
  rw [latK_succ hk hx]
  show ((latK w days k).2.set i _).getD j 0 = _
  rw [set_get (by have := (List.getElem?_eq_some_iff.1 hx).1; omega), lst_at hx]
/-- What is set stays. -/
theorem latK_keep {w : SWork} (hv : Well w) {days : Int} (hd : 0 ≤ days) {k j : Nat} (hj : (j : Int) ∈ (ordS w).reverse.take k) : ∀ q, k + q ≤ (ordS w).length → (latK w days (k + q)).2.getD j 0 = (latK w days k).2.getD j 0
  | 0, _ => rfl
  | q + 1, hq => by
    obtain ⟨y, hy⟩ := get_lt (show k + q < (ordS w).reverse.length by simp; omega)
    obtain ⟨i, x, rfl, hx⟩ := rev_known hv hy
    rw [← Nat.add_assoc, latK_out hv hd hy hx, if_neg, latK_keep hv hd hj q (by omega)]
    rintro rfl
    refine rev_not hy ?_
    have : (i : Int) ∈ ((ordS w).reverse.take (k + q)).take k := by rw [List.take_take, Nat.min_eq_left (by omega)]; exact hj
    exact List.mem_of_mem_take this
theorem latS_eq (w : SWork) (days : Int) : (latK w days (ordS w).length).2 = latS w days := by
  have hrl : (ordS w).reverse.length = (ordS w).length := by simp
  rw [latK, ← hrl, List.take_length, latS]
/-- The latest day of an item, when it is reckoned. -/
theorem lat_at {w : SWork} (hv : Well w) {days : Int} (hd : 0 ≤ days) {k i : Nat} (hk : (ordS w).reverse[k]? = some (i : Int)) : (latS w days).getD i 0 = (latK w days k).1.getD i 0 - lst w i := by
  obtain ⟨q, x, he, hx⟩ := rev_known hv hk
  have : i = q := by omega
  subst this
  have hkl : k < (ordS w).length := by have := (List.getElem?_eq_some_iff.1 hk).1; simpa using this
  have := latK_keep hv hd (k := k + 1) (j := i) (by rw [take_snoc hk]; simp) ((ordS w).length - (k + 1)) (by omega)
  rw [show k + 1 + ((ordS w).length - (k + 1)) = (ordS w).length by omega, latS_eq, latK_out hv hd hk hx, if_pos rfl] at this
  exact this
theorem lat_le {w : SWork} (hv : Well w) {days : Int} (hd : 0 ≤ days) {i : Nat} (hi : i < w.items.length) : (latS w days).getD i 0 + lst w i ≤ days ∧ ∀ j, j < w.items.length → (i : Int) ∈ rowN w j → (latS w days).getD i 0 + lst w i ≤ (latS w days).getD j 0 := by
  obtain ⟨k, hk, hki⟩ := rev_pos hv hi
  have hkl : k < (ordS w).length := by simpa using hk
  have hl := lat_at hv hd hki
  obtain ⟨h1, h2⟩ := (le_latK hv hd hi ((latK w days k).1.getD i 0) k (by omega)).1 (Int.le_refl _)
  refine ⟨by omega, fun j hj hij => ?_⟩
  have hjt := rev_before hv hki hj hij
  have := h2 j hjt hij
  have hkeep := latK_keep hv hd hjt ((ordS w).length - k) (by omega)
  rw [show k + ((ordS w).length - k) = (ordS w).length by omega, latS_eq] at hkeep
  omega
/-- Days that fit the order and end in time are not behind the latest ones. -/
theorem lat_ge {w : SWork} (hv : Well w) {days : Int} (hd : 0 ≤ days) {D E : Nat → Int} (hE : ∀ m, m < w.items.length → E m ≤ days) (hDE : ∀ m, m < w.items.length → D m + lst w m ≤ E m)
    (h1 : ∀ i m : Nat, i < w.items.length → m < w.items.length → (m : Int) ∈ rowN w i → E m ≤ D i) : ∀ i, i < w.items.length → D i ≤ (latS w days).getD i 0 := by
  have key : ∀ k, k ≤ (ordS w).length → ∀ j : Nat, (j : Int) ∈ (ordS w).reverse.take k → D j ≤ (latK w days k).2.getD j 0 := by
    intro k
    induction k with
    | zero => intro _ j hj; simp at hj
    | succ k ih =>
      intro hk j hj
      have ih := ih (by omega)
      obtain ⟨y, hy⟩ := get_lt (show k < (ordS w).reverse.length by simp; omega)
      obtain ⟨i, x, rfl, hx⟩ := rev_known hv hy
      have hil := (List.getElem?_eq_some_iff.1 hx).1
      rw [latK_out hv hd hy hx]
      by_cases hij : i = j
      · subst hij
        rw [if_pos rfl]
        have : E i ≤ (latK w days k).1.getD i 0 := by
          rw [le_latK hv hd hil _ k (by omega)]
          refine ⟨hE i hil, fun q hq hiq => ?_⟩
          obtain ⟨q', y, he, hyq⟩ := (refOrd_eq hv.good).2 (q : Int) (by have := List.mem_of_mem_take hq; simpa using this)
          have hql : q < w.items.length := by have := (List.getElem?_eq_some_iff.1 hyq).1; omega
          exact Int.le_trans (h1 q i hql hil hiq) (ih q hq)
        have := hDE i hil
        omega
      · rw [if_neg hij]
        rw [take_snoc hy, List.mem_append] at hj
        rcases hj with hj | hj
        · exact ih j hj
        · simp at hj; omega
  intro i hi
  have := key (ordS w).length (Nat.le_refl _) i (by
    have : (ordS w).length = (ordS w).reverse.length := by simp
    rw [this, List.take_length, List.mem_reverse]; exact ord_all hv hi)
  rwa [latS_eq] at this

/-! ### Critical items -/
theorem crit_le {w : SWork} (hw : Sane w) (hv : Well w) {i : Nat} (hi : i < w.items.length) : (earlyS w).1.getD i 0 ≤ (latS w (earlyS w).2).getD i 0 := by
  have hs := early_all hv
  have hn := (earlyS_ok hw hv).2.1
  refine lat_ge hv hn (D := fun i => (earlyS w).1.getD i 0) (E := fun i => (earlyS w).1.getD i 0 + lst w i) (fun m hm => hs.le m (take_all hv hm)) (fun m _ => Int.le_refl _) (fun i m hi _ hmi => hs.all i (take_all hv hi) m hmi) i hi
theorem crit_end {w : SWork} (hw : Sane w) (hv : Well w) (h0 : 0 < w.items.length) : ∃ i, i < w.items.length ∧ (latS w (earlyS w).2).getD i 0 = (earlyS w).1.getD i 0 ∧ (earlyS w).1.getD i 0 + lst w i = (earlyS w).2 := by
  have hs := early_all hv
  have hn := (earlyS_ok hw hv).2.1
  rcases hs.last0 with ⟨_, h⟩ | ⟨i, hi, h⟩
  · omega
  · obtain ⟨q, y, he, hyq⟩ := (refOrd_eq hv.good).2 (i : Int) (List.mem_of_mem_take hi)
    have hil : i < w.items.length := by have := (List.getElem?_eq_some_iff.1 hyq).1; omega
    have h1 := crit_le hw hv hil
    have h2 := (lat_le hv hn hil).1
    exact ⟨i, hil, by omega, by omega⟩
theorem crit_begin {w : SWork} (hw : Sane w) (hv : Well w) (h0 : 0 < w.items.length) : ∃ i, i < w.items.length ∧ (latS w (earlyS w).2).getD i 0 = (earlyS w).1.getD i 0 ∧ (earlyS w).1.getD i 0 = 0 := by
  have hs := early_all hv
  have hn := (earlyS_ok hw hv).2.1
  have key : ∀ (f i : Nat), i < w.items.length → (latS w (earlyS w).2).getD i 0 = (earlyS w).1.getD i 0 → ((earlyS w).1.getD i 0).toNat ≤ f → ∃ i, i < w.items.length ∧ (latS w (earlyS w).2).getD i 0 = (earlyS w).1.getD i 0 ∧ (earlyS w).1.getD i 0 = 0 := by
    intro f
    induction f with
    | zero =>
      intro i hi hc hf
      have := hs.nonneg i
      exact ⟨i, hi, hc, by omega⟩
    | succ f ih =>
      intro i hi hc hf
      rcases hs.att i with h | ⟨m, hm, h⟩
      · exact ⟨i, hi, hc, h⟩
      · obtain ⟨q, y, hq, hy⟩ := rowN_known hv hi _ hm
        have hml : m < w.items.length := by have := (List.getElem?_eq_some_iff.1 hy).1; omega
        have hl := lst_pos hv hml
        have hnn := hs.nonneg m
        have h1 := crit_le hw hv hml
        have h2 := (lat_le hv hn hml).2 i hi hm
        exact ih m hml (by omega) (by omega)
  obtain ⟨i, hi, hc, _⟩ := crit_end hw hv h0
  exact key _ i hi hc (Nat.le_refl _)
end Go.Pv

/- What a plan is to the order, and to the days. -/
set_option maxHeartbeats 2000000
namespace Go.Pv
attribute [local irreducible] PWP POps PQuiet PSem XThen XBlock RetPost InlPost
open Go.Proofs

theorem leastF_le : ∀ (l : List SMode) (a : Int), l.foldl leastF a ≤ a ∧ ∀ m ∈ l, l.foldl leastF a ≤ m.days
  | [], a => ⟨Int.le_refl _, fun m hm => by simp at hm⟩
  | m :: l, a => by
    obtain ⟨h1, h2⟩ := leastF_le l (leastF a m)
    have h3 : leastF a m ≤ a ∧ leastF a m ≤ m.days := by unfold leastF imin; split <;> omega
    rw [List.foldl_cons]
    refine ⟨by omega, fun q hq => ?_⟩
    rcases List.mem_cons.1 hq with rfl | hq
    · omega
    · exact h2 q hq
theorem leastP_le {x : SItem} {m : SMode} (h : m ∈ x.modes) : leastP x ≤ m.days := (leastF_le _ _).2 m h
theorem durF_le (B : Int) : ∀ (l : List (SItem × SPl)) (n : Int), n ≤ B → (∀ q ∈ l, q.2.on = true → endP q.1 q.2 ≤ B) → l.foldl durF n ≤ B
  | [], n, h, _ => h
  | a :: l, n, h, hl => by
    rw [List.foldl_cons]
    refine durF_le B l _ ?_ fun q hq => hl q (by simp [hq])
    unfold durF
    split
    · rw [imax_le]; exact ⟨h, hl a (by simp) ‹_›⟩
    · exact h

theorem prs_get2 {w : SWork} {l : List SPl} {k : Nat} {a : SItem × SPl} (h : (prs w l)[k]? = some a) : w.items[k]? = some a.1 ∧ l[k]? = some a.2 := by
  obtain ⟨x, p⟩ := a
  rw [prs, List.getElem?_zip_eq_some] at h
  exact h

/-- A plan: no breaches. -/
structure PlanOk (w : SWork) (l : List SPl) : Prop where
  full : Full w l
  early : ∀ i m : Nat, i < w.items.length → m < w.items.length → (m : Int) ∈ rowN w i → endP (itP w m) (slP l m) ≤ (slP l i).day
  crowd : ∀ t ∈ w.trades, (loadA w l t.name).foldl imax 0 ≤ t.crew
  last : ∀ i : Nat, i < w.items.length → endP (itP w i) (slP l i) ≤ w.last
theorem planOk_of {w : SWork} {s : List SSlot} (h : planE w s = 0) : Well w ∧ PlanOk w (placed w s) := by
  obtain ⟨h1, h2⟩ := planE_zero h
  obtain ⟨hv, hf⟩ := full_of h1
  refine ⟨hv, ?_⟩
  generalize placed w s = l at *
  have hall : ∀ p ∈ partsP w l, p = [] := List.flatten_eq_nil_iff.1 h2
  have e1 := hall (earlyP w l) (by simp [partsP])
  have e2 := hall (crowdP w l) (by simp [partsP])
  have e5 := hall (lateP w l) (by simp [partsP])
  refine ⟨hf, fun i m hi hm him => ?_, fun t ht => ?_, fun i hi => ?_⟩
  · rw [earlyP, earlyN, List.flatMap_eq_nil_iff] at e1
    have := e1 i (List.mem_range.2 hi)
    rw [List.flatMap_eq_nil_iff] at this
    have := this _ him
    unfold earlyAt at this
    split at this
    · cases this
    · omega
  · obtain ⟨i, hi, rfl⟩ := List.getElem_of_mem ht
    rw [crowdP, atN, List.flatMap_eq_nil_iff] at e2
    have := e2 i (List.mem_range.2 hi)
    rw [crowdAt, List.getElem?_eq_getElem hi] at this
    dsimp only at this
    split at this
    · cases this
    · rw [most_eq (same_A hf _)] at *
      omega
  · rw [lateP, atN, List.flatMap_eq_nil_iff] at e5
    have := e5 i (List.mem_range.2 hi)
    unfold lateAt at this
    split at this
    · cases this
    · omega
section
variable {w : SWork} {l : List SPl}
theorem PlanOk.day (h : PlanOk w l) (_hv : Well w) {i : Nat} (hi : i < w.items.length) : 0 ≤ (slP l i).day ∧ (slP l i).day + lst w i ≤ endP (itP w i) (slP l i) ∧ endP (itP w i) (slP l i) ≤ durP w l := by
  obtain ⟨x, hx⟩ := get_lt hi
  obtain ⟨p, hp⟩ := get_lt (show i < l.length by rw [h.full.len]; exact hi)
  have hok := h.full.at_ hx hp
  rw [slP_at hp, itP_at hx, lst_at hx]
  refine ⟨hok.day.1, ?_, end_le h.full hx hp⟩
  have := leastP_le (List.mem_of_getElem? hok.mode)
  unfold endP
  omega
theorem PlanOk.dur (h : PlanOk w l) (hv : Well w) : 0 ≤ durP w l ∧ durP w l ≤ 400 := by
  refine ⟨(durP_bound h.full.toPlan).1, durF_le 400 (prs w l) 0 (by omega) fun q hq _ => ?_⟩
  obtain ⟨k, hk, rfl⟩ := List.getElem_of_mem hq
  obtain ⟨h1, h2⟩ := prs_get2 (List.getElem?_eq_getElem hk)
  have hi := (List.getElem?_eq_some_iff.1 h1).1
  have := h.last k hi
  rw [itP_at h1, slP_at h2] at this
  have := hv.last
  omega
theorem PlanOk.early_le (h : PlanOk w l) (hv : Well w) {i : Nat} (hi : i < w.items.length) : (earlyS w).1.getD i 0 ≤ (slP l i).day :=
  Pv.early_le hv (D := fun i => (slP l i).day) (fun i hi => (h.day hv hi).1) (fun i m hi hm him => Int.le_trans (h.day hv hm).2.1 (h.early i m hi hm him)) i hi
theorem PlanOk.early_dur (h : PlanOk w l) (hv : Well w) : (earlyS w).2 ≤ durP w l := by
  have hs := early_all hv
  rcases hs.last0 with ⟨h0, _⟩ | ⟨i, hi, h1⟩
  · rw [h0]; exact (h.dur hv).1
  · obtain ⟨q, y, he, hyq⟩ := (refOrd_eq hv.good).2 (i : Int) (List.mem_of_mem_take hi)
    have hil : i < w.items.length := by have := (List.getElem?_eq_some_iff.1 hyq).1; omega
    have := h.early_le hv hil
    have := h.day hv hil
    omega
theorem PlanOk.late_ge (h : PlanOk w l) (hv : Well w) {i : Nat} (hi : i < w.items.length) : (slP l i).day ≤ (latS w (durP w l)).getD i 0 :=
  Pv.lat_ge hv (h.dur hv).1 (D := fun i => (slP l i).day) (E := fun i => endP (itP w i) (slP l i)) (fun m hm => (h.day hv hm).2.2) (fun m hm => (h.day hv hm).2.1) (fun i m hi hm him => h.early i m hi hm him) i hi
end

theorem slot_pl {w : SWork} {s : List SSlot} (h : slotsE w s = 0) {k : Nat} {sl : SSlot} (hk : s[k]? = some sl) : pl s sl.item = ⟨sl.mode, sl.day, true⟩ := by
  have hn := slots_nodup h
  have hm := List.mem_of_getElem? hk
  cases hf : s.find? (·.item == sl.item) with
  | none =>
    rw [List.find?_eq_none] at hf
    exact absurd (by simp) (hf sl hm)
  | some a =>
    have hfl := filter_nodup s _ a hn hf
    have : sl ∈ s.filter (·.item == sl.item) := by simp [hm]
    rw [hfl, List.mem_singleton] at this
    rw [pl, hf, ← this]
/-- A slot, its item's place, and how it is laid. -/
theorem slot_at {w : SWork} {s : List SSlot} (h : slE w s = 0) {k : Nat} {sl : SSlot} (hk : s[k]? = some sl) : ∃ (i : Nat) (x : SItem), idx w.items (·.name == sl.item) = i ∧ w.items[i]? = some x ∧ slP (placed w s) i = ⟨sl.mode, sl.day, true⟩ := by
  obtain ⟨_, h2⟩ := slE_parts h
  obtain ⟨g1, _⟩ := slot_of h2 hk
  obtain ⟨x, hx, hn⟩ := idx_lt g1
  have hn : x.name = sl.item := by simpa using hn
  refine ⟨(idx w.items (·.name == sl.item)).toNat, x, (Int.toNat_of_nonneg g1).symm, hx, ?_⟩
  rw [slP_at (p := pl s x.name) (by rw [placed, List.getElem?_map, hx]; rfl), hn]
  exact slot_pl h2 hk
theorem critS_mem {w : SWork} {nm : Str} (h : nm ∈ critS w) : ∃ (i : Nat) (x : SItem), w.items[i]? = some x ∧ x.name = nm ∧ (latS w (earlyS w).2).getD i 0 = (earlyS w).1.getD i 0 := by
  obtain ⟨i, hi, hm⟩ := List.mem_flatMap.1 h
  obtain ⟨x, hx⟩ := get_lt (List.mem_range.1 hi)
  unfold critAt at hm
  rw [itP_at hx] at hm
  split at hm
  · simp at hm; exact ⟨i, x, hx, hm.symm, ‹_›⟩
  · simp at hm
theorem mem_critS {w : SWork} {i : Nat} {x : SItem} (hx : w.items[i]? = some x) (h : (latS w (earlyS w).2).getD i 0 = (earlyS w).1.getD i 0) : x.name ∈ critS w := by
  refine List.mem_flatMap.2 ⟨i, List.mem_range.2 (List.getElem?_eq_some_iff.1 hx).1, ?_⟩
  rw [critAt, if_pos h, itP_at hx]; simp
end Go.Pv

/- Plain work. -/
set_option maxHeartbeats 2000000
namespace Go.Pv
attribute [local irreducible] PWP POps PQuiet PSem XThen XBlock RetPost InlPost
open Go.Proofs

def longS (s : Str) : Bool := decide (40 < s.length)
def badT (t : STrade) : Bool := longS t.name
def badS (x : SSpace) : Bool := longS x.name || decide (20 < x.next.length) || x.next.any longS
def badI (x : SItem) : Bool := longS x.name || longS x.trade || longS x.space || decide (6 < x.modes.length) || decide (12 < x.after.length) || x.after.any longS
def badW (w : SWork) (most : Int) : Bool := decide (8 < w.trades.length) || decide (14 < w.spaces.length) || decide (32 < w.excls.length) || decide (22 < w.outs.length) || (decide (most < w.items.length) && decide (w.items.length ≤ 40)) || decide (45 < w.items.length)
def plainB (w : SWork) (most : Int) : Bool := !(badW w most || w.trades.any badT || w.spaces.any badS || w.items.any badI)

theorem int_lt {a b : Nat} : decide ((a : Int) < (b : Int)) = decide (a < b) := by
  by_cases h : a < b
  · rw [decide_eq_true h, decide_eq_true (by omega)]
  · rw [decide_eq_false h, decide_eq_false (by omega)]

theorem plain_ret (w : SWork) (most : Int) : Ret Try.prog .shared 11 [.agg (eWork w), I most] (.bool (plainB w most)) := by
  have e1 : (w.trades.map eTrade).length = w.trades.length := by simp
  have e2 : (w.spaces.map eSpace).length = w.spaces.length := by simp
  have e3 : (w.excls.map eExcl).length = w.excls.length := by simp
  have e4 : (w.outs.map eOut).length = w.outs.length := by simp
  have e5 : (w.items.map eItem).length = w.items.length := by simp
  refine Ret.of_pwp layOk mixed Go.Proofs.Try.func11 rfl (by decide) rfl rfl ?_
  repeat (refine stp rfl ?_ ?_;·repeat' constructor)
  refine ps_cut 100 [(2, .ptr 2 1 0 0), (49, .bool (badW w most))] [(2, 1, ⟨28, 9, [eWork w], 2⟩)] ?_ ?_
  · repeat' (first|(refine stp rfl ?_ ?_;·repeat' constructor)|refine ps_split rfl rfl (fun h => ?_) (fun h => ?_)|refine pq_split rfl rfl (fun h => ?_) (fun h => ?_)|refine p3_split rfl rfl (fun h => ?_) (fun h => ?_))
    all_goals
      refine ⟨rfl, congrArg PV.bool ?_, rfl, trivial⟩
      simp only [e1, e2, e3, e4, e5] at *
      rw [Bool.eq_iff_iff]
      simp only [badW, Bool.or_eq_true, Bool.and_eq_true, decide_eq_true_eq, decide_eq_false_iff_not, true_iff, iff_true, Bool.false_eq_true, false_iff] at *
      omega
  intro s
  repeat (refine stp rfl ?_ ?_;·repeat' constructor)
  refine pw_cond rfl (fun h => ?_) (fun h => ?_)
  · have hb : badW w most = true := h
    repeat (refine stp rfl ?_ ?_;·repeat' constructor)
    exact end1b rfl rfl (by rw [plainB, hb]; rfl)
  have hb : badW w most = false := h
  have hsm : w.trades.length ≤ 8 ∧ w.spaces.length ≤ 14 ∧ w.items.length ≤ 45 := by
    simp only [badW, Bool.or_eq_false_iff, decide_eq_false_iff_not] at hb
    omega
  clear h
  repeat (refine stp rfl ?_ ?_;·repeat' constructor)
  refine pw_loop (Clear w.trades badT) (fun k => [(2, .ptr 2 1 0 0), (5, I k)]) (fun _ => [(2, 1, ⟨28, 9, [eWork w], 2⟩)]) (fun k => w.trades.length - k) 0 .zero ⟨rfl, rfl, rfl, trivial⟩ ?_
  intro k s hk
  repeat (refine stp rfl ?_ ?_;·repeat' constructor)
  refine pw_cond rfl (fun h => ?_) (fun h => ?_)
  · have hlt : k < w.trades.length := by simpa using h
    obtain ⟨t, ht⟩ := get_lt hlt
    clear h
    repeat (refine stp rfl ?_ ?_;·repeat' constructor)
    apply qst;exact rfl;exact rfl;exact q_idxm rfl rfl rfl rfl rfl (by omega) ht rfl
    repeat (refine stp rfl ?_ ?_;·repeat' constructor)
    refine pw_cond rfl (fun h => ?_) (fun h => ?_)
    · have hbad : badT t = true := by have := of_decide_eq_true h; simp [badT, longS]; omega
      repeat (refine stp rfl ?_ ?_;·repeat' constructor)
      exact end1b rfl rfl (by rw [plainB, any_of ht hbad]; simp)
    · have hok : badT t = false := by have := of_decide_eq_false h; simp [badT, longS]; omega
      repeat (refine stp rfl ?_ ?_;·repeat' constructor)
      refine ⟨k + 1, hk.succ ht hok, by omega, rfl, ?_, rfl, trivial⟩
      exact i64_next (by omega) (by omega)
  have ht := hk.any (by simpa using h)
  clear h hk
  repeat (refine stp rfl ?_ ?_;·repeat' constructor)
  refine pw_loop (Clear w.spaces badS) (fun k => [(2, .ptr 2 1 0 0), (6, I k)]) (fun _ => [(2, 1, ⟨28, 9, [eWork w], 2⟩)]) (fun k => w.spaces.length - k) 0 .zero ⟨rfl, rfl, rfl, trivial⟩ ?_
  intro k s hk
  repeat (refine stp rfl ?_ ?_;·repeat' constructor)
  refine pw_cond rfl (fun h => ?_) (fun h => ?_)
  · have hlt : k < w.spaces.length := by simpa using h
    obtain ⟨x, hx⟩ := get_lt hlt
    clear h
    have yes : badS x = true → PV.bool false = .bool (plainB w most) := fun h => by rw [plainB, any_of hx h]; simp
    repeat (refine stp rfl ?_ ?_;·repeat' constructor)
    apply qst;exact rfl;exact rfl;exact q_idxm rfl rfl rfl rfl rfl (by omega) hx rfl
    repeat (refine stp rfl ?_ ?_;·repeat' constructor)
    (first | refine ps_split rfl rfl (fun h => ?_) (fun h => ?_) | refine pq_split rfl rfl (fun h => ?_) (fun h => ?_) | refine p3_split rfl rfl (fun h => ?_) (fun h => ?_))
    · have h1 : longS x.name = true := by have := of_decide_eq_true h; simp [longS]; omega
      repeat (refine stp rfl ?_ ?_;·repeat' constructor)
      exact end1b rfl rfl (yes (by rw [badS, h1]; rfl))
    have h1 : longS x.name = false := by have := of_decide_eq_false h; simp [longS]; omega
    clear h
    repeat (refine stp rfl ?_ ?_;·repeat' constructor)
    apply qst;exact rfl;exact rfl;exact q_idxm rfl rfl rfl rfl rfl (by omega) hx rfl
    repeat (refine stp rfl ?_ ?_;·repeat' constructor)
    (first | refine ps_split rfl rfl (fun h => ?_) (fun h => ?_) | refine pq_split rfl rfl (fun h => ?_) (fun h => ?_) | refine p3_split rfl rfl (fun h => ?_) (fun h => ?_))
    · have h2 : decide (20 < x.next.length) = true := by have := of_decide_eq_true h; rw [List.length_map] at this; simp; omega
      repeat (refine stp rfl ?_ ?_;·repeat' constructor)
      exact end1b rfl rfl (yes (by rw [badS, h1, h2]; rfl))
    have h2 : decide (20 < x.next.length) = false := by have := of_decide_eq_false h; rw [List.length_map] at this; simp; omega
    have hl2 := of_decide_eq_false h2
    clear h
    repeat (refine stp rfl ?_ ?_;·repeat' constructor)
    apply qst;exact rfl;exact rfl;exact q_idxm rfl rfl rfl rfl rfl (by omega) hx rfl
    repeat (refine stp rfl ?_ ?_;·repeat' constructor)
    apply qst;exact rfl;exact rfl;exact q_callP rfl (texts_ret x.next (by omega)) rfl (by repeat' constructor) rfl rfl
    repeat (refine stp rfl ?_ ?_;·repeat' constructor)
    refine pw_cond rfl (fun h => ?_) (fun h => ?_)
    · have h3 : x.next.any longS = true := by simpa [longS] using h
      repeat (refine stp rfl ?_ ?_;·repeat' constructor)
      exact end1b rfl rfl (yes (by rw [badS, h1, h2, h3]; rfl))
    · have h3 : x.next.any longS = false := by
        have : (!(!x.next.any fun s => decide (40 < s.length))) = false := h
        simpa [longS] using this
      repeat (refine stp rfl ?_ ?_;·repeat' constructor)
      refine ⟨k + 1, hk.succ hx (by rw [badS, h1, h2, h3]; rfl), by omega, rfl, ?_, rfl, trivial⟩
      exact i64_next (by omega) (by omega)
  have hs := hk.any (by simpa using h)
  clear h hk
  repeat (refine stp rfl ?_ ?_;·repeat' constructor)
  refine pw_loop (Clear w.items badI) (fun k => [(2, .ptr 2 1 0 0), (7, I k)]) (fun _ => [(2, 1, ⟨28, 9, [eWork w], 2⟩)]) (fun k => w.items.length - k) 0 .zero ⟨rfl, rfl, rfl, trivial⟩ ?_
  intro k s hk
  repeat (refine stp rfl ?_ ?_;·repeat' constructor)
  refine pw_cond rfl (fun h => ?_) (fun h => ?_)
  · have hlt : k < w.items.length := by simpa using h
    obtain ⟨x, hx⟩ := get_lt hlt
    clear h
    have yes : badI x = true → PV.bool false = .bool (plainB w most) := fun h => by rw [plainB, any_of hx h]; simp
    repeat (refine stp rfl ?_ ?_;·repeat' constructor)
    apply qst;exact rfl;exact rfl;exact q_idxm rfl rfl rfl rfl rfl (by omega) hx rfl
    repeat (refine stp rfl ?_ ?_;·repeat' constructor)
    (first | refine ps_split rfl rfl (fun h => ?_) (fun h => ?_) | refine pq_split rfl rfl (fun h => ?_) (fun h => ?_) | refine p3_split rfl rfl (fun h => ?_) (fun h => ?_))
    · have h1 : longS x.name = true := by have := of_decide_eq_true h; simp [longS]; omega
      repeat (refine stp rfl ?_ ?_;·repeat' constructor)
      exact end1b rfl rfl (yes (by rw [badI, h1]; rfl))
    have h1 : longS x.name = false := by have := of_decide_eq_false h; simp [longS]; omega
    clear h
    repeat (refine stp rfl ?_ ?_;·repeat' constructor)
    (first | refine ps_split rfl rfl (fun h => ?_) (fun h => ?_) | refine pq_split rfl rfl (fun h => ?_) (fun h => ?_) | refine p3_split rfl rfl (fun h => ?_) (fun h => ?_))
    · have h2 : longS x.trade = true := by have := of_decide_eq_true h; simp [longS]; omega
      repeat (refine stp rfl ?_ ?_;·repeat' constructor)
      exact end1b rfl rfl (yes (by rw [badI, h1, h2]; rfl))
    have h2 : longS x.trade = false := by have := of_decide_eq_false h; simp [longS]; omega
    clear h
    repeat (refine stp rfl ?_ ?_;·repeat' constructor)
    (first | refine ps_split rfl rfl (fun h => ?_) (fun h => ?_) | refine pq_split rfl rfl (fun h => ?_) (fun h => ?_) | refine p3_split rfl rfl (fun h => ?_) (fun h => ?_))
    · have h3 : longS x.space = true := by have := of_decide_eq_true h; simp [longS]; omega
      repeat (refine stp rfl ?_ ?_;·repeat' constructor)
      exact end1b rfl rfl (yes (by rw [badI, h1, h2, h3]; rfl))
    have h3 : longS x.space = false := by have := of_decide_eq_false h; simp [longS]; omega
    clear h
    repeat (refine stp rfl ?_ ?_;·repeat' constructor)
    (first | refine ps_split rfl rfl (fun h => ?_) (fun h => ?_) | refine pq_split rfl rfl (fun h => ?_) (fun h => ?_) | refine p3_split rfl rfl (fun h => ?_) (fun h => ?_))
    · have h4 : decide (6 < x.modes.length) = true := by have := of_decide_eq_true h; rw [List.length_map] at this; simp; omega
      repeat (refine stp rfl ?_ ?_;·repeat' constructor)
      exact end1b rfl rfl (yes (by rw [badI, h1, h2, h3, h4]; rfl))
    have h4 : decide (6 < x.modes.length) = false := by have := of_decide_eq_false h; rw [List.length_map] at this; simp; omega
    clear h
    repeat (refine stp rfl ?_ ?_;·repeat' constructor)
    (first | refine ps_split rfl rfl (fun h => ?_) (fun h => ?_) | refine pq_split rfl rfl (fun h => ?_) (fun h => ?_) | refine p3_split rfl rfl (fun h => ?_) (fun h => ?_))
    · have h5 : decide (12 < x.after.length) = true := by have := of_decide_eq_true h; rw [List.length_map] at this; simp; omega
      repeat (refine stp rfl ?_ ?_;·repeat' constructor)
      exact end1b rfl rfl (yes (by rw [badI, h1, h2, h3, h4, h5]; rfl))
    have h5 : decide (12 < x.after.length) = false := by have := of_decide_eq_false h; rw [List.length_map] at this; simp; omega
    have hl5 := of_decide_eq_false h5
    clear h
    repeat (refine stp rfl ?_ ?_;·repeat' constructor)
    apply qst;exact rfl;exact rfl;exact q_callP rfl (texts_ret x.after (by omega)) rfl (by repeat' constructor) rfl rfl
    repeat (refine stp rfl ?_ ?_;·repeat' constructor)
    refine pw_cond rfl (fun h => ?_) (fun h => ?_)
    · have h6 : x.after.any longS = true := by simpa [longS] using h
      repeat (refine stp rfl ?_ ?_;·repeat' constructor)
      exact end1b rfl rfl (yes (by rw [badI, h1, h2, h3, h4, h5, h6]; rfl))
    · have h6 : x.after.any longS = false := by
        have : (!(!x.after.any fun s => decide (40 < s.length))) = false := h
        simpa [longS] using this
      repeat (refine stp rfl ?_ ?_;·repeat' constructor)
      refine ⟨k + 1, hk.succ hx (by rw [badI, h1, h2, h3, h4, h5, h6]; rfl), by omega, rfl, ?_, rfl, trivial⟩
      exact i64_next (by omega) (by omega)
  have hi := hk.any (by simpa using h)
  repeat (refine stp rfl ?_ ?_;·repeat' constructor)
  exact end1b rfl rfl (by rw [plainB, hb, ht, hs, hi]; rfl)
theorem sane_of {w : SWork} {most : Int} (h : plainB w most = true) : Sane w := by
  simp only [plainB, Bool.not_eq_true', Bool.or_eq_false_iff] at h
  obtain ⟨⟨⟨hb, ht⟩, hs⟩, hi⟩ := h
  simp only [badW, Bool.or_eq_false_iff, decide_eq_false_iff_not] at hb
  rw [List.any_eq_false] at hs hi
  refine ⟨by omega, by omega, by omega, by omega, by omega, fun x hx => ?_, fun x hx => ?_⟩
  · have := hs x hx
    simp only [badS, Bool.or_eq_true, decide_eq_true_eq, not_or] at this
    omega
  · have := hi x hx
    simp only [badI, Bool.or_eq_true, decide_eq_true_eq, not_or] at this
    omega
end Go.Pv

/- The law of floats. -/
set_option maxHeartbeats 2000000
namespace Go.Pv
attribute [local irreducible] PWP POps PQuiet PSem XThen XBlock RetPost InlPost
open Go.Proofs

def critB (w : SWork) (nm : Str) : Bool := decide ((earlyS w).1.getD (idx w.items (·.name == nm)).toNat 0 = 0)
def critE (w : SWork) (nm : Str) : Bool := decide ((earlyS w).1.getD (idx w.items (·.name == nm)).toNat 0 + lst w (idx w.items (·.name == nm)).toNat = (earlyS w).2)
theorem any_succ {α : Type} {l : List α} {k : Nat} {x : α} (hx : l[k]? = some x) (f : α → Bool) (z : Bool) : (z || (l.take (k + 1)).any f) = ((z || (l.take k).any f) || f x) := by
  rw [take_snoc hx, List.any_append]; simp [Bool.or_assoc]
set_option maxRecDepth 20000 in
theorem floats_law (aw : Ret Try.prog .shared 10 [] (.bool true)) (w : SWork) (s : List SSlot) : Ret Try.prog .shared 9 [.agg (eWork w), .sl (s.map eSlot)] (.bool true) := by
  have h11 := plain_ret w 12
  have h12 := few_ret s
  cases hp : plainB w 12 with
  | false =>
    rw [hp] at h11
    refine Ret.of_pwp layOk mixed Go.Proofs.Try.func9 rfl (by decide) rfl rfl ?_
    repeat (refine stp rfl ?_ ?_;·repeat' constructor)
    apply qst;exact rfl;exact rfl;exact q_callP rfl (aw) rfl (by repeat' constructor) rfl rfl
    repeat (refine stp rfl ?_ ?_;·repeat' constructor)
    apply qst;exact rfl;exact rfl;exact q_callP rfl (h11) rfl (by repeat' constructor) rfl rfl
    repeat (refine stp rfl ?_ ?_;·repeat' constructor)
    exact end1b rfl rfl rfl
  | true =>
    rw [hp] at h11
    have hw := sane_of hp
    cases hfew : (decide (s.length ≤ 50) && !s.any fun s => decide (40 < s.item.length)) with
    | false =>
      rw [hfew] at h12
      refine Ret.of_pwp layOk mixed Go.Proofs.Try.func9 rfl (by decide) rfl rfl ?_
      repeat (refine stp rfl ?_ ?_;·repeat' constructor)
      apply qst;exact rfl;exact rfl;exact q_callP rfl (aw) rfl (by repeat' constructor) rfl rfl
      repeat (refine stp rfl ?_ ?_;·repeat' constructor)
      apply qst;exact rfl;exact rfl;exact q_callP rfl (h11) rfl (by repeat' constructor) rfl rfl
      repeat (refine stp rfl ?_ ?_;·repeat' constructor)
      apply qst;exact rfl;exact rfl;exact q_callP rfl (h12) rfl (by repeat' constructor) rfl rfl
      repeat (refine stp rfl ?_ ?_;·repeat' constructor)
      exact end1b rfl rfl rfl
    | true =>
      rw [hfew] at h12
      have hs : s.length ≤ 1000 := by
        simp only [Bool.and_eq_true, decide_eq_true_eq] at hfew
        omega
      have h14 := checkPlan_ret w hw s
      by_cases h0 : planE w s = 0
      · have hsl := (planE_zero h0).1
        obtain ⟨hv, hpo⟩ := planOk_of h0
        have hz := (slE_parts hsl).1
        have hi := hw.items
        have hn := hv.n40
        have hdb := hpo.dur hv
        have hed := hpo.early_dur hv
        have h33 := earliest_ret w hw
        have h32 := days_ret w hw s
        have h35 := critical_ret w hw
        have h34 := latest_ret w hw (durP w (placed w s))
        rw [earliestR, if_pos hz] at h33
        rw [latestR, if_pos hz, if_neg (by omega)] at h34
        rw [criticalR, if_pos hz] at h35
        rw [if_pos h0, h0] at h32
        rw [h0] at h14
        obtain ⟨hel, he1, he2⟩ := earlyS_ok hw hv
        have hll := latS_len hv hdb.1
        have hat := fun k sl hk => slot_at hsl (k := k) (sl := sl) hk
        have hge := fun i hi => hpo.early_le hv (i := i) hi
        have hle := fun i hi => hpo.late_ge hv (i := i) hi
        have hcm := fun nm h => critS_mem (w := w) (nm := nm) h
        have hcl : (critS w).length ≤ 40 := by have := critN_len w (earlyS w).1 (latS w (earlyS w).2) w.items.length; rw [critS]; omega
        have hcu := fun i x hx => hv.good.uniq i x hx
        have hB : (decide (w.items.length = 0) || (critS w).any (critB w)) = true := by
          by_cases hn0 : w.items.length = 0
          · simp [hn0]
          · obtain ⟨i, hi, h1, h2⟩ := crit_begin hw hv (by omega)
            obtain ⟨x, hx⟩ := get_lt hi
            rw [Bool.or_eq_true]
            refine .inr (List.any_eq_true.2 ⟨x.name, mem_critS hx h1, ?_⟩)
            rw [critB, hcu i x hx, Int.toNat_natCast]
            exact decide_eq_true h2
        have hE : (decide (w.items.length = 0) || (critS w).any (critE w)) = true := by
          by_cases hn0 : w.items.length = 0
          · simp [hn0]
          · obtain ⟨i, hi, h1, h2⟩ := crit_end hw hv (by omega)
            obtain ⟨x, hx⟩ := get_lt hi
            rw [Bool.or_eq_true]
            refine .inr (List.any_eq_true.2 ⟨x.name, mem_critS hx h1, ?_⟩)
            rw [critE, hcu i x hx, Int.toNat_natCast]
            exact decide_eq_true h2
        have hbw : ∀ i x, w.items[i]? = some x → critB w x.name = decide ((earlyS w).1.getD i 0 = 0) := fun i x hx => by rw [critB, hcu i x hx, Int.toNat_natCast]
        have hew : ∀ i x, w.items[i]? = some x → critE w x.name = decide ((earlyS w).1.getD i 0 + leastP x = (earlyS w).2) := fun i x hx => by rw [critE, hcu i x hx, Int.toNat_natCast, lst_at hx]
        have hebd : ∀ i : Nat, i < w.items.length → 0 ≤ (earlyS w).1.getD i 0 ∧ (earlyS w).1.getD i 0 ≤ 1000000000 := fun i hi => by
          have := (early_all hv).nonneg i
          have := (early_all hv).le i (take_all hv hi)
          have := lst_pos hv hi
          omega
        generalize durP w (placed w s) = d at *
        generalize latS w d = b at *
        generalize critB w = fB at *
        generalize critE w = fE at *
        generalize critS w = c at *
        generalize placed w s = l at *
        generalize hEa : (earlyS w).1 = a at *
        generalize hEn : (earlyS w).2 = n at *
        have hal : ((a.map eI).length : Int) = w.items.length := by simp [hel]
        have hbl : ((b.map eI).length : Int) = w.items.length := by simp [hll]
        have hwl : ((w.items.map eItem).length : Int) = w.items.length := by simp
        refine Ret.of_pwp layOk mixed Go.Proofs.Try.func9 rfl (by decide) rfl rfl ?_
        repeat (refine stp rfl ?_ ?_;·repeat' constructor)
        apply qst;exact rfl;exact rfl;exact q_callP rfl (aw) rfl (by repeat' constructor) rfl rfl
        repeat (refine stp rfl ?_ ?_;·repeat' constructor)
        apply qst;exact rfl;exact rfl;exact q_callP rfl (h11) rfl (by repeat' constructor) rfl rfl
        repeat (refine stp rfl ?_ ?_;·repeat' constructor)
        apply qst;exact rfl;exact rfl;exact q_callP rfl (h12) rfl (by repeat' constructor) rfl rfl
        repeat (refine stp rfl ?_ ?_;·repeat' constructor)
        apply qst;exact rfl;exact rfl;exact q_callP rfl (h14) rfl (by repeat' constructor) rfl rfl
        repeat (refine stp rfl ?_ ?_;·repeat' constructor)
        apply qst;exact rfl;exact rfl;exact q_call rfl (h33) rfl (by repeat' constructor) rfl
        repeat (refine stp rfl ?_ ?_;·repeat' constructor)
        apply qst;exact rfl;exact rfl;exact q_call rfl (h32) rfl (by repeat' constructor) rfl
        repeat (refine stp rfl ?_ ?_;·repeat' constructor)
        (first | refine ps_split rfl rfl (fun h => ?_) (fun h => ?_) | refine pq_split rfl rfl (fun h => ?_) (fun h => ?_) | refine p3_split rfl rfl (fun h => ?_) (fun h => ?_))
        · have := of_decide_eq_true h; omega
        clear h
        repeat (refine stp rfl ?_ ?_;·repeat' constructor)
        refine pw_cond rfl (fun h => ?_) (fun h => ?_)
        · have : ¬ (((a.map eI).length : Int) = (w.items.map eItem).length) := by simpa using h
          omega
        clear h
        repeat (refine stp rfl ?_ ?_;·repeat' constructor)
        apply qst;exact rfl;exact rfl;exact q_call rfl (h34) rfl (by repeat' constructor) rfl
        repeat (refine stp rfl ?_ ?_;·repeat' constructor)
        apply qst;exact rfl;exact rfl;exact q_call rfl (h35) rfl (by repeat' constructor) rfl
        repeat (refine stp rfl ?_ ?_;·repeat' constructor)
        refine pw_cond rfl (fun h => ?_) (fun h => ?_)
        · have : ¬ (((b.map eI).length : Int) = (a.map eI).length) := by simpa using h
          omega
        clear h
        repeat (refine stp rfl ?_ ?_;·repeat' constructor)
        have hz0 : decide (((a.map eI).length : Int) = 0) = decide (w.items.length = 0) := by rw [hal]; by_cases h : w.items.length = 0 <;> simp [h]
        rw [hz0]
        generalize decide (w.items.length = 0) = z at *
        refine pw_loop (fun k => k ≤ s.length) (fun k => [(1, .sl (s.map eSlot)), (2, .ptr 2 1 0 0), (5, .sl (a.map eI)), (6, I n), (10, .sl (b.map eI)), (11, .sl (c.map eS)), (12, .bool z), (13, .bool z), (14, I k)]) (fun _ => [(2, 1, ⟨28, 9, [eWork w], 2⟩)]) (fun k => s.length - k) 0 (Nat.zero_le _) ⟨rfl, rfl, rfl, rfl, rfl, rfl, rfl, rfl, rfl, rfl, trivial⟩ ?_
        intro k s1 hk
        repeat (refine stp rfl ?_ ?_;·repeat' constructor)
        refine pw_cond rfl (fun h => ?_) (fun h => ?_)
        · have hlt : k < s.length := by simpa using h
          clear h
          obtain ⟨sl, hsl'⟩ := get_lt hlt
          obtain ⟨i, x, hix, hx, hpi⟩ := hat k sl hsl'
          have hil := (List.getElem?_eq_some_iff.1 hx).1
          have h24 := itemOf_ret w sl.item (by omega)
          rw [hix] at h24
          have g1 := hge i hil
          have g2 := hle i hil
          rw [hpi] at g1 g2
          have ha := eI_get (l := a) (i := i) (by omega)
          have hb := eI_get (l := b) (i := i) (by omega)
          repeat (refine stp rfl ?_ ?_;·repeat' constructor)
          refine pw_draw 8 [101, 102, 103, 104, 105, 106, 107, 15] (by decide +kernel) ?_
          repeat (refine stp rfl ?_ ?_;·repeat' constructor)
          apply qst;exact rfl;exact rfl;exact q_idxm rfl rfl rfl rfl rfl (by omega) hsl' rfl
          repeat (refine stp rfl ?_ ?_;·repeat' constructor)
          apply qst;exact rfl;exact rfl;exact q_callP rfl (h24) rfl (by repeat' constructor) rfl rfl
          repeat (refine stp rfl ?_ ?_;·repeat' constructor)
          refine pw_draw 26 [108, 109, 110, 111, 112, 113, 114, 115, 116, 117, 118, 119, 120, 121, 122, 123, 124, 125, 126, 127, 128, 129, 130, 131, 132, 133] (by decide +kernel) ?_
          repeat (refine stp rfl ?_ ?_;·repeat' constructor)
          (first | refine ps_split rfl rfl (fun h => ?_) (fun h => ?_) | refine pq_split rfl rfl (fun h => ?_) (fun h => ?_) | refine p3_split rfl rfl (fun h => ?_) (fun h => ?_))
          · have := of_decide_eq_true h; omega
          clear h
          repeat (refine stp rfl ?_ ?_;·repeat' constructor)
          apply qst;exact rfl;exact rfl;exact q_idxm rfl rfl rfl rfl rfl (by omega) hsl' rfl
          repeat (refine stp rfl ?_ ?_;·repeat' constructor)
          apply qst;exact rfl;exact rfl;exact q_idxm rfl rfl rfl rfl rfl (by omega) ha rfl
          repeat (refine stp rfl ?_ ?_;·repeat' constructor)
          (first | refine ps_split rfl rfl (fun h => ?_) (fun h => ?_) | refine pq_split rfl rfl (fun h => ?_) (fun h => ?_) | refine p3_split rfl rfl (fun h => ?_) (fun h => ?_))
          · have : sl.day < a.getD i 0 := of_decide_eq_true h
            exact absurd g1 (by show ¬ _ ≤ sl.day; omega)
          clear h
          repeat (refine stp rfl ?_ ?_;·repeat' constructor)
          apply qst;exact rfl;exact rfl;exact q_idxm rfl rfl rfl rfl rfl (by omega) hsl' rfl
          repeat (refine stp rfl ?_ ?_;·repeat' constructor)
          apply qst;exact rfl;exact rfl;exact q_idxm rfl rfl rfl rfl rfl (by omega) hb rfl
          repeat (refine stp rfl ?_ ?_;·repeat' constructor)
          refine pw_cond rfl (fun h => ?_) (fun h => ?_)
          · have : b.getD i 0 < sl.day := of_decide_eq_true h
            exact absurd g2 (by show ¬ sl.day ≤ _; omega)
          clear h
          repeat (refine stp rfl ?_ ?_;·repeat' constructor)
          exact ⟨k + 1, hlt, by omega, rfl, rfl, rfl, rfl, rfl, rfl, rfl, rfl, i64_next (by omega) (by omega), rfl, trivial⟩
        clear h
        repeat (refine stp rfl ?_ ?_;·repeat' constructor)
        refine pw_loop (fun k => k ≤ c.length) (fun k => [(2, .ptr 2 1 0 0), (5, .sl (a.map eI)), (6, I n), (11, .sl (c.map eS)), (12, .bool (z || (c.take k).any fB)), (13, .bool (z || (c.take k).any fE)), (16, I k)]) (fun _ => [(2, 1, ⟨28, 9, [eWork w], 2⟩)]) (fun k => c.length - k) 0 (Nat.zero_le _) ⟨rfl, rfl, rfl, rfl, ?_, ?_, rfl, rfl, trivial⟩ ?_
        · show PV.bool z = _
          simp
        · show PV.bool z = _
          simp
        intro k s1 hk
        repeat (refine stp rfl ?_ ?_;·repeat' constructor)
        refine pw_cond rfl (fun h => ?_) (fun h => ?_)
        · have hlt : k < c.length := by simpa using h
          clear h
          obtain ⟨nm, hnm⟩ := get_lt hlt
          obtain ⟨i, x, hx, hxn, _⟩ := hcm nm (List.mem_of_getElem? hnm)
          subst hxn
          have hil := (List.getElem?_eq_some_iff.1 hx).1
          have hio := hv.item x (List.mem_of_getElem? hx)
          have hlb := leastP_bound hio
          have h24 := itemOf_ret w x.name (by omega)
          rw [hcu i x hx] at h24
          have ha := eI_get (l := a) (i := i) (by omega)
          have s12 := any_succ hnm fB z
          have s13 := any_succ hnm fE z
          rw [hbw i x hx] at s12
          rw [hew i x hx] at s13
          have hab := hebd i hil
          generalize (z || (c.take k).any fB) = B12 at *
          generalize (z || (c.take k).any fE) = B13 at *
          repeat (refine stp rfl ?_ ?_;·repeat' constructor)
          refine pw_draw 7 [140, 141, 142, 143, 144, 145, 17] (by decide +kernel) ?_
          repeat (refine stp rfl ?_ ?_;·repeat' constructor)
          apply qst;exact rfl;exact rfl;exact q_idxm rfl rfl rfl rfl rfl (by omega) hnm rfl
          repeat (refine stp rfl ?_ ?_;·repeat' constructor)
          apply qst;exact rfl;exact rfl;exact q_callP rfl (h24) rfl (by repeat' constructor) rfl rfl
          repeat (refine stp rfl ?_ ?_;·repeat' constructor)
          refine ps_cut 100 [(2, .ptr 2 1 0 0), (5, .sl (a.map eI)), (6, I n), (11, .sl (c.map eS)), (12, .bool (B12 || decide (a.getD i 0 = 0))), (13, .bool B13), (16, I k), (17, I i)] [(2, 1, ⟨28, 9, [eWork w], 2⟩)] ?_ ?_
          · (first | refine ps_split rfl rfl (fun h => ?_) (fun h => ?_) | refine pq_split rfl rfl (fun h => ?_) (fun h => ?_) | refine p3_split rfl rfl (fun h => ?_) (fun h => ?_))
            · subst h
              repeat (refine stp rfl ?_ ?_;·repeat' constructor)
              exact ⟨rfl, rfl, rfl, rfl, rfl, rfl, rfl, rfl, rfl, trivial⟩
            · subst h
              repeat (refine stp rfl ?_ ?_;·repeat' constructor)
              apply qst;exact rfl;exact rfl;exact q_idxm rfl rfl rfl rfl rfl (by omega) ha rfl
              repeat (refine stp rfl ?_ ?_;·repeat' constructor)
              exact ⟨rfl, rfl, rfl, rfl, rfl, rfl, rfl, rfl, rfl, trivial⟩
          intro s2
          repeat (refine stp rfl ?_ ?_;·repeat' constructor)
          refine pw_draw 16 [156, 157, 158, 159, 160, 161, 162, 163, 164, 165, 166, 167, 168, 169, 170, 171] (by decide +kernel) ?_
          repeat (refine stp rfl ?_ ?_;·repeat' constructor)
          (first | refine ps_split rfl rfl (fun h => ?_) (fun h => ?_) | refine pq_split rfl rfl (fun h => ?_) (fun h => ?_) | refine p3_split rfl rfl (fun h => ?_) (fun h => ?_))
          · subst h
            repeat (refine stp rfl ?_ ?_;·repeat' constructor)
            refine ⟨k + 1, hlt, by omega, rfl, rfl, rfl, rfl, ?_, ?_, i64_next (by omega) (by omega), rfl, trivial⟩
            · rw [s12]; rfl
            · rw [s13]; rfl
          · subst h
            repeat (refine stp rfl ?_ ?_;·repeat' constructor)
            apply qst;exact rfl;exact rfl;exact q_idxm rfl rfl rfl rfl rfl (by omega) ha rfl
            repeat (refine stp rfl ?_ ?_;·repeat' constructor)
            apply qst;exact rfl;exact rfl;exact q_idxm rfl rfl rfl rfl rfl (by omega) hx rfl
            repeat (refine stp rfl ?_ ?_;·repeat' constructor)
            apply qst;exact rfl;exact rfl;exact q_callP rfl (least_ref x hio.modes.1 (by have := hio.modes; omega)) rfl (by repeat' constructor) rfl rfl
            repeat (refine stp rfl ?_ ?_;·repeat' constructor)
            refine ⟨k + 1, hlt, by omega, rfl, rfl, rfl, rfl, ?_, ?_, i64_next (by omega) (by omega), rfl, trivial⟩
            · rw [s12]; rfl
            · rw [s13]
              show PV.bool (decide (IntKind.i64.wrap (a.getD i 0 + leastP x) = n)) = _
              rw [wrap_i64 (by omega) (by omega)]; rfl
        · have hge : k = c.length := by have : ¬ k < c.length := by simpa using h
                                        omega
          subst hge
          clear h
          rw [List.take_length, hB, hE]
          repeat (refine stp rfl ?_ ?_;·repeat' constructor)
          exact end1b rfl rfl rfl
      · generalize planE w s = e at *
        refine Ret.of_pwp layOk mixed Go.Proofs.Try.func9 rfl (by decide) rfl rfl ?_
        repeat (refine stp rfl ?_ ?_;·repeat' constructor)
        apply qst;exact rfl;exact rfl;exact q_callP rfl (aw) rfl (by repeat' constructor) rfl rfl
        repeat (refine stp rfl ?_ ?_;·repeat' constructor)
        apply qst;exact rfl;exact rfl;exact q_callP rfl (h11) rfl (by repeat' constructor) rfl rfl
        repeat (refine stp rfl ?_ ?_;·repeat' constructor)
        apply qst;exact rfl;exact rfl;exact q_callP rfl (h12) rfl (by repeat' constructor) rfl rfl
        repeat (refine stp rfl ?_ ?_;·repeat' constructor)
        apply qst;exact rfl;exact rfl;exact q_callP rfl (h14) rfl (by repeat' constructor) rfl rfl
        repeat (refine stp rfl ?_ ?_;·repeat' constructor)
        refine pw_cond rfl (fun h => ?_) (fun h => ?_)
        · repeat (refine stp rfl ?_ ?_;·repeat' constructor)
          exact end1b rfl rfl rfl
        · exact absurd (by simpa using h) h0
end Go.Pv

/- The example's bound; the laws are awake. -/
set_option maxHeartbeats 2000000
namespace Go.Pv
attribute [local irreducible] PWP POps PQuiet PSem XThen XBlock RetPost InlPost
open Go.Proofs

set_option maxRecDepth 20000 in
theorem pair_best : Ret Try.prog .shared 27 [.agg (eWork pairW)] (.tup [.agg [I 2, .sl [[.str [97]]], .str []], I 0]) := by
  have h20 := checkWork_ret pairW pair_sane
  rw [pair_work] at h20
  have h78 := tradeBound_ret pairW pair_well tradeW (by decide) (by decide)
  rw [show tradeB pairW tradeW = 2 by decide +kernel] at h78
  refine Ret.of_pwp layOk mixed Go.Proofs.Try.func27 rfl (by decide) rfl rfl ?_
  repeat (refine stp rfl ?_ ?_;·repeat' constructor)
  apply qst;exact rfl;exact rfl;exact q_callP rfl (h20) rfl (by repeat' constructor) rfl rfl
  repeat (refine stp rfl ?_ ?_;·repeat' constructor)
  apply qst;exact rfl;exact rfl;exact q_call rfl (pair_longest) rfl (by repeat' constructor) rfl
  repeat (refine stp rfl ?_ ?_;·repeat' constructor)
  refine pw_loop (fun (k : Nat) => k ≤ 1) (fun k => [(1, .ptr 1 1 0 0), (2, .ptr 2 1 0 0), (5, .ptr 5 1 0 0), (18, .sl (pairW.trades.map eTrade)), (19, I 1), (20, I k)])
    (fun _ => [(1, 1, ⟨28, 9, [eWork pairW], 2⟩), (2, 1, ⟨60, 3, [[I 0, .nil, .str []]], 2⟩), (5, 1, ⟨60, 3, [[I 2, .sl [[.str [97]]], .str []]], 2⟩)]) (fun k => 1 - k) 0 (by omega) ⟨rfl, rfl, rfl, rfl, rfl, rfl, rfl, rfl, rfl, trivial⟩ ?_
  intro k s hk
  obtain rfl | rfl : k = 0 ∨ k = 1 := by omega
  · repeat (refine stp rfl ?_ ?_;·repeat' constructor)
    refine zsq rfl (q_idx rfl rfl rfl rfl rfl (by decide) rfl rfl) ?_
    repeat (refine stp rfl ?_ ?_;·repeat' constructor)
    apply qst;exact rfl;exact rfl;exact q_callP rfl (h78) rfl (by repeat' constructor) rfl rfl
    repeat (refine stp rfl ?_ ?_;·repeat' constructor)
    exact ⟨1, by omega, by omega, rfl, rfl, rfl, rfl, rfl, rfl, rfl, rfl, rfl, trivial⟩
  · repeat (refine stp rfl ?_ ?_;·repeat' constructor)
    exact endm rfl (by repeat' constructor) rfl (by repeat' constructor) rfl

set_option maxRecDepth 20000 in
theorem awake_ret : Ret Try.prog .shared 10 [] (.bool true) := by
  have h21 := texts2_ret [[97]] [[97]] (by decide)
  rw [decide_eq_true rfl] at h21
  refine Ret.of_pwp layOk mixed Go.Proofs.Try.func10 rfl (by decide) rfl rfl ?_
  repeat (refine stp rfl ?_ ?_;·repeat' constructor)
  apply qst;exact rfl;exact rfl;exact q_call rfl (pair_ret) rfl (by repeat' constructor) rfl
  repeat (refine stp rfl ?_ ?_;·repeat' constructor)
  apply qst;exact rfl;exact rfl;exact q_slit rfl rfl rfl rfl rfl rfl rfl rfl rfl rfl (by repeat' constructor) rfl
  repeat (refine stp rfl ?_ ?_;·repeat' constructor)
  apply qst;exact rfl;exact rfl;exact q_callP rfl (pair_cost) rfl (by repeat' constructor) rfl rfl
  repeat (refine stp rfl ?_ ?_;·repeat' constructor)
  apply qst;exact rfl;exact rfl;exact q_call rfl (pair_ret) rfl (by repeat' constructor) rfl
  repeat (refine stp rfl ?_ ?_;·repeat' constructor)
  apply qst;exact rfl;exact rfl;exact q_call rfl (pair_best) rfl (by repeat' constructor) rfl
  repeat (refine stp rfl ?_ ?_;·repeat' constructor)
  apply qst;exact rfl;exact rfl;exact q_slit rfl rfl rfl rfl rfl rfl rfl rfl rfl rfl (by repeat' constructor) rfl
  repeat (refine stp rfl ?_ ?_;·repeat' constructor)
  apply qst;exact rfl;exact rfl;exact q_callP rfl (h21) rfl (by repeat' constructor) rfl rfl
  repeat (refine stp rfl ?_ ?_;·repeat' constructor)
  exact end1b rfl rfl rfl
end Go.Pv
