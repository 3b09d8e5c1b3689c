/- Texts of one hand, gathered: SfB, SeI, SeJ, SfC, SfD, SfE, SfF, SfG, SfI, SgA, SgB, SgC, SgD, ShA, ShB, ShC, ShD. -/
import Derived.Test.YtfnjhhndbgidmaaBo4
import Derived.KernelRfl
/- The earliest days: what the program and the reference reckon. -/
set_option maxHeartbeats 2000000
namespace Go.Pv
attribute [local irreducible] PWP POps PQuiet PSem XThen XBlock RetPost InlPost
open Go.Proofs

def stepE (w : SWork) (i : Int) (out : List Int) (k : Int) : List Int := out.set i.toNat (imax (out.getD i.toNat 0) (out.getD k.toNat 0 + leastP (itP w k)))
def rowE (w : SWork) (i : Int) (row : List Int) (out : List Int) : List Int := row.foldl (stepE w i) out
def earlyF (w : SWork) (s : List Int × Int) (i : Int) : List Int × Int := (rowE w i ((bef w).getD i.toNat []) s.1, imax s.2 ((rowE w i ((bef w).getD i.toNat []) s.1).getD i.toNat 0 + leastP (itP w i)))
def earlyK2 (w : SWork) (k : Nat) : List Int × Int := ((ordS w).take k).foldl (earlyF w) (List.replicate w.items.length 0, 0)
def earlyS (w : SWork) : List Int × Int := (ordS w).foldl (earlyF w) (List.replicate w.items.length 0, 0)
theorem BndL.getZ {a : List Int} {B : Int} (h : BndL a B) (hB : 0 ≤ B) (d : Nat) : 0 ≤ a.getD d 0 ∧ a.getD d 0 ≤ B := by
  rcases Nat.lt_or_ge d a.length with hlt | hge
  · exact h.get hlt
  · rw [List.getD_eq_getElem?_getD, List.getElem?_eq_none hge]; exact ⟨Int.le_refl _, hB⟩
theorem BndL.set {a : List Int} {B : Int} (h : BndL a B) {d : Nat} {v : Int} (hv : 0 ≤ v ∧ v ≤ B) : BndL (a.set d v) B := by
  intro u hu
  rcases List.mem_or_eq_of_mem_set hu with h1 | rfl
  · exact h u h1
  · exact hv
def KnownRow (w : SWork) (row : List Int) : Prop := ∀ k ∈ row, ∃ (j : Nat) (y : SItem), k = j ∧ w.items[j]? = some y
theorem known_row {w : SWork} (hv : Well w) {x : SItem} (hx : x ∈ w.items) : KnownRow w (aft w x) := by
  intro k hk
  obtain ⟨nm, hnm, rfl⟩ := List.mem_map.1 hk
  obtain ⟨j, y, hy, _, hidx⟩ := known_at hv.good hx hnm
  exact ⟨j, y, hidx, hy⟩
theorem rowE_ok {w : SWork} (hv : Well w) (i : Int) {row : List Int} (hr : KnownRow w row) {out : List Int} {B : Int} (h : BndL out B) (hB : 0 ≤ B) (j : Nat) (hj : j ≤ row.length) : (rowE w i (row.take j) out).length = out.length ∧ BndL (rowE w i (row.take j) out) (B + 60 * j) := by
  induction j with
  | zero => exact ⟨rfl, h.mono (by omega)⟩
  | succ j ih =>
    obtain ⟨h1, h2⟩ := ih (by omega)
    obtain ⟨k, hk⟩ := get_lt (show j < row.length by omega)
    obtain ⟨m, y, rfl, hy⟩ := hr k (List.mem_of_getElem? hk)
    have hl := leastP_bound (hv.item y (List.mem_of_getElem? hy))
    have hs : rowE w i (row.take (j + 1)) out = stepE w i (rowE w i (row.take j) out) m := by rw [rowE, take_snoc hk, List.foldl_append]; rfl
    rw [hs, stepE, itP_at hy]
    have b1 := h2.getZ (by omega) i.toNat
    have b2 := h2.getZ (by omega) (m : Int).toNat
    refine ⟨by rw [List.length_set, h1], (h2.mono (by omega)).set ?_⟩
    unfold imax
    split <;> omega
theorem earlyK2_succ {w : SWork} {k i : Nat} {x : SItem} (hk : (ordS w)[k]? = some (i : Int)) (hx : w.items[i]? = some x) : earlyK2 w (k + 1) = (rowE w i (aft w x) (earlyK2 w k).1, imax (earlyK2 w k).2 ((rowE w i (aft w x) (earlyK2 w k).1).getD i 0 + leastP x)) := by
  have hbx : (bef w).getD i [] = aft w x := by rw [List.getD_eq_getElem?_getD, bef, List.getElem?_map, hx]; rfl
  rw [earlyK2, take_snoc hk, List.foldl_append]
  show earlyF w (earlyK2 w k) i = _
  rw [earlyF, Int.toNat_natCast, hbx, itP_at hx]
theorem earlyK2_ok {w : SWork} (hw : Sane w) (hv : Well w) (k : Nat) (hk : k ≤ (ordS w).length) : (earlyK2 w k).1.length = w.items.length ∧ BndL (earlyK2 w k).1 (6000060 * k) ∧ 0 ≤ (earlyK2 w k).2 ∧ (earlyK2 w k).2 ≤ 6000060 * k := by
  induction k with
  | zero => exact ⟨by simp [earlyK2], fun v hv => by simp [earlyK2] at hv; omega, by simp [earlyK2], by simp [earlyK2]⟩
  | succ k ih =>
    obtain ⟨h1, h2, h3, h4⟩ := ih (by omega)
    obtain ⟨y, hy⟩ := get_lt (show k < (ordS w).length by omega)
    obtain ⟨i, x, rfl, hx⟩ := (refOrd_eq hv.good).2 y (List.mem_of_getElem? hy)
    have hxm := List.mem_of_getElem? hx
    have hax := hw.after x hxm
    have hal : (aft w x).length = x.after.length := by simp [aft]
    have hl := leastP_bound (hv.item x hxm)
    have hr := rowE_ok hv (i : Int) (known_row hv hxm) h2 (by omega) (aft w x).length (Nat.le_refl _)
    rw [List.take_length] at hr
    rw [earlyK2_succ hy hx]
    have b := hr.2.getZ (by omega) i
    refine ⟨by rw [hr.1, h1], hr.2.mono (by omega), ?_⟩
    show 0 ≤ imax _ _ ∧ imax _ _ ≤ _
    unfold imax
    split <;> omega

set_option maxRecDepth 20000 in
theorem earliest0_ret (w : SWork) (hw : Sane w) (hv : Well w) : Ret Try.prog .shared 85 [.agg (eWork w)] (.tup [.sl ((earlyS w).1.map eI), I (earlyS w).2]) := by
  have h1 := hw.items
  have hn40 := hv.n40
  have hbl : ((bef w).map eL).length = w.items.length := by simp [bef]
  have hol := ordS_len w
  have hLl : ((ordS w).map eI).length = (ordS w).length := by simp
  refine Ret.of_pwp layOk mixed Go.Proofs.Try.func85 rfl (by decide) rfl rfl ?_
  repeat (refine stp rfl ?_ ?_;·repeat' constructor)
  apply qst;exact rfl;exact rfl;exact q_call rfl (before_ret w h1 hw.after) rfl (by repeat' constructor) rfl
  repeat (refine stp rfl ?_ ?_;·repeat' constructor)
  refine ps_run (o_make rfl rfl rfl rfl rfl rfl rfl rfl (by omega) (by rw [hbl]; show ((8 : Nat) : Int) * _ ≤ _; omega) (by rw [hbl]; omega) ?_)
  repeat (refine stp rfl ?_ ?_;·repeat' constructor)
  apply qst;exact rfl;exact rfl;exact q_call rfl (ordered_ret w h1 hw.after) rfl (by repeat' constructor) rfl
  repeat (refine stp rfl ?_ ?_;·repeat' constructor)
  refine pw_loop (fun k => k ≤ (ordS w).length) (fun k => [(1, .ptr 1 1 0 0), (4, .sl ((bef w).map eL)), (5, .als 19 1 0 w.items.length), (6, I (earlyK2 w k).2), (21, .sl ((ordS w).map eI)), (22, I (ordS w).length), (23, I k)])
    (fun k => [(1, 1, ⟨28, 9, [eWork w], 2⟩), (19, 1, ⟨3, 1, (earlyK2 w k).1.map eI, 0⟩)]) (fun k => (ordS w).length - k) 0 (Nat.zero_le _) ⟨rfl, rfl, ?_, rfl, rfl, ?_, rfl, rfl, ?_, trivial⟩ ?_
  · show PV.als 19 1 0 (List.length (List.replicate (Int.toNat ((bef w).map eL).length) _)) = _
    rw [hbl]; simp
  · show I (((ordS w).map eI).length) = _
    rw [hLl]
  · show (1, some (Cont.mk 3 1 (List.replicate (Int.toNat ((bef w).map eL).length) _) 0)) = _
    rw [hbl]; simp [earlyK2, eI]
  intro k s hk
  obtain ⟨hc1, hc2, hc3, hc4⟩ := earlyK2_ok hw hv k hk
  repeat (refine stp rfl ?_ ?_;·repeat' constructor)
  refine pw_cond rfl (fun h => ?_) (fun h => ?_)
  · have hlt : k < (ordS w).length := by have := of_decide_eq_true h; omega
    clear h
    obtain ⟨y0, hy0⟩ := get_lt hlt
    obtain ⟨i, x, rfl, hx⟩ := (refOrd_eq hv.good).2 y0 (List.mem_of_getElem? hy0)
    have hil := (List.getElem?_eq_some_iff.1 hx).1
    have hxm := List.mem_of_getElem? hx
    have hax := hw.after x hxm
    have hal : (aft w x).length = x.after.length := by simp [aft]
    have hio := hv.item x hxm
    have hlb := leastP_bound hio
    have hbx : (bef w)[i]? = some (aft w x) := by rw [bef, List.getElem?_map, hx]; rfl
    have hkr := known_row hv hxm
    have hro := fun j hj => rowE_ok hv (i : Int) hkr hc2 (by omega) j hj
    have hsucc := earlyK2_succ hy0 hx
    generalize earlyK2 w k = st at *
    obtain ⟨out, last⟩ := st
    replace hc1 : out.length = w.items.length := hc1
    replace hc3 : 0 ≤ last := hc3
    replace hc4 : last ≤ 6000060 * (k : Int) := hc4
    replace hro : ∀ j, j ≤ (aft w x).length → (rowE w i ((aft w x).take j) out).length = out.length ∧ BndL (rowE w i ((aft w x).take j) out) (6000060 * k + 60 * j) := hro
    replace hsucc : earlyK2 w (k + 1) = (rowE w i (aft w x) out, imax last ((rowE w i (aft w x) out).getD i 0 + leastP x)) := hsucc
    repeat (refine stp rfl ?_ ?_;·repeat' constructor)
    apply qst;exact rfl;exact rfl;exact q_idxm rfl rfl rfl rfl rfl (by omega) hy0 rfl
    repeat (refine stp rfl ?_ ?_;·repeat' constructor)
    apply qst;exact rfl;exact rfl;exact q_idxm rfl rfl rfl rfl rfl (by omega) hbx rfl
    repeat (refine stp rfl ?_ ?_;·repeat' constructor)
    refine pw_loop (fun j => j ≤ (aft w x).length) (fun j => [(1, .ptr 1 1 0 0), (4, .sl ((bef w).map eL)), (5, .als 19 1 0 w.items.length), (6, I last), (8, I i), (21, .sl ((ordS w).map eI)), (22, I (ordS w).length), (23, I k), (30, .sl ((aft w x).map eI)), (31, I (aft w x).length), (32, I j)])
      (fun j => [(1, 1, ⟨28, 9, [eWork w], 2⟩), (19, 1, ⟨3, 1, (rowE w i ((aft w x).take j) out).map eI, 0⟩)]) (fun j => (aft w x).length - j) 0 (Nat.zero_le _) ⟨rfl, rfl, rfl, rfl, rfl, rfl, rfl, rfl, rfl, ?_, rfl, rfl, rfl, trivial⟩ ?_
    · show I (((aft w x).map eI).length) = _
      rw [List.length_map]
    intro j s2 hj
    obtain ⟨ho1, ho2⟩ := hro j hj
    repeat (refine stp rfl ?_ ?_;·repeat' constructor)
    refine pw_cond rfl (fun h => ?_) (fun h => ?_)
    · have hlt' : j < (aft w x).length := by have := of_decide_eq_true h; omega
      clear h
      obtain ⟨m0, hm0⟩ := get_lt hlt'
      obtain ⟨m, y, rfl, hy⟩ := hkr m0 (List.mem_of_getElem? hm0)
      have hml := (List.getElem?_eq_some_iff.1 hy).1
      have hyo := hv.item y (List.mem_of_getElem? hy)
      have hly := leastP_bound hyo
      have hs : rowE w i ((aft w x).take (j + 1)) out = stepE w i (rowE w i ((aft w x).take j) out) m := by rw [rowE, take_snoc hm0, List.foldl_append]; rfl
      rw [stepE, itP_at hy, Int.toNat_natCast, Int.toNat_natCast] at hs
      generalize rowE w i ((aft w x).take j) out = OUT at *
      have r1 : (OUT.map eI)[0 + (i : Int).toNat]? = some (eI (OUT.getD i 0)) := by rw [Nat.zero_add, Int.toNat_natCast, List.getElem?_map, List.getD_eq_getElem?_getD, List.getElem?_eq_getElem (by omega)]; rfl
      have r2 : (OUT.map eI)[0 + (m : Int).toNat]? = some (eI (OUT.getD m 0)) := by rw [Nat.zero_add, Int.toNat_natCast, List.getElem?_map, List.getD_eq_getElem?_getD, List.getElem?_eq_getElem (by omega)]; rfl
      have b2 := ho2.getZ (by omega) m
      repeat (refine stp rfl ?_ ?_;·repeat' constructor)
      apply qst;exact rfl;exact rfl;exact q_idxm rfl rfl rfl rfl rfl (by omega) hm0 rfl
      repeat (refine stp rfl ?_ ?_;·repeat' constructor)
      apply qst;exact rfl;exact rfl;exact q_idxm rfl rfl rfl rfl rfl (by omega) hy rfl
      repeat (refine stp rfl ?_ ?_;·repeat' constructor)
      apply qst;exact rfl;exact rfl;exact q_callP rfl (least_ret y hyo.modes.1 (by have := hyo.modes; omega) (fun m hm => by have := hyo.mode m hm; exact ⟨this.1, this.2.1⟩)) rfl (by repeat' constructor) rfl rfl
      repeat (refine stp rfl ?_ ?_;·repeat' constructor)
      refine pw_draw 14 [45, 46, 47, 48, 49, 50, 51, 52, 53, 54, 55, 56, 57, 58] (by decide +kernel) ?_
      repeat (refine stp rfl ?_ ?_;·repeat' constructor)
      refine zqq rfl (q_idxA rfl rfl rfl rfl rfl rfl rfl (by omega) (by omega)) ?_
      repeat (refine stp rfl ?_ ?_;·repeat' constructor)
      refine zqq rfl (q_ldp rfl rfl rfl r1 rfl) ?_
      repeat (refine stp rfl ?_ ?_;·repeat' constructor)
      refine zqq rfl (q_idxA rfl rfl rfl rfl rfl rfl rfl (by omega) (by omega)) ?_
      repeat (refine stp rfl ?_ ?_;·repeat' constructor)
      refine zqq rfl (q_ldp rfl rfl rfl r2 rfl) ?_
      repeat (refine stp rfl ?_ ?_;·repeat' constructor)
      refine zqq rfl (q_idxA rfl rfl rfl rfl rfl rfl rfl (by omega) (by omega)) ?_
      repeat (refine stp rfl ?_ ?_;·repeat' constructor)
      refine ps_run0 (o_store (kd' := 0) rfl rfl rfl r1 rfl rfl (by repeat' constructor) rfl rfl rfl rfl ?_)
      repeat (refine stp rfl ?_ ?_;·repeat' constructor)
      refine ⟨j + 1, hlt', by omega, rfl, rfl, rfl, rfl, rfl, rfl, rfl, rfl, rfl, rfl, ?_, rfl, ?_, trivial⟩
      · exact i64_next (by omega) (by omega)
      · rw [hs, List.map_set]
        show (1, some (Cont.mk 3 1 ((OUT.map eI).set (0 + (i : Int).toNat) [I (imax (OUT.getD i 0) (IntKind.i64.wrap (OUT.getD m 0 + leastP y)))]) 0)) = _
        rw [Nat.zero_add, Int.toNat_natCast, wrap_i64 (by omega) (by omega)]
        rfl
    · have hge : j = (aft w x).length := by have := of_decide_eq_false h; omega
      subst hge
      clear h
      rw [List.take_length] at ho1 ho2 ⊢
      generalize rowE w i (aft w x) out = OUT at *
      have r1 : (OUT.map eI)[0 + (i : Int).toNat]? = some (eI (OUT.getD i 0)) := by rw [Nat.zero_add, Int.toNat_natCast, List.getElem?_map, List.getD_eq_getElem?_getD, List.getElem?_eq_getElem (by omega)]; rfl
      have b1 := ho2.getZ (by omega) i
      repeat (refine stp rfl ?_ ?_;·repeat' constructor)
      apply qst;exact rfl;exact rfl;exact q_idxm rfl rfl rfl rfl rfl (by omega) hx rfl
      repeat (refine stp rfl ?_ ?_;·repeat' constructor)
      apply qst;exact rfl;exact rfl;exact q_callP rfl (least_ret x hio.modes.1 (by have := hio.modes; omega) (fun m hm => by have := hio.mode m hm; exact ⟨this.1, this.2.1⟩)) rfl (by repeat' constructor) rfl rfl
      repeat (refine stp rfl ?_ ?_;·repeat' constructor)
      refine ps_q (q_idxA rfl rfl rfl rfl rfl rfl rfl (by omega) (by omega)) ?_
      repeat (refine stp rfl ?_ ?_;·repeat' constructor)
      refine ps_q (q_ldp rfl rfl rfl r1 rfl) ?_
      repeat (refine stp rfl ?_ ?_;·repeat' constructor)
      refine ⟨k + 1, hlt, by omega, rfl, rfl, rfl, ?_, rfl, rfl, ?_, rfl, ?_, trivial⟩
      · rw [hsucc]
        show I (imax last (IntKind.i64.wrap (OUT.getD i 0 + leastP x))) = I (imax last (OUT.getD i 0 + leastP x))
        rw [wrap_i64 (by omega) (by omega)]
      · exact i64_next (by omega) (by omega)
      · rw [hsucc]; rfl
  · have hge : k = (ordS w).length := by have := of_decide_eq_false h; omega
    subst hge
    have hfin : earlyK2 w (ordS w).length = earlyS w := by rw [earlyK2, List.take_length, earlyS]
    rw [hfin] at hc1 ⊢
    repeat (refine stp rfl ?_ ?_;·repeat' constructor)
    exact end2 rfl rfl rfl rfl rfl ⟨rfl, rfl, by rw [List.length_map, hc1]⟩ trivial rfl
end Go.Pv

/- The example, and the bound of a trade. -/
set_option maxHeartbeats 2000000
namespace Go.Pv
attribute [local irreducible] PWP POps PQuiet PSem XThen XBlock RetPost InlPost
open Go.Proofs

/-- Nil slices, told as empty ones. -/
def dn : Nat → PV → PV
  | 0, c => c
  | _ + 1, .nil => .sl []
  | n + 1, .agg cs => .agg (cs.map (dn n))
  | n + 1, .sl rows => .sl (rows.map (·.map (dn n)))
  | _ + 1, c => c
theorem dn_drep {w : World} {ok : Nat → Prop} : ∀ (n : Nat) (c : PV) (v : Value), DRep w ok c v → DRep w ok (dn n c) v
  | 0, _, _, h => h
  | n + 1, c, v, h => by
    cases h with
    | nil => exact .sl0 none 0
    | agg cs vs hl hd =>
      refine .agg _ vs (by simp [hl]) fun i c v e1 e2 => ?_
      rw [List.getElem?_map] at e1
      cases hq : cs[i]? with
      | none => rw [hq] at e1; simp at e1
      | some c0 => rw [hq] at e1; simp at e1; subst e1; exact dn_drep n _ _ (hd i c0 v hq e2)
    | sl0 a cap => exact .sl0 a cap
    | sl rows b off cap sz vals hb hs hcap hrow hcell hd =>
      have at_ : ∀ (i j : Nat) (row : List PV) (c : PV), (rows.map (·.map (dn n)))[i]? = some row → row[j]? = some c → ∃ row0 c0, rows[i]? = some row0 ∧ row0[j]? = some c0 ∧ dn n c0 = c := fun i j row c e1 e2 => map_at e1 e2
      have := DRep.sl (w := w) (ok := ok) (rows.map (·.map (dn n))) b off cap sz vals hb hs (by simpa using hcap) (fun row hr => by
        obtain ⟨r0, h0, rfl⟩ := List.mem_map.1 hr
        simpa using hrow r0 h0) (fun i j row c e1 e2 => by
        obtain ⟨row0, c0, f1, f2, _⟩ := at_ i j row c e1 e2
        exact hcell i j row0 c0 f1 f2) (fun i j row c e1 e2 => by
        obtain ⟨row0, c0, f1, f2, rfl⟩ := at_ i j row c e1 e2
        exact dn_drep n _ _ (hd i j row0 c0 f1 f2))
      rwa [List.length_map] at this
    | bool b => exact .bool b
    | int k m => exact .int k m
    | str s => exact .str s
    | tup cs vs hl hd => exact .tup cs vs hl hd
    | dref cs j b off vals h1 h2 h3 => exact .dref cs j b off vals h1 h2 h3
    | clo f caps vs hl hd => exact .clo f caps vs hl hd
    | mapd rows b es h1 h2 h3 h4 h5 h6 h7 => exact .mapd rows b es h1 h2 h3 h4 h5 h6 h7
    | raw u =>
      show DRep w ok (.raw v) v
      exact .raw v
theorem Ret.dn {P : Program} {m : Mode} {f : FuncId} {args : List PV} {r : PV} (n : Nat) (h : Ret P m f args r) : Ret P m f args (Pv.dn n r) :=
  ⟨h.1, fun w X args h1 h2 h3 => (h.2 w X args h1 h2 h3).mono fun _ _ ⟨v, e1, e2, e3⟩ => ⟨v, e1, e2, dn_drep n _ _ e3⟩⟩

def itemA : SItem := ⟨[97], [119], [⟨2, 1⟩], [], -1, false, []⟩
def itemB : SItem := ⟨[98], [119], [⟨1, 2⟩], [], -1, false, []⟩
def tradeW : STrade := ⟨[119], 2, 100⟩
def pairW : SWork := ⟨[itemA, itemB], [tradeW], [], [], [], 10, 0, 0, 9⟩
def pairS : List SSlot := [⟨[97], 0, 0⟩, ⟨[98], 0, 2⟩]
theorem pair_sane : Sane pairW := by
  refine ⟨by decide, by decide, by decide, by decide, by decide, by decide, fun x hx => ?_⟩
  simp [pairW] at hx
  rcases hx with rfl | rfl <;> decide
theorem pair_ret : Ret Try.prog .shared 42 [] (.agg (eWork pairW)) := by
  have : Ret Try.prog .shared 42 [] (.agg [.sl [[.str [97], .str [119], .sl [[I 2, I 1]], .str [], I (-1), .bool false, .nil], [.str [98], .str [119], .sl [[I 1, I 2]], .str [], I (-1), .bool false, .nil]], .sl [[.str [119], I 2, I 100]], .nil, .nil, .nil, I 10, I 0, I 0, I 9]) := by
    refine Ret.of_pwp layOk mixed Go.Proofs.Try.func42 rfl (by decide) rfl rfl ?_
    repeat (refine stp rfl ?_ ?_;·repeat' constructor)
    apply qst;exact rfl;exact rfl;exact q_slit rfl rfl rfl rfl rfl rfl rfl rfl rfl rfl (by repeat' constructor) rfl
    repeat (refine stp rfl ?_ ?_;·repeat' constructor)
    apply qst;exact rfl;exact rfl;exact q_slit rfl rfl rfl rfl rfl rfl rfl rfl rfl rfl (by repeat' constructor) rfl
    repeat (refine stp rfl ?_ ?_;·repeat' constructor)
    apply qst;exact rfl;exact rfl;exact q_slit rfl rfl rfl rfl rfl rfl rfl rfl rfl rfl (by repeat' constructor) rfl
    repeat (refine stp rfl ?_ ?_;·repeat' constructor)
    apply qst;exact rfl;exact rfl;exact q_slit rfl rfl rfl rfl rfl rfl rfl rfl rfl rfl (by repeat' constructor) rfl
    repeat (refine stp rfl ?_ ?_;·repeat' constructor)
    exact endc rfl rfl rfl rfl (by repeat' constructor) rfl
  exact this.dn 6
theorem pair_work : workE pairW = 0 := by decide +kernel
theorem pair_cost : Ret Try.prog .shared 41 [.agg (eWork pairW), .sl (pairS.map eSlot)] (.tup [I 430, I 0]) := by
  have h := costF_ret pairW pair_sane pairS
  have h1 : planE pairW pairS = 0 := by decide +kernel
  have h2 : costP pairW (placed pairW pairS) = 430 := by decide +kernel
  rw [h1, if_pos rfl, h2] at h
  exact h

/-! ### The bound of a trade -/
def sumT (w : SWork) (t : STrade) (a : Int) (x : SItem) : Int := if x.trade = t.name then a + lwP x else a
def sumB (w : SWork) (t : STrade) : Int := w.items.foldl (sumT w t) 0
def tradeB (w : SWork) (t : STrade) : Int := if sumB w t = 0 then 0 else (sumB w t + t.crew - 1).tdiv t.crew
theorem lwP_bound {w : SWork} {x : SItem} (h : ItemOk w x) : 0 ≤ lwP x ∧ lwP x ≤ 60000 := by
  have hm0 : x.modes[0]? = some (modeAt x 0) := by rw [modeAt]; show _ = some ((x.modes[0]?).getD _); rw [List.getElem?_eq_getElem (by have := h.modes; omega)]; rfl
  have h0 := h.mode _ (List.mem_of_getElem? hm0)
  have hb := mul_bound (A := 60) (B := 1000) (by omega) h0.1.2 h0.2.1.1 h0.2.1.2
  refine fold_bound' x.modes _ (fun a m hm ha hb => ?_) hb.1 hb.2
  have h1 := h.mode m hm
  have h2 := mul_bound (A := 60) (B := 1000) (by omega) h1.1.2 h1.2.1.1 h1.2.1.2
  unfold workF imin
  split <;> omega
theorem sumK_bound {w : SWork} (hv : Well w) (t : STrade) (k : Nat) (hk : k ≤ w.items.length) : 0 ≤ (w.items.take k).foldl (sumT w t) 0 ∧ (w.items.take k).foldl (sumT w t) 0 ≤ 60000 * k := by
  induction k with
  | zero => simp
  | succ k ih =>
    have ih := ih (by omega)
    obtain ⟨x, hx⟩ := get_lt (show k < w.items.length by omega)
    have hl := lwP_bound (hv.item x (List.mem_of_getElem? hx))
    rw [take_snoc hx, List.foldl_append]
    generalize List.foldl (sumT w t) 0 (w.items.take k) = a at ih ⊢
    show 0 ≤ sumT w t a x ∧ sumT w t a x ≤ _
    unfold sumT
    split <;> omega
theorem tradeBound_ret (w : SWork) (hv : Well w) (t : STrade) (ht : 0 ≤ t.crew ∧ t.crew ≤ 1000) (hc : sumB w t ≠ 0 → t.crew ≠ 0) : Ret Try.prog .shared 78 [.agg (eWork w), .agg (eTrade t)] (I (tradeB w t)) := by
  have hn := hv.n40
  have hsb := sumK_bound hv t w.items.length (Nat.le_refl _)
  rw [List.take_length] at hsb
  replace hsb : 0 ≤ sumB w t ∧ sumB w t ≤ 60000 * w.items.length := hsb
  have hml : (w.items.map eItem).length = w.items.length := by simp
  refine Ret.of_pwp layOk mixed Go.Proofs.Try.func78 rfl (by decide) rfl rfl ?_
  repeat (refine stp rfl ?_ ?_;·repeat' constructor)
  refine pw_loop (fun k => k ≤ w.items.length) (fun k => [(2, .ptr 2 1 0 0), (3, .ptr 3 1 0 0), (5, I ((w.items.take k).foldl (sumT w t) 0)), (11, .sl (w.items.map eItem)), (12, I w.items.length), (13, I k)]) (fun _ => [(2, 1, ⟨28, 9, [eWork w], 2⟩), (3, 1, ⟨86, 3, [eTrade t], 2⟩)]) (fun k => w.items.length - k) 0 (Nat.zero_le _) ⟨rfl, rfl, rfl, rfl, ?_, rfl, rfl, rfl, trivial⟩ ?_
  · show I ((w.items.map eItem).length) = _
    rw [hml]
  intro k s hk
  repeat (refine stp rfl ?_ ?_;·repeat' constructor)
  refine pw_cond rfl (fun h => ?_) (fun h => ?_)
  · have hlt : k < w.items.length := by simpa using h
    obtain ⟨x, hx⟩ := get_lt hlt
    clear h
    have hio := hv.item x (List.mem_of_getElem? hx)
    have hb := sumK_bound hv t (k + 1) hlt
    have hs := take_snoc hx
    rw [hs, List.foldl_append] at hb
    replace hb : 0 ≤ sumT w t ((w.items.take k).foldl (sumT w t) 0) x ∧ sumT w t ((w.items.take k).foldl (sumT w t) 0) x ≤ _ := hb
    repeat (refine stp rfl ?_ ?_;·repeat' constructor)
    apply qst;exact rfl;exact rfl;exact q_idxm rfl rfl rfl rfl rfl (by omega) hx rfl
    repeat (refine stp rfl ?_ ?_;·repeat' constructor)
    refine pw_cond rfl (fun h => ?_) (fun h => ?_)
    · have he : x.trade = t.name := of_decide_eq_true h
      clear h
      have hst : ∀ a, sumT w t a x = a + lwP x := fun a => by rw [sumT, if_pos he]
      rw [hst] at hb
      repeat (refine stp rfl ?_ ?_;·repeat' constructor)
      apply qst;exact rfl;exact rfl;exact q_callP rfl (least_ret x hio.modes.1 (by have := hio.modes; omega) (fun m hm => by have := hio.mode m hm; exact ⟨this.1, this.2.1⟩)) rfl (by repeat' constructor) rfl rfl
      repeat (refine stp rfl ?_ ?_;·repeat' constructor)
      refine ⟨k + 1, hlt, by omega, rfl, rfl, ?_, rfl, rfl, ?_, rfl, rfl, trivial⟩
      · rw [hs, List.foldl_append]
        show PV.int .i64 (IntKind.i64.wrap ((w.items.take k).foldl (sumT w t) 0 + lwP x)) = I (sumT w t ((w.items.take k).foldl (sumT w t) 0) x)
        rw [wrap_i64 (by omega) (by omega), hst]
      · exact i64_next (by omega) (by omega)
    · have he : ¬ x.trade = t.name := of_decide_eq_false h
      clear h
      have hst : ∀ a, sumT w t a x = a := fun a => by rw [sumT, if_neg he]
      repeat (refine stp rfl ?_ ?_;·repeat' constructor)
      refine ⟨k + 1, hlt, by omega, rfl, rfl, ?_, rfl, rfl, ?_, rfl, rfl, trivial⟩
      · rw [hs, List.foldl_append]
        show _ = I (sumT w t ((w.items.take k).foldl (sumT w t) 0) x)
        rw [hst]; rfl
      · exact i64_next (by omega) (by omega)
  · have hge : k = w.items.length := by have := of_decide_eq_false h; omega
    subst hge
    rw [List.take_length]
    clear h
    repeat (refine stp rfl ?_ ?_;·repeat' constructor)
    refine pw_cond rfl (fun h => ?_) (fun h => ?_)
    · have hz : sumB w t = 0 := of_decide_eq_true h
      repeat (refine stp rfl ?_ ?_;·repeat' constructor)
      exact end1i rfl rfl (by rw [tradeB, if_pos hz])
    · have hz : ¬ sumB w t = 0 := of_decide_eq_false h
      have hc := hc hz
      repeat (refine stp rfl ?_ ?_;·repeat' constructor)
      refine ps_v rfl hc ?_
      repeat (refine stp rfl ?_ ?_;·repeat' constructor)
      refine end1i rfl rfl ?_
      rw [tradeB, if_neg hz]
      show PV.int .i64 (IntKind.i64.wrap ((IntKind.i64.wrap (IntKind.i64.wrap (sumB w t + t.crew) - 1)).tdiv t.crew)) = _
      rw [wrap_i64 (n := sumB w t + t.crew) (by omega) (by omega), wrap_i64 (n := sumB w t + t.crew - 1) (by omega) (by omega)]
      have h1 := Int.tdiv_nonneg (a := sumB w t + t.crew - 1) (b := t.crew) (by omega) ht.1
      have h2 : (sumB w t + t.crew - 1).tdiv t.crew ≤ sumB w t + t.crew - 1 := by
        rw [Int.tdiv_eq_ediv_of_nonneg (by omega)]
        exact Int.ediv_le_self _ (by omega)
      rw [wrap_i64 (by omega) (by omega)]
end Go.Pv

/- The example's longest chain. -/
set_option maxHeartbeats 2000000
namespace Go.Pv
attribute [local irreducible] PWP POps PQuiet PSem XThen XBlock RetPost InlPost
open Go.Proofs

theorem endm {L : Lay} {s : St} {fn : Func} {r d : PV} {l : List PV} {A Cd : Prop} {fl : Fl} (h : rvs L s fn.results.toList = some (l, A)) (ha : A) (hres : res s 5 (tupled l) = some (d, Cd, fl)) (hc : Cd) (hd : d = r) : RetPost L fn .shared r .ret s := by
  unfold RetPost
  exact ⟨l, A, d, Cd, fl, h, ha, hres, hc, trivial, hd⟩

theorem pair_well : Well pairW := well_of pair_work
theorem pair_chain : Ret Try.prog .shared 116 [.agg (eWork pairW)] (.sl [[I 2], [I 1]]) := by
  have h := chainFrom_ret pairW pair_sane pair_well
  rw [show chainS pairW = [2, 1] by decide +kernel] at h
  exact h
theorem pair_bef : Ret Try.prog .shared 97 [.agg (eWork pairW)] (.sl [[.sl []], [.sl []]]) := by
  have h := before_ret pairW (by decide) (by decide)
  rw [show bef pairW = [[], []] by decide +kernel] at h
  exact h
theorem pair_index : Ret Try.prog .shared 117 [.sl [[I 2], [I 1]], I 2] (I 0) := by
  have h := indexI_ret [2, 1] 2 (by decide)
  rw [show idx [2, 1] (· == (2 : Int)) = 0 by decide +kernel] at h
  exact h
theorem pair_clo (x : Int) : Ret Try.prog .shared 120 [I x, .dref [I 0] 0] (.bool (x == 0)) := by
  refine Ret.of_pwp layOk mixed Go.Proofs.Try.func120 rfl (by decide) rfl rfl ?_
  repeat (refine stp rfl ?_ ?_;·repeat' constructor)
  exact end1b rfl rfl rfl
theorem pair_find : Ret Try.prog .shared 119 [.sl [[I 2], [I 1]], .clo 120 [.dref [I 0] 0]] (I (-1)) := by
  have h := indexFI_ret [2, 1] 120 [I 0] (· == 0) (by decide) (fun x _ => pair_clo x)
  rw [show idx [2, 1] (· == (0 : Int)) = -1 by decide +kernel] at h
  exact h
theorem pair_least : Ret Try.prog .shared 118 [.agg (eItem itemA)] (.tup [I 2, I 2]) := by
  have h := least_ret itemA (by decide) (by decide) (by intro m hm; simp [itemA] at hm; subst hm; decide)
  rw [show leastP itemA = 2 by decide +kernel, show lwP itemA = 2 by decide +kernel] at h
  exact h

def mxP : Nat → Int
  | 0 => 0
  | _ => 2
set_option maxRecDepth 20000 in
theorem pair_longest : Ret Try.prog .shared 77 [.agg (eWork pairW)] (.agg [I 2, .sl [[.str [97]]], .str []]) := by
  refine Ret.of_pwp layOk mixed Go.Proofs.Try.func77 rfl (by decide) rfl rfl ?_
  repeat (refine stp rfl ?_ ?_;·repeat' constructor)
  apply qst;exact rfl;exact rfl;exact q_call rfl (pair_chain) rfl (by repeat' constructor) rfl
  repeat (refine stp rfl ?_ ?_;·repeat' constructor)
  apply qst;exact rfl;exact rfl;exact q_call rfl (pair_bef) rfl (by repeat' constructor) rfl
  repeat (refine stp rfl ?_ ?_;·repeat' constructor)
  refine pw_loop (fun (k : Nat) => k ≤ 2) (fun k => [(1, .ptr 1 1 0 0), (2, .ptr 2 1 0 0), (3, .sl [[I 2], [I 1]]), (4, .sl [[.sl []], [.sl []]]), (5, .ptr 5 1 0 0), (19, .sl [[I 2], [I 1]]), (20, I 2), (21, I k)])
    (fun k => [(1, 1, ⟨28, 9, [eWork pairW], 2⟩), (2, 1, ⟨60, 3, [[I 0, .nil, .str []]], 2⟩), (5, 1, ⟨60, 3, [[I (mxP k), .nil, .str []]], 2⟩)]) (fun k => 2 - k) 0 (by omega) ⟨rfl, rfl, rfl, rfl, rfl, rfl, rfl, rfl, rfl, rfl, rfl, trivial⟩ ?_
  intro k s hk
  obtain rfl | rfl | rfl : k = 0 ∨ k = 1 ∨ k = 2 := by omega
  · repeat (refine stp rfl ?_ ?_;·repeat' constructor)
    refine zsq rfl (q_idx rfl rfl rfl rfl rfl (by decide) rfl rfl) ?_
    repeat (refine stp rfl ?_ ?_;·repeat' constructor)
    exact ⟨1, by omega, by omega, rfl, rfl, rfl, rfl, rfl, rfl, rfl, rfl, rfl, rfl, rfl, trivial⟩
  · repeat (refine stp rfl ?_ ?_;·repeat' constructor)
    refine zsq rfl (q_idx rfl rfl rfl rfl rfl (by decide) rfl rfl) ?_
    repeat (refine stp rfl ?_ ?_;·repeat' constructor)
    exact ⟨2, by omega, by omega, rfl, rfl, rfl, rfl, rfl, rfl, rfl, rfl, rfl, rfl, rfl, trivial⟩
  repeat (refine stp rfl ?_ ?_;·repeat' constructor)
  refine pw_ghost (Ghost.drop (k := 9) rfl) ?_
  refine pw_draw2 6 1 [31, 32, 33, 34, 35, 36, 9] [4,5] (by decide +kernel) rfl ?_
  repeat (refine stp rfl ?_ ?_;·repeat' constructor)
  apply qst;exact rfl;exact rfl;exact q_callP rfl (pair_index) rfl (by repeat' constructor) rfl rfl
  repeat (refine stp rfl ?_ ?_;·repeat' constructor)
  refine ⟨by kernel_rfl, ?_⟩
  repeat (refine stp rfl ?_ ?_;·repeat' constructor)
  refine pw_loop (fun (_ : Option Nat) => True)
    (fun i => [(1, .ptr 1 1 0 0), (2, .ptr 2 1 0 0), (3, .sl [[I 2], [I 1]]), (4, .sl [[.sl []], [.sl []]]), (5, .ptr 5 1 0 0), (8, match i with | none => I 0 | some _ => I (-1)), (9, .ptr 9 ((s.own 9).1 + 2 + 1) 0 0)])
    (fun i => match i with
      | none => [(1, 1, ⟨28, 9, [eWork pairW], 2⟩), (2, 1, ⟨60, 3, [[I 0, .nil, .str []]], 2⟩), (5, 1, ⟨60, 3, [[I 2, .nil, .str []]], 2⟩), (9, (s.own 9).1 + 2 + 1, ⟨3, 1, [[I 2]], 2⟩)]
      | some g => [(1, 1, ⟨28, 9, [eWork pairW], 2⟩), (2, 1, ⟨60, 3, [[I 0, .nil, .str []]], 2⟩), (5, 1, ⟨60, 3, [[I 2, .als 48 g 0 1, .str []]], 2⟩), (9, (s.own 9).1 + 2 + 1, ⟨3, 1, [[I 0]], 2⟩), (48, g, ⟨9, 1, [[.str [97]]], 0⟩)])
    (fun i => match i with | none => 1 | some _ => 0) none trivial ⟨rfl, rfl, rfl, rfl, rfl, rfl, rfl, rfl, rfl, rfl, rfl, trivial⟩ ?_
  intro i s2 _
  cases i with
  | none =>
    repeat (refine stp rfl ?_ ?_;·repeat' constructor)
    refine pw_draw 9 [39, 40, 41, 42, 43, 44, 45, 46, 47] (by decide +kernel) ?_
    repeat (refine stp rfl ?_ ?_;·repeat' constructor)
    refine zqq rfl (q_idx rfl rfl rfl rfl rfl (by decide) rfl rfl) ?_
    repeat (refine stp rfl ?_ ?_;·repeat' constructor)
    apply qst;exact rfl;exact rfl;exact q_slit rfl rfl rfl rfl rfl rfl rfl rfl rfl rfl (by repeat' constructor) rfl
    repeat (refine stp rfl ?_ ?_;·repeat' constructor)
    refine ps_run (o_appN rfl rfl rfl rfl rfl rfl rfl rfl (by repeat' constructor) (by intro row hr; simp at hr; subst hr; rfl) (by decide) (by decide) ?_)
    repeat (refine stp rfl ?_ ?_;·repeat' constructor)
    refine zsq rfl (q_idx rfl rfl rfl rfl rfl (by decide) rfl rfl) ?_
    repeat (refine stp rfl ?_ ?_;·repeat' constructor)
    apply qst;exact rfl;exact rfl;exact q_call rfl (pair_least) rfl (by repeat' constructor) rfl
    repeat (refine stp rfl ?_ ?_;·repeat' constructor)
    apply qst;exact rfl;exact rfl;exact q_callP rfl (pair_find) rfl (by repeat' constructor) rfl rfl
    repeat (refine stp rfl ?_ ?_;·repeat' constructor)
    refine pw_loop (fun (_ : Unit) => True) (fun _ => [(1, .ptr 1 1 0 0), (2, .ptr 2 1 0 0), (3, .sl [[I 2], [I 1]]), (4, .sl [[.sl []], [.sl []]]), (5, .ptr 5 1 0 0), (8, I (-1)), (9, .ptr 9 ((s.own 9).1 + 2 + 1) 0 0)])
      (fun _ => [(1, 1, ⟨28, 9, [eWork pairW], 2⟩), (2, 1, ⟨60, 3, [[I 0, .nil, .str []]], 2⟩), (5, 1, ⟨60, 3, [[I 2, .als 48 ((s2.own 48).1 + 1) 0 1, .str []]], 2⟩), (9, (s.own 9).1 + 2 + 1, ⟨3, 1, [[I 0]], 2⟩), (48, (s2.own 48).1 + 1, ⟨9, 1, [[.str [97]]], 0⟩)])
      (fun _ => 0) () trivial ⟨rfl, rfl, rfl, rfl, rfl, rfl, rfl, rfl, rfl, rfl, rfl, rfl, trivial⟩ ?_
    intro _ s3 _
    repeat (refine stp rfl ?_ ?_;·repeat' constructor)
    exact ⟨some ((s2.own 48).1 + 1), trivial, Nat.zero_lt_one, rfl, rfl, rfl, rfl, rfl, rfl, rfl, rfl, rfl, rfl, rfl, rfl, trivial⟩
  | some g =>
    repeat (refine stp rfl ?_ ?_;·repeat' constructor)
    exact endc rfl rfl rfl rfl (by repeat' constructor) rfl
end Go.Pv

/- The earliest days: the program's answer, and the reference's. -/
set_option maxHeartbeats 2000000
namespace Go.Pv
attribute [local irreducible] PWP POps PQuiet PSem XThen XBlock RetPost InlPost
open Go.Proofs

def earliestR (w : SWork) : PV := if workE w = 0 then .tup [.sl ((earlyS w).1.map eI), I (earlyS w).2, I 0] else .tup [.nil, I 0, I (workE w)]
theorem earliest_ret (w : SWork) (hw : Sane w) : Ret Try.prog .shared 33 [.agg (eWork w)] (earliestR w) := by
  have h20 := checkWork_ret w hw
  by_cases hz : workE w = 0
  · have h85 := earliest0_ret w hw (well_of hz)
    rw [earliestR, if_pos hz]
    rw [hz] at h20
    refine Ret.of_pwp layOk mixed Go.Proofs.Try.func33 rfl (by decide) rfl rfl ?_
    repeat (refine stp rfl ?_ ?_;·repeat' constructor)
    apply qst;exact rfl;exact rfl;exact q_callP rfl (h20) rfl (by repeat' constructor) rfl rfl
    repeat (refine stp rfl ?_ ?_;·repeat' constructor)
    apply qst;exact rfl;exact rfl;exact q_call rfl (h85) rfl (by repeat' constructor) rfl
    repeat (refine stp rfl ?_ ?_;·repeat' constructor)
    exact endm rfl (by repeat' constructor) rfl (by repeat' constructor) rfl
  · rw [earliestR, if_neg hz]
    generalize workE w = e at *
    refine Ret.of_pwp layOk mixed Go.Proofs.Try.func33 rfl (by decide) rfl rfl ?_
    repeat (refine stp rfl ?_ ?_;·repeat' constructor)
    apply qst;exact rfl;exact rfl;exact q_callP rfl (h20) rfl (by repeat' constructor) rfl rfl
    repeat (refine stp rfl ?_ ?_;·repeat' constructor)
    refine pw_cond rfl (fun h => ?_) (fun h => ?_)
    · repeat (refine stp rfl ?_ ?_;·repeat' constructor)
      exact endm rfl (by repeat' constructor) rfl (by repeat' constructor) rfl
    · exact absurd (by simpa using h) hz

theorem idx_known {w : SWork} (hv : Well w) {x : SItem} (hx : x ∈ w.items) {j : Nat} {nm : Str} {m : Int} (h1 : x.after[j]? = some nm) (h2 : (aft w x)[j]? = some m) : idx w.items (·.name == nm) = m := by
  rw [aft, List.getElem?_map, h1] at h2
  have h2 := Option.some.inj h2
  rw [← h2]
  show _ = idx (w.items.map (·.name)) (· == nm)
  rw [idx_map]
theorem ord_name {w : SWork} (hv : Well w) {k i : Nat} {x : SItem} (hk : (ordS w)[k]? = some (i : Int)) (hx : w.items[i]? = some x) : ((ordS w).map (nameAt w))[k]? = some x.name := by
  rw [List.getElem?_map, hk]
  exact congrArg some (nameAt_at hx)
theorem order_ref' (w : SWork) (hw : Sane w) (hv : Well w) : Ret Try.prog .shared 22 [.agg (eWork w)] (.sl (((ordS w).map (nameAt w)).map eS)) := by
  have := order_ref w hw
  rwa [(refOrd_eq hv.good).1] at this

set_option maxRecDepth 20000 in
theorem earliest_ref (w : SWork) (hw : Sane w) (hv : Well w) : Ret Try.prog .shared 36 [.agg (eWork w)] (.tup [.sl ((earlyS w).1.map eI), I (earlyS w).2]) := by
  have h1 := hw.items
  have hn40 := hv.n40
  have hol := ordS_len w
  have hwl : ((w.items.map eItem).length : Int) = w.items.length := by simp
  have hLl : ((((ordS w).map (nameAt w)).map eS).length : Int) = (ordS w).length := by simp
  refine Ret.of_pwp layOk mixed Go.Proofs.Try.func36 rfl (by decide) rfl rfl ?_
  repeat (refine stp rfl ?_ ?_;·repeat' constructor)
  refine ps_run (o_make rfl rfl rfl rfl rfl rfl rfl rfl (by omega) (by rw [hwl]; show ((8 : Nat) : Int) * _ ≤ _; omega) (by rw [hwl]; omega) ?_)
  repeat (refine stp rfl ?_ ?_;·repeat' constructor)
  apply qst;exact rfl;exact rfl;exact q_call rfl (order_ref' w hw hv) rfl (by repeat' constructor) rfl
  repeat (refine stp rfl ?_ ?_;·repeat' constructor)
  refine pw_loop (fun k => k ≤ (ordS w).length) (fun k => [(1, .ptr 1 1 0 0), (4, .als 14 1 0 w.items.length), (5, I (earlyK2 w k).2), (6, .sl (((ordS w).map (nameAt w)).map eS)), (7, I k)])
    (fun k => [(1, 1, ⟨28, 9, [eWork w], 2⟩), (14, 1, ⟨3, 1, (earlyK2 w k).1.map eI, 0⟩)]) (fun k => (ordS w).length - k) 0 (Nat.zero_le _) ⟨rfl, ?_, rfl, rfl, rfl, rfl, ?_, trivial⟩ ?_
  · show PV.als 14 1 0 (List.length (List.replicate (Int.toNat (w.items.map eItem).length) _)) = _
    simp
  · show (1, some (Cont.mk 3 1 (List.replicate (Int.toNat (w.items.map eItem).length) _) 0)) = _
    simp [earlyK2, eI]
  intro k s hk
  obtain ⟨hc1, hc2, hc3, hc4⟩ := earlyK2_ok hw hv k hk
  repeat (refine stp rfl ?_ ?_;·repeat' constructor)
  refine pw_cond rfl (fun h => ?_) (fun h => ?_)
  · have hlt : k < (ordS w).length := by have := of_decide_eq_true h; omega
    clear h
    obtain ⟨y0, hy0⟩ := get_lt hlt
    obtain ⟨i, x, rfl, hx⟩ := (refOrd_eq hv.good).2 y0 (List.mem_of_getElem? hy0)
    have hil := (List.getElem?_eq_some_iff.1 hx).1
    have hxm := List.mem_of_getElem? hx
    have hax := hw.after x hxm
    have hal : (aft w x).length = x.after.length := by simp [aft]
    have hio := hv.item x hxm
    have hlb := leastP_bound hio
    have hnm := ord_name hv hy0 hx
    have hiu := hv.good.uniq i x hx
    have h24 := itemOf_ret w x.name (by omega)
    rw [hiu] at h24
    have hkr := known_row hv hxm
    have hro := fun j hj => rowE_ok hv (i : Int) hkr hc2 (by omega) j hj
    have hsucc := earlyK2_succ hy0 hx
    generalize earlyK2 w k = st at *
    obtain ⟨out, last⟩ := st
    replace hc1 : out.length = w.items.length := hc1
    replace hc3 : 0 ≤ last := hc3
    replace hc4 : last ≤ 6000060 * (k : Int) := hc4
    replace hro : ∀ j, j ≤ (aft w x).length → (rowE w i ((aft w x).take j) out).length = out.length ∧ BndL (rowE w i ((aft w x).take j) out) (6000060 * k + 60 * j) := hro
    replace hsucc : earlyK2 w (k + 1) = (rowE w i (aft w x) out, imax last ((rowE w i (aft w x) out).getD i 0 + leastP x)) := hsucc
    repeat (refine stp rfl ?_ ?_;·repeat' constructor)
    refine pw_draw 7 [23, 24, 25, 26, 27, 28, 8] (by decide +kernel) ?_
    repeat (refine stp rfl ?_ ?_;·repeat' constructor)
    apply qst;exact rfl;exact rfl;exact q_idxm rfl rfl rfl rfl rfl (by omega) hnm rfl
    repeat (refine stp rfl ?_ ?_;·repeat' constructor)
    apply qst;exact rfl;exact rfl;exact q_callP rfl (h24) rfl (by repeat' constructor) rfl rfl
    repeat (refine stp rfl ?_ ?_;·repeat' constructor)
    refine pw_loop (fun j => j ≤ (aft w x).length) (fun j => [(1, .ptr 1 1 0 0), (4, .als 14 1 0 w.items.length), (5, I last), (6, .sl (((ordS w).map (nameAt w)).map eS)), (7, I k), (8, I i), (9, I j)])
      (fun j => [(1, 1, ⟨28, 9, [eWork w], 2⟩), (14, 1, ⟨3, 1, (rowE w i ((aft w x).take j) out).map eI, 0⟩)]) (fun j => (aft w x).length - j) 0 (Nat.zero_le _) ⟨rfl, rfl, rfl, rfl, rfl, rfl, rfl, rfl, rfl, trivial⟩ ?_
    intro j s2 hj
    obtain ⟨ho1, ho2⟩ := hro j hj
    repeat (refine stp rfl ?_ ?_;·repeat' constructor)
    apply qst;exact rfl;exact rfl;exact q_idxm rfl rfl rfl rfl rfl (by omega) hx rfl
    repeat (refine stp rfl ?_ ?_;·repeat' constructor)
    refine pw_cond rfl (fun h => ?_) (fun h => ?_)
    · have hlt' : j < (aft w x).length := by have := of_decide_eq_true h; rw [List.length_map] at this; omega
      clear h
      obtain ⟨m0, hm0⟩ := get_lt hlt'
      obtain ⟨m, y, rfl, hy⟩ := hkr m0 (List.mem_of_getElem? hm0)
      obtain ⟨nm, hn2⟩ := get_lt (show j < x.after.length by omega)
      have h24m := itemOf_ret w nm (by omega)
      rw [idx_known hv hxm hn2 hm0] at h24m
      have hml := (List.getElem?_eq_some_iff.1 hy).1
      have hyo := hv.item y (List.mem_of_getElem? hy)
      have hly := leastP_bound hyo
      have hs : rowE w i ((aft w x).take (j + 1)) out = stepE w i (rowE w i ((aft w x).take j) out) m := by rw [rowE, take_snoc hm0, List.foldl_append]; rfl
      rw [stepE, itP_at hy, Int.toNat_natCast, Int.toNat_natCast] at hs
      generalize rowE w i ((aft w x).take j) out = OUT at *
      have r1 : (OUT.map eI)[0 + (i : Int).toNat]? = some (eI (OUT.getD i 0)) := by rw [Nat.zero_add, Int.toNat_natCast, List.getElem?_map, List.getD_eq_getElem?_getD, List.getElem?_eq_getElem (by omega)]; rfl
      have r2 : (OUT.map eI)[0 + (m : Int).toNat]? = some (eI (OUT.getD m 0)) := by rw [Nat.zero_add, Int.toNat_natCast, List.getElem?_map, List.getD_eq_getElem?_getD, List.getElem?_eq_getElem (by omega)]; rfl
      have b2 := ho2.getZ (by omega) m
      repeat (refine stp rfl ?_ ?_;·repeat' constructor)
      refine pw_draw 12 [40, 41, 42, 43, 44, 45, 46, 47, 48, 49, 50, 10] (by decide +kernel) ?_
      repeat (refine stp rfl ?_ ?_;·repeat' constructor)
      apply qst;exact rfl;exact rfl;exact q_idxm rfl rfl rfl rfl rfl (by omega) hx rfl
      repeat (refine stp rfl ?_ ?_;·repeat' constructor)
      apply qst;exact rfl;exact rfl;exact q_idxm rfl rfl rfl rfl rfl (by omega) hn2 rfl
      repeat (refine stp rfl ?_ ?_;·repeat' constructor)
      apply qst;exact rfl;exact rfl;exact q_callP rfl (h24m) rfl (by repeat' constructor) rfl rfl
      repeat (refine stp rfl ?_ ?_;·repeat' constructor)
      refine pw_draw 19 [51, 52, 53, 54, 55, 56, 57, 58, 59, 60, 61, 62, 63, 64, 65, 66, 67, 68, 69] (by decide +kernel) ?_
      repeat (refine stp rfl ?_ ?_;·repeat' constructor)
      refine zqq rfl (q_idxA rfl rfl rfl rfl rfl rfl rfl (by omega) (by omega)) ?_
      repeat (refine stp rfl ?_ ?_;·repeat' constructor)
      refine zqq rfl (q_ldp rfl rfl rfl r1 rfl) ?_
      repeat (refine stp rfl ?_ ?_;·repeat' constructor)
      refine zqq rfl (q_idxA rfl rfl rfl rfl rfl rfl rfl (by omega) (by omega)) ?_
      repeat (refine stp rfl ?_ ?_;·repeat' constructor)
      refine zqq rfl (q_ldp rfl rfl rfl r2 rfl) ?_
      repeat (refine stp rfl ?_ ?_;·repeat' constructor)
      apply qst;exact rfl;exact rfl;exact q_idxm rfl rfl rfl rfl rfl (by omega) hy rfl
      repeat (refine stp rfl ?_ ?_;·repeat' constructor)
      apply qst;exact rfl;exact rfl;exact q_callP rfl (least_ref y hyo.modes.1 (by have := hyo.modes; omega)) rfl (by repeat' constructor) rfl rfl
      repeat (refine stp rfl ?_ ?_;·repeat' constructor)
      refine zqq rfl (q_idxA rfl rfl rfl rfl rfl rfl rfl (by omega) (by omega)) ?_
      repeat (refine stp rfl ?_ ?_;·repeat' constructor)
      refine ps_run0 (o_store (kd' := 0) rfl rfl rfl r1 rfl rfl (by repeat' constructor) rfl rfl rfl rfl ?_)
      repeat (refine stp rfl ?_ ?_;·repeat' constructor)
      refine ⟨j + 1, hlt', by omega, rfl, rfl, rfl, rfl, rfl, rfl, ?_, rfl, ?_, trivial⟩
      · exact i64_next (by omega) (by omega)
      · rw [hs, List.map_set]
        show (1, some (Cont.mk 3 1 ((OUT.map eI).set (0 + (i : Int).toNat) [I (imax (OUT.getD i 0) (IntKind.i64.wrap (OUT.getD m 0 + leastP y)))]) 0)) = _
        rw [Nat.zero_add, Int.toNat_natCast, wrap_i64 (by omega) (by omega)]
        rfl
    · have hge : j = (aft w x).length := by have := of_decide_eq_false h; rw [List.length_map] at this; omega
      subst hge
      clear h
      rw [List.take_length] at ho1 ho2 ⊢
      generalize rowE w i (aft w x) out = OUT at *
      have r1 : (OUT.map eI)[0 + (i : Int).toNat]? = some (eI (OUT.getD i 0)) := by rw [Nat.zero_add, Int.toNat_natCast, List.getElem?_map, List.getD_eq_getElem?_getD, List.getElem?_eq_getElem (by omega)]; rfl
      have b1 := ho2.getZ (by omega) i
      repeat (refine stp rfl ?_ ?_;·repeat' constructor)
      refine pw_draw 13 [70, 71, 72, 73, 74, 75, 76, 77, 78, 79, 80, 81, 82] (by decide +kernel) ?_
      repeat (refine stp rfl ?_ ?_;·repeat' constructor)
      refine zqq rfl (q_idxA rfl rfl rfl rfl rfl rfl rfl (by omega) (by omega)) ?_
      repeat (refine stp rfl ?_ ?_;·repeat' constructor)
      refine zqq rfl (q_ldp rfl rfl rfl r1 rfl) ?_
      repeat (refine stp rfl ?_ ?_;·repeat' constructor)
      apply qst;exact rfl;exact rfl;exact q_idxm rfl rfl rfl rfl rfl (by omega) hx rfl
      repeat (refine stp rfl ?_ ?_;·repeat' constructor)
      apply qst;exact rfl;exact rfl;exact q_callP rfl (least_ref x hio.modes.1 (by have := hio.modes; omega)) rfl (by repeat' constructor) rfl rfl
      repeat (refine stp rfl ?_ ?_;·repeat' constructor)
      refine ⟨k + 1, hlt, by omega, rfl, rfl, ?_, rfl, i64_next (by omega) (by omega), rfl, ?_, trivial⟩
      · rw [hsucc]
        show I (imax last (IntKind.i64.wrap (OUT.getD i 0 + leastP x))) = I (imax last (OUT.getD i 0 + leastP x))
        rw [wrap_i64 (by omega) (by omega)]
      · rw [hsucc]; rfl
  · have hge : k = (ordS w).length := by have := of_decide_eq_false h; omega
    subst hge
    have hfin : earlyK2 w (ordS w).length = earlyS w := by rw [earlyK2, List.take_length, earlyS]
    rw [hfin] at hc1 ⊢
    repeat (refine stp rfl ?_ ?_;·repeat' constructor)
    exact end2 rfl rfl rfl rfl rfl ⟨rfl, rfl, by rw [List.length_map, hc1]⟩ trivial rfl
end Go.Pv

/- The latest days: what the program reckons. -/
set_option maxHeartbeats 2000000
namespace Go.Pv
attribute [local irreducible] PWP POps PQuiet PSem XThen XBlock RetPost InlPost
open Go.Proofs

/-- Numbers from 'A' to 'B'. -/
def BndR (a : List Int) (A B : Int) : Prop := ∀ v ∈ a, A ≤ v ∧ v ≤ B
theorem BndR.mono {a : List Int} {A A' B B' : Int} (h : BndR a A B) (h1 : A' ≤ A) (h2 : B ≤ B') : BndR a A' B' := fun v hv => ⟨Int.le_trans h1 (h v hv).1, Int.le_trans (h v hv).2 h2⟩
theorem BndR.get {a : List Int} {A B : Int} (h : BndR a A B) {d : Nat} (hd : d < a.length) : A ≤ a.getD d 0 ∧ a.getD d 0 ≤ B := by
  rw [List.getD_eq_getElem?_getD, List.getElem?_eq_getElem hd]
  exact h _ (List.getElem_mem hd)
theorem BndR.set {a : List Int} {A B : Int} (h : BndR a A B) {d : Nat} {v : Int} (hv : A ≤ v ∧ v ≤ B) : BndR (a.set d v) A B := by
  intro u hu
  rcases List.mem_or_eq_of_mem_set hu with h1 | rfl
  · exact h u h1
  · exact hv

def cutL (o : Int) (en : List Int) (k : Int) : List Int := en.set k.toNat (imin (en.getD k.toNat 0) o)
def rowL (o : Int) (row : List Int) (en : List Int) : List Int := row.foldl (cutL o) en
def latF (w : SWork) (s : List Int × List Int) (i : Int) : List Int × List Int := (rowL (s.1.getD i.toNat 0 - leastP (itP w i)) ((bef w).getD i.toNat []) s.1, s.2.set i.toNat (s.1.getD i.toNat 0 - leastP (itP w i)))
def latK (w : SWork) (days : Int) (k : Nat) : List Int × List Int := ((ordS w).reverse.take k).foldl (latF w) (List.replicate w.items.length days, List.replicate w.items.length 0)
def latS (w : SWork) (days : Int) : List Int := ((ordS w).reverse.foldl (latF w) (List.replicate w.items.length days, List.replicate w.items.length 0)).2
theorem rowL_ok {w : SWork} {o A B : Int} (ho : A ≤ o ∧ o ≤ B) {row : List Int} (hr : KnownRow w row) {en : List Int} (hl : en.length = w.items.length) (h : BndR en A B) (j : Nat) (hj : j ≤ row.length) : (rowL o (row.take j) en).length = w.items.length ∧ BndR (rowL o (row.take j) en) A B := by
  induction j with
  | zero => exact ⟨hl, h⟩
  | succ j ih =>
    obtain ⟨h1, h2⟩ := ih (by omega)
    obtain ⟨k, hk⟩ := get_lt (show j < row.length by omega)
    obtain ⟨m, y, rfl, hy⟩ := hr k (List.mem_of_getElem? hk)
    have hml := (List.getElem?_eq_some_iff.1 hy).1
    have hs : rowL o (row.take (j + 1)) en = cutL o (rowL o (row.take j) en) m := by rw [rowL, take_snoc hk, List.foldl_append]; rfl
    rw [hs, cutL]
    have b := h2.get (d := (m : Int).toNat) (by rw [h1, Int.toNat_natCast]; exact hml)
    refine ⟨by rw [List.length_set, h1], h2.set ?_⟩
    unfold imin
    split <;> omega
theorem latK_succ {w : SWork} {days : Int} {k i : Nat} {x : SItem} (hk : (ordS w).reverse[k]? = some (i : Int)) (hx : w.items[i]? = some x) :
    latK w days (k + 1) = (rowL ((latK w days k).1.getD i 0 - leastP x) (aft w x) (latK w days k).1, (latK w days k).2.set i ((latK w days k).1.getD i 0 - leastP x)) := by
  have hbx : (bef w).getD i [] = aft w x := by rw [List.getD_eq_getElem?_getD, bef, List.getElem?_map, hx]; rfl
  rw [latK, take_snoc hk, List.foldl_append]
  show latF w (latK w days k) i = _
  rw [latF, Int.toNat_natCast, hbx, itP_at hx]
theorem rev_known {w : SWork} (hv : Well w) {k : Nat} {y : Int} (hy : (ordS w).reverse[k]? = some y) : ∃ (i : Nat) (x : SItem), y = i ∧ w.items[i]? = some x :=
  (refOrd_eq hv.good).2 y (by simpa using List.mem_of_getElem? hy)
theorem latK_ok {w : SWork} (hv : Well w) {days : Int} (hd : 0 ≤ days) (k : Nat) (hk : k ≤ (ordS w).length) : (latK w days k).1.length = w.items.length ∧ BndR (latK w days k).1 (days - 60 * k) days ∧ (latK w days k).2.length = w.items.length ∧ BndR (latK w days k).2 (- 60 * k) days := by
  induction k with
  | zero => exact ⟨by simp [latK], fun v hv => by simp [latK] at hv; omega, by simp [latK], fun v hv => by simp [latK] at hv; omega⟩
  | succ k ih =>
    obtain ⟨h1, h2, h3, h4⟩ := ih (by omega)
    obtain ⟨y, hy⟩ := get_lt (show k < (ordS w).reverse.length by simp; omega)
    obtain ⟨i, x, rfl, hx⟩ := rev_known hv hy
    have hxm := List.mem_of_getElem? hx
    have hil := (List.getElem?_eq_some_iff.1 hx).1
    have hl := leastP_bound (hv.item x hxm)
    have b := h2.get (d := i) (by omega)
    rw [latK_succ hy hx]
    have hr := rowL_ok (w := w) (o := (latK w days k).1.getD i 0 - leastP x) (A := days - 60 * ((k + 1 : Nat) : Int)) (B := days) (by omega) (known_row hv hxm) h1 (h2.mono (by omega) (by omega)) (aft w x).length (Nat.le_refl _)
    rw [List.take_length] at hr
    exact ⟨hr.1, hr.2, by rw [List.length_set, h3], (h4.mono (by omega) (by omega)).set (by omega)⟩
end Go.Pv

/- The latest days: the program's walk. -/
set_option maxHeartbeats 2000000
namespace Go.Pv
attribute [local irreducible] PWP POps PQuiet PSem XThen XBlock RetPost InlPost
open Go.Proofs

set_option maxRecDepth 20000 in
theorem reverse35 {K : St → Prop} {s : St} {d : Nat} {x : Operand} {tys : Array TypeId} {ty : TypeId} {pos : String} {af : Array Edge} (w : SWork) (g2 g : Nat) (R R2 : List (List PV)) (l : List Int) (hl : l.length ≤ 1000000) (hx : s.ev x = .als 35 g 0 (l.map eI).length) (ho : FitO s [(2, 1, ⟨28, 9, [eWork w], 2⟩), (20, 1, ⟨3, 1, R, 0⟩), (33, g2, ⟨3, 1, R2, 0⟩), (35, g, ⟨3, 1, l.map eI, 0⟩)])
    (hK : ∀ s1 : St, K (({ reg := s.reg, own := (s1.over [] [(2, 1, ⟨28, 9, [eWork w], 2⟩), (20, 1, ⟨3, 1, R, 0⟩), (33, g2, ⟨3, 1, R2, 0⟩), (35, g, ⟨3, 1, l.reverse.map eI, 0⟩)]).own } : St).putR d (.tup []))) :
    Sm Try.prog lay.get s ⟨some d, .call ⟨.value (.func 124), #[x], tys⟩, ty, pos, af, none⟩ K := by
  have hsub : ∀ (r : List Int), ((r.map eI).length : Int) = r.length := fun r => by simp
  refine sm_inline layOk rfl rfl Try.func124 rfl (by decide) rfl rfl ?_
  have hargs : (([x] : List Operand).map s.ev ++ ([] : List PV)) = [.als 35 g 0 (l.map eI).length] := by simp [hx]
  show PWP _ _ _ _ (callSt s (([x] : List Operand).map s.ev ++ []))
  rw [hargs]
  rw [show callSt s [.als 35 g 0 (l.map eI).length] = callSt (s.over [] [(2, 1, ⟨28, 9, [eWork w], 2⟩), (20, 1, ⟨3, 1, R, 0⟩), (33, g2, ⟨3, 1, R2, 0⟩), (35, g, ⟨3, 1, l.map eI, 0⟩)]) [.als 35 g 0 (l.map eI).length] by rw [Fit.over (l := []) ho]]
  repeat (refine stp rfl ?_ ?_;·repeat' constructor)
  refine pw_loop (RevAt l) (fun q => [(0, .als 35 g 0 (l.map eI).length), (2, I q.1), (3, I ((l.length : Int) - 1 - q.1))]) (fun q => [(2, 1, ⟨28, 9, [eWork w], 2⟩), (20, 1, ⟨3, 1, R, 0⟩), (33, g2, ⟨3, 1, R2, 0⟩), (35, g, ⟨3, 1, q.2.map eI, 0⟩)]) (fun q => l.length - q.1) (0, l) (.zero l) ⟨rfl, rfl, ?_, rfl, rfl, rfl, rfl, trivial⟩ ?_
  · show PV.int .i64 (IntKind.i64.wrap (((l.map eI).length : Int) - 1)) = _
    rw [wrap_i64 (by rw [hsub]; omega) (by rw [hsub]; omega), hsub]
    exact congrArg I (by simp)
  rintro ⟨i, r⟩ s1 hr
  have h1 : r.length = l.length := hr.1
  have h2 : i ≤ l.length := hr.2.1
  repeat (refine stp rfl ?_ ?_;·repeat' constructor)
  refine pw_cond rfl (fun h => ?_) (fun h => ?_)
  · have hlt : 2 * i + 1 < l.length := by have := of_decide_eq_true h; omega
    clear h
    obtain ⟨u, hu⟩ := get_lt (show i < r.length by omega)
    obtain ⟨v, hv⟩ := get_lt (show l.length - 1 - i < r.length by omega)
    have hj : ((l.length : Int) - 1 - i) = ((l.length - 1 - i : Nat) : Int) := by omega
    have hui : (r.map eI)[i]? = some (eI u) := by rw [List.getElem?_map, hu]; rfl
    have hvj : (r.map eI)[l.length - 1 - i]? = some (eI v) := by rw [List.getElem?_map, hv]; rfl
    have hll : (l.map eI).length = l.length := by simp
    repeat (refine stp rfl ?_ ?_;·repeat' constructor)
    refine pw_draw2 13 0 [14, 15, 16, 17, 18, 19, 20, 21, 22, 23, 24, 25, 26] [2,3] (by decide +kernel) rfl ?_
    repeat (refine stp rfl ?_ ?_;·repeat' constructor)
    rw [hj]
    refine pq_q (q_idxA rfl rfl rfl rfl rfl rfl rfl (by omega) (by rw [hll]; omega)) ?_
    rw [Int.toNat_natCast, Nat.zero_add (l.length - 1 - i)]
    refine pq_q (q_ldp rfl rfl rfl hvj rfl) ?_
    repeat (refine stp rfl ?_ ?_;·repeat' constructor)
    refine pq_q (q_idxA rfl rfl rfl rfl rfl rfl rfl (by omega) (by rw [hll]; omega)) ?_
    rw [Int.toNat_natCast, Nat.zero_add i]
    refine pq_q (q_ldp rfl rfl rfl hui rfl) ?_
    repeat (refine stp rfl ?_ ?_;·repeat' constructor)
    refine pq_q (q_idxA rfl rfl rfl rfl rfl rfl rfl (by omega) (by rw [hll]; omega)) ?_
    rw [Int.toNat_natCast, Nat.zero_add i]
    repeat (refine stp rfl ?_ ?_;·repeat' constructor)
    refine ps_run0 (o_store (kd' := 0) rfl rfl rfl hui rfl rfl (by repeat' constructor) rfl rfl rfl rfl ?_)
    refine ps_q (q_idxA rfl rfl rfl rfl rfl rfl rfl (by omega) (by rw [hll]; omega)) ?_
    rw [Int.toNat_natCast, Nat.zero_add (l.length - 1 - i)]
    refine ps_run0 (o_store (kd' := 0) rfl rfl rfl (row := eI v) (by
      show ((r.map eI).set i _)[l.length - 1 - i]? = _
      rw [List.getElem?_set_ne (by omega)]; exact hvj) rfl rfl (by repeat' constructor) rfl rfl rfl rfl ?_)
    repeat (refine stp rfl ?_ ?_;·repeat' constructor)
    refine ⟨(i + 1, (r.set i v).set (l.length - 1 - i) u), hr.step hlt hu hv, by show l.length - (i + 1) < l.length - i; omega, rfl, ?_, ?_, rfl, rfl, rfl, ?_, trivial⟩
    · exact i64_next (by omega) (by omega)
    · show PV.int .i64 (IntKind.i64.wrap (((l.length - 1 - i : Nat) : Int) - 1)) = _
      rw [wrap_i64 (by omega) (by omega)]
      exact congrArg I (by show ((l.length - 1 - i : Nat) : Int) - 1 = (l.length : Int) - 1 - ((i + 1 : Nat) : Int); omega)
    · refine Eq.trans (b := (g, some (Cont.mk 3 1 (((r.map eI).set i (eI v)).set (l.length - 1 - i) (eI u)) 0))) rfl ?_
      rw [← List.map_set, ← List.map_set]
  · have hd := hr.done (by have := of_decide_eq_false h; omega)
    subst hd
    repeat (refine stp rfl ?_ ?_;·repeat' constructor)
    exact inl_end0 rfl (hK s1)

def fillL (n : Nat) (days : Int) (k : Nat) : List Int := List.replicate k days ++ List.replicate (n - k) 0
theorem fillL_len {n k : Nat} (days : Int) (hk : k ≤ n) : (fillL n days k).length = n := by simp [fillL]; omega
theorem fillL_set {n k : Nat} {days : Int} (hk : k < n) : (fillL n days k).set k days = fillL n days (k + 1) := by
  unfold fillL
  rw [List.set_append, if_neg (by simp), List.length_replicate, Nat.sub_self, show n - k = (n - (k + 1)) + 1 by omega, List.replicate_succ, List.set_cons_zero, List.replicate_succ', List.append_assoc]
  rfl
theorem eI_at {l : List Int} {i : Nat} (h : i < l.length) : (l.map eI)[0 + (i : Int).toNat]? = some (eI (l.getD i 0)) := by
  rw [Nat.zero_add, Int.toNat_natCast, List.getElem?_map, List.getD_eq_getElem?_getD, List.getElem?_eq_getElem h]; rfl

set_option maxRecDepth 20000 in
theorem latest0_ret (w : SWork) (hw : Sane w) (hv : Well w) (days : Int) (hd : 0 ≤ days ∧ days ≤ 1000000000) : Ret Try.prog .shared 86 [.agg (eWork w), I days] (.sl ((latS w days).map eI)) := by
  have h1 := hw.items
  have hn40 := hv.n40
  have hbl : ((bef w).map eL).length = w.items.length := by simp [bef]
  have hol := ordS_len w
  have hLl : ((ordS w).map eI).length = (ordS w).reverse.length := by simp
  refine Ret.of_pwp layOk mixed Go.Proofs.Try.func86 rfl (by decide) rfl rfl ?_
  repeat (refine stp rfl ?_ ?_;·repeat' constructor)
  apply qst;exact rfl;exact rfl;exact q_call rfl (before_ret w h1 hw.after) rfl (by repeat' constructor) rfl
  repeat (refine stp rfl ?_ ?_;·repeat' constructor)
  refine ps_run (o_make rfl rfl rfl rfl rfl rfl rfl rfl (by omega) (by rw [hbl]; show ((8 : Nat) : Int) * _ ≤ _; omega) (by rw [hbl]; omega) ?_)
  repeat (refine stp rfl ?_ ?_;·repeat' constructor)
  refine pw_loop (fun k => k ≤ w.items.length) (fun k => [(1, I days), (2, .ptr 2 1 0 0), (5, .sl ((bef w).map eL)), (6, .als 20 1 0 w.items.length), (22, I w.items.length), (23, I k)])
    (fun k => [(2, 1, ⟨28, 9, [eWork w], 2⟩), (20, 1, ⟨3, 1, (fillL w.items.length days k).map eI, 0⟩)]) (fun k => w.items.length - k) 0 (Nat.zero_le _) ⟨rfl, rfl, rfl, ?_, ?_, rfl, rfl, ?_, trivial⟩ ?_
  · show PV.als 20 1 0 (List.length (List.replicate (Int.toNat ((bef w).map eL).length) _)) = _
    rw [hbl]; simp
  · show I ((List.replicate (Int.toNat ((bef w).map eL).length) _ : List (List PV)).length) = _
    rw [hbl]; simp
  · show (1, some (Cont.mk 3 1 (List.replicate (Int.toNat ((bef w).map eL).length) _) 0)) = _
    rw [hbl]; simp [fillL, eI]
  intro k s hk
  have hfl := fillL_len days hk
  repeat (refine stp rfl ?_ ?_;·repeat' constructor)
  refine pw_cond rfl (fun h => ?_) (fun h => ?_)
  · have hlt : k < w.items.length := by have := of_decide_eq_true h; omega
    clear h
    have hs := fillL_set (days := days) hlt
    have r1 := eI_at (l := fillL w.items.length days k) (i := k) (by omega)
    repeat (refine stp rfl ?_ ?_;·repeat' constructor)
    refine ps_q (q_idxA rfl rfl rfl rfl rfl rfl rfl (by omega) (by omega)) ?_
    repeat (refine stp rfl ?_ ?_;·repeat' constructor)
    refine ps_run0 (o_store (kd' := 0) rfl rfl rfl r1 rfl rfl (by repeat' constructor) rfl rfl rfl rfl ?_)
    repeat (refine stp rfl ?_ ?_;·repeat' constructor)
    refine ⟨k + 1, hlt, by omega, rfl, rfl, rfl, rfl, rfl, i64_next (by omega) (by omega), rfl, ?_, trivial⟩
    rw [← hs, List.map_set]
    show (1, some (Cont.mk 3 1 (((fillL w.items.length days k).map eI).set (0 + (k : Int).toNat) [I days]) 0)) = _
    rw [Nat.zero_add, Int.toNat_natCast]; rfl
  have hge : k = w.items.length := by have := of_decide_eq_false h; omega
  subst hge
  clear h
  repeat (refine stp rfl ?_ ?_;·repeat' constructor)
  refine ps_run (o_make rfl rfl rfl rfl rfl rfl rfl rfl (by omega) (by rw [hbl]; show ((8 : Nat) : Int) * _ ≤ _; omega) (by rw [hbl]; omega) ?_)
  refine ps_v rfl trivial ?_
  refine ps_nil ?_
  refine x_norm ?_
  refine pw_seq ?_
  refine pw_regionS 1 ?_
  first | refine ps_v rfl trivial ?_ | refine ps_v rfl rfl ?_
  refine ps_nil ?_
  refine psem_sm rfl (sm_callO rfl (ordered_own w h1 hw.after) rfl (by repeat' constructor) rfl ?_)
  refine psem_ops ?_
  refine ps_v rfl trivial ?_
  refine ps_nil ?_
  refine x_norm ?_
  refine pw_seq ?_
  refine pw_regionS 1 ?_
  first | refine ps_v rfl trivial ?_ | refine ps_v rfl rfl ?_
  refine ps_nil ?_
  refine psem_sm rfl (reverse35 w ((s.own 33).1 + 1) ((s.own 35).1 + 1) ((fillL w.items.length days w.items.length).map eI) (List.replicate w.items.length [I 0]) (ordS w) (by omega) rfl ⟨rfl, rfl, ?_, rfl, trivial⟩ (fun s1 => ?_))
  · show ((s.own 33).1 + 1, some (Cont.mk 3 1 (List.replicate (Int.toNat ((bef w).map eL).length) _) 0)) = _
    rw [hbl]; rfl
  refine psem_ops ?_
  have hfn : fillL w.items.length days w.items.length = List.replicate w.items.length days := by simp [fillL]
  rw [hfn]
  generalize (s.own 33).1 + 1 = g2
  generalize (s.own 35).1 + 1 = g
  repeat (refine stp rfl ?_ ?_;·repeat' constructor)
  refine pw_loop (fun k => k ≤ (ordS w).reverse.length) (fun k => [(2, .ptr 2 1 0 0), (5, .sl ((bef w).map eL)), (6, .als 20 1 0 w.items.length), (8, .als 33 g2 0 w.items.length), (38, .als 35 g 0 ((ordS w).map eI).length), (39, I ((ordS w).map eI).length), (40, I k)])
    (fun k => [(2, 1, ⟨28, 9, [eWork w], 2⟩), (20, 1, ⟨3, 1, (latK w days k).1.map eI, 0⟩), (33, g2, ⟨3, 1, (latK w days k).2.map eI, 0⟩), (35, g, ⟨3, 1, (ordS w).reverse.map eI, 0⟩)]) (fun k => (ordS w).reverse.length - k) 0 (Nat.zero_le _) ⟨rfl, rfl, rfl, ?_, rfl, rfl, rfl, rfl, ?_, ?_, rfl, trivial⟩ ?_
  · show PV.als 33 g2 0 (List.length (List.replicate (Int.toNat ((bef w).map eL).length) _)) = _
    rw [hbl]; simp
  · rfl
  · show (g2, some (Cont.mk 3 1 (List.replicate w.items.length [I 0]) 0)) = _
    simp [latK, eI]
  intro k s hk
  have hrl : (ordS w).reverse.length = (ordS w).length := by simp
  obtain ⟨hc1, hc2, hc3, hc4⟩ := latK_ok hv hd.1 k (by omega)
  repeat (refine stp rfl ?_ ?_;·repeat' constructor)
  refine pw_cond rfl (fun h => ?_) (fun h => ?_)
  · have hlt : k < (ordS w).reverse.length := by have := of_decide_eq_true h; omega
    clear h
    obtain ⟨y0, hy0⟩ := get_lt hlt
    obtain ⟨i, x, rfl, hx⟩ := rev_known hv hy0
    have hil := (List.getElem?_eq_some_iff.1 hx).1
    have hxm := List.mem_of_getElem? hx
    have hax := hw.after x hxm
    have hal : (aft w x).length = x.after.length := by simp [aft]
    have hio := hv.item x hxm
    have hlb := leastP_bound hio
    have hbx : (bef w)[i]? = some (aft w x) := by rw [bef, List.getElem?_map, hx]; rfl
    have hkr := known_row hv hxm
    have hsucc := latK_succ (days := days) hy0 hx
    generalize latK w days k = st at *
    obtain ⟨en, out⟩ := st
    replace hc1 : en.length = w.items.length := hc1
    replace hc2 : BndR en (days - 60 * k) days := hc2
    replace hc3 : out.length = w.items.length := hc3
    replace hsucc : latK w days (k + 1) = (rowL (en.getD i 0 - leastP x) (aft w x) en, out.set i (en.getD i 0 - leastP x)) := hsucc
    have be := hc2.get (d := i) (by omega)
    have hro := fun j hj => rowL_ok (w := w) (o := en.getD i 0 - leastP x) (A := days - 60 * ((k + 1 : Nat) : Int)) (B := days) (by omega) hkr hc1 (hc2.mono (by omega) (by omega)) j hj
    have hwr : IntKind.i64.wrap (en.getD i 0 - leastP x) = en.getD i 0 - leastP x := wrap_i64 (by omega) (by omega)
    have hyr : ((ordS w).reverse.map eI)[0 + (k : Int).toNat]? = some (eI i) := by rw [Nat.zero_add, Int.toNat_natCast, List.getElem?_map, hy0]; rfl
    have r1 := eI_at (l := en) (i := i) (by omega)
    have r2 := eI_at (l := out) (i := i) (by omega)
    repeat (refine stp rfl ?_ ?_;·repeat' constructor)
    refine ps_q (q_idxA rfl rfl rfl rfl rfl rfl rfl (by omega) (by omega)) ?_
    repeat (refine stp rfl ?_ ?_;·repeat' constructor)
    refine ps_q (q_ldp rfl rfl rfl hyr rfl) ?_
    repeat (refine stp rfl ?_ ?_;·repeat' constructor)
    apply qst;exact rfl;exact rfl;exact q_idxm rfl rfl rfl rfl rfl (by omega) hx rfl
    repeat (refine stp rfl ?_ ?_;·repeat' constructor)
    apply qst;exact rfl;exact rfl;exact q_callP rfl (least_ret x hio.modes.1 (by have := hio.modes; omega) (fun m hm => by have := hio.mode m hm; exact ⟨this.1, this.2.1⟩)) rfl (by repeat' constructor) rfl rfl
    repeat (refine stp rfl ?_ ?_;·repeat' constructor)
    refine ps_q (q_idxA rfl rfl rfl rfl rfl rfl rfl (by omega) (by omega)) ?_
    repeat (refine stp rfl ?_ ?_;·repeat' constructor)
    refine ps_q (q_ldp rfl rfl rfl r1 rfl) ?_
    repeat (refine stp rfl ?_ ?_;·repeat' constructor)
    rw [hwr]
    refine ps_q (q_idxA rfl rfl rfl rfl rfl rfl rfl (by omega) (by omega)) ?_
    repeat (refine stp rfl ?_ ?_;·repeat' constructor)
    refine ps_run0 (o_store (kd' := 0) rfl rfl rfl r2 rfl rfl (by repeat' constructor) rfl rfl rfl rfl ?_)
    repeat (refine stp rfl ?_ ?_;·repeat' constructor)
    apply qst;exact rfl;exact rfl;exact q_idxm rfl rfl rfl rfl rfl (by omega) hbx rfl
    repeat (refine stp rfl ?_ ?_;·repeat' constructor)
    generalize hO : en.getD i 0 - leastP x = o at *
    refine pw_loop (fun j => j ≤ (aft w x).length) (fun j => [(2, .ptr 2 1 0 0), (5, .sl ((bef w).map eL)), (6, .als 20 1 0 w.items.length), (8, .als 33 g2 0 w.items.length), (11, I i), (38, .als 35 g 0 ((ordS w).map eI).length), (39, I ((ordS w).map eI).length), (40, I k), (65, .sl ((aft w x).map eI)), (66, I (aft w x).length), (67, I j)])
      (fun j => [(2, 1, ⟨28, 9, [eWork w], 2⟩), (20, 1, ⟨3, 1, (rowL o ((aft w x).take j) en).map eI, 0⟩), (33, g2, ⟨3, 1, (out.set i o).map eI, 0⟩), (35, g, ⟨3, 1, (ordS w).reverse.map eI, 0⟩)]) (fun j => (aft w x).length - j) 0 (Nat.zero_le _) ⟨rfl, rfl, rfl, rfl, rfl, rfl, rfl, rfl, rfl, ?_, rfl, rfl, rfl, ?_, rfl, trivial⟩ ?_
    · show I (((aft w x).map eI).length) = _
      rw [List.length_map]
    · rw [List.map_set]
      show (g2, some (Cont.mk 3 1 ((out.map eI).set (0 + (i : Int).toNat) [I o]) 0)) = _
      rw [Nat.zero_add, Int.toNat_natCast]; rfl
    intro j s2 hj
    obtain ⟨ho1, ho2⟩ := hro j hj
    repeat (refine stp rfl ?_ ?_;·repeat' constructor)
    refine pw_cond rfl (fun h => ?_) (fun h => ?_)
    · have hlt' : j < (aft w x).length := by have := of_decide_eq_true h; omega
      clear h
      obtain ⟨m0, hm0⟩ := get_lt hlt'
      obtain ⟨m, y, rfl, hy⟩ := hkr m0 (List.mem_of_getElem? hm0)
      have hml := (List.getElem?_eq_some_iff.1 hy).1
      have hs : rowL o ((aft w x).take (j + 1)) en = cutL o (rowL o ((aft w x).take j) en) m := by rw [rowL, take_snoc hm0, List.foldl_append]; rfl
      rw [cutL, Int.toNat_natCast] at hs
      generalize rowL o ((aft w x).take j) en = EN at *
      have r3 := eI_at (l := EN) (i := m) (by omega)
      have r4 := eI_at (l := out.set i o) (i := i) (by rw [List.length_set]; omega)
      have hoi : (out.set i o).getD i 0 = o := by rw [List.getD_eq_getElem?_getD, List.getElem?_set_self (by omega)]; rfl
      rw [hoi] at r4
      have hol2 : (out.set i o).length = w.items.length := by rw [List.length_set, hc3]
      repeat (refine stp rfl ?_ ?_;·repeat' constructor)
      apply qst;exact rfl;exact rfl;exact q_idxm rfl rfl rfl rfl rfl (by omega) hm0 rfl
      repeat (refine stp rfl ?_ ?_;·repeat' constructor)
      refine pw_draw 12 [71, 72, 73, 74, 75, 76, 77, 78, 79, 80, 81, 82] (by decide +kernel) ?_
      repeat (refine stp rfl ?_ ?_;·repeat' constructor)
      refine zqq rfl (q_idxA rfl rfl rfl rfl rfl rfl rfl (by omega) (by omega)) ?_
      repeat (refine stp rfl ?_ ?_;·repeat' constructor)
      refine zqq rfl (q_ldp rfl rfl rfl r3 rfl) ?_
      repeat (refine stp rfl ?_ ?_;·repeat' constructor)
      refine zqq rfl (q_idxA rfl rfl rfl rfl rfl rfl rfl (by omega) (by omega)) ?_
      repeat (refine stp rfl ?_ ?_;·repeat' constructor)
      refine zqq rfl (q_ldp rfl rfl rfl r4 rfl) ?_
      repeat (refine stp rfl ?_ ?_;·repeat' constructor)
      refine zqq rfl (q_idxA rfl rfl rfl rfl rfl rfl rfl (by omega) (by omega)) ?_
      repeat (refine stp rfl ?_ ?_;·repeat' constructor)
      refine ps_run0 (o_store (kd' := 0) rfl rfl rfl r3 rfl rfl (by repeat' constructor) rfl rfl rfl rfl ?_)
      repeat (refine stp rfl ?_ ?_;·repeat' constructor)
      refine ⟨j + 1, hlt', by omega, rfl, rfl, rfl, rfl, rfl, rfl, rfl, rfl, rfl, rfl, i64_next (by omega) (by omega), rfl, ?_, rfl, rfl, trivial⟩
      rw [hs]
      show (1, some (Cont.mk 3 1 ((EN.map eI).set (0 + (m : Int).toNat) [I (imin (EN.getD m 0) o)]) 0)) = _
      rw [Nat.zero_add, Int.toNat_natCast, List.map_set (l := EN)]
      rfl
    · have hge : j = (aft w x).length := by have := of_decide_eq_false h; omega
      subst hge
      clear h
      rw [List.take_length] at ho1 ho2 ⊢
      repeat (refine stp rfl ?_ ?_;·repeat' constructor)
      refine ⟨k + 1, hlt, by omega, rfl, rfl, rfl, rfl, rfl, rfl, i64_next (by omega) (by omega), rfl, ?_, ?_, rfl, trivial⟩
      · rw [hsucc]; rfl
      · rw [hsucc]; rfl
  · have hge : k = (ordS w).reverse.length := by have := of_decide_eq_false h; omega
    subst hge
    have hfin : (latK w days (ordS w).reverse.length).2 = latS w days := by rw [latK, List.take_length, latS]
    rw [hfin] at hc3 ⊢
    repeat (refine stp rfl ?_ ?_;·repeat' constructor)
    exact end1 rfl rfl rfl ⟨rfl, rfl, by rw [List.length_map, hc3]⟩ rfl
end Go.Pv

/- The order's law: each item stands behind those that it waits for; the latest days by the reference are those of the program. -/
set_option maxHeartbeats 2000000
namespace Go.Pv
attribute [local irreducible] PWP POps PQuiet PSem XThen XBlock RetPost InlPost
open Go.Proofs

structure Topo (w : SWork) (L : List Int) : Prop where
  nodup : L.Nodup
  pre : ∀ (p : Nat) (e : Int), L[p]? = some e → ∀ m ∈ (bef w).getD e.toNat [], m ∈ L.take p
theorem Topo.snoc {w : SWork} {L : List Int} (h : Topo w L) {e : Int} (hn : e ∉ L) (hp : ∀ m ∈ (bef w).getD e.toNat [], m ∈ L) : Topo w (L ++ [e]) := by
  refine ⟨?_, fun p d hd m hm => ?_⟩
  · rw [List.nodup_append]
    exact ⟨h.nodup, by simp, fun a ha b hb => by simp at hb; subst hb; exact fun he => hn (he ▸ ha)⟩
  · rcases Nat.lt_or_ge p L.length with hlt | hge
    · rw [List.getElem?_append_left hlt] at hd
      rw [List.take_append_of_le_length (by omega)]
      exact h.pre p d hd m hm
    · rw [List.getElem?_append_right hge] at hd
      have hpl : p - L.length = 0 := by
        rcases Nat.eq_zero_or_pos (p - L.length) with h0 | h0
        · exact h0
        · rw [List.getElem?_eq_none (by simp; omega)] at hd; cases hd
      rw [hpl] at hd
      simp at hd
      subst hd
      rw [show p = L.length by omega, List.take_left']
      · exact hp m hm
      · rfl
theorem topo_orderF {w : SWork} : ∀ (f : Nat) (out : List Int), Topo w out → Topo w (orderF f (bef w) out)
  | 0, _, h => h
  | f + 1, out, h => by
    unfold orderF
    split
    · exact h
    · rename_i hge
      refine topo_orderF f _ ?_
      rcases idx_cases (List.range (bef w).length) (fitB (bef w) out) with ⟨h1, _⟩ | ⟨i, a, h1, h2, h3, _⟩
      · exact absurd (show nextO (bef w) out = -1 from h1) (by omega)
      · have hil : i < (bef w).length := by have := (List.getElem?_eq_some_iff.1 h2).1; simpa using this
        rw [List.getElem?_range hil] at h2
        have h2 := Option.some.inj h2
        subst h2
        have hno : nextO (bef w) out = i := h1
        rw [hno]
        simp only [fitB, Bool.and_eq_true, Bool.not_eq_true'] at h3
        refine h.snoc (fun hin => ?_) fun m hm => ?_
        · have := h3.2
          rw [List.any_eq_false] at this
          exact this _ hin (by simp)
        · rw [Int.toNat_natCast] at hm
          have := h3.1
          rw [readyB, Bool.not_eq_true', List.any_eq_false] at this
          have := this m hm
          simp only [Bool.not_eq_true', Bool.not_eq_false] at this
          obtain ⟨y, hy, he⟩ := List.any_eq_true.1 this
          have : y = m := by simpa using he
          exact this ▸ hy
theorem topo_ord (w : SWork) : Topo w (ordS w) := topo_orderF _ _ ⟨by simp, fun p e h => by simp at h⟩
theorem ord_all {w : SWork} (hv : Well w) {i : Nat} (hi : i < w.items.length) : (i : Int) ∈ ordS w := by
  have hin := (refOrd_eq hv.good).2
  refine nodup_cover (ordS w) ((List.range w.items.length).map fun k => ((k : Nat) : Int)) (topo_ord w).nodup (fun x hx => ?_) (by rw [List.length_map, List.length_range]; have := hv.full; omega) _ (List.mem_map.2 ⟨i, List.mem_range.2 hi, rfl⟩)
  obtain ⟨k, y, rfl, hy⟩ := hin x hx
  exact List.mem_map.2 ⟨k, List.mem_range.2 (List.getElem?_eq_some_iff.1 hy).1, rfl⟩
theorem ord_full {w : SWork} (hv : Well w) : (ordS w).length = w.items.length := by have := hv.full; have := ordS_len w; omega
theorem nodup_pos {α : Type} {L : List α} (h : L.Nodup) {p q : Nat} {e : α} (hp : L[p]? = some e) (hq : L[q]? = some e) : p = q := by
  obtain ⟨h1, h2⟩ := List.getElem?_eq_some_iff.1 hp
  obtain ⟨h3, h4⟩ := List.getElem?_eq_some_iff.1 hq
  have hpw := List.pairwise_iff_getElem.1 h
  rcases Nat.lt_trichotomy p q with hlt | he | hlt
  · exact absurd (h2.trans h4.symm) (hpw p q h1 h3 hlt)
  · exact he
  · exact absurd (h4.trans h2.symm) (hpw q p h3 h1 hlt)
/-- What waits for an item stands before it in the turned order. -/
theorem rev_before {w : SWork} (hv : Well w) {k i j : Nat} (hk : (ordS w).reverse[k]? = some (i : Int)) (hj : j < w.items.length) (hij : (i : Int) ∈ (bef w).getD j []) : (j : Int) ∈ (ordS w).reverse.take k := by
  have ht := topo_ord w
  obtain ⟨p, hp, hpj⟩ := List.getElem_of_mem (ord_all hv hj)
  have hpj' : (ordS w)[p]? = some (j : Int) := by rw [List.getElem?_eq_getElem hp, hpj]
  have hin := ht.pre p _ hpj' i (by rw [Int.toNat_natCast]; exact hij)
  rw [List.mem_take_iff_getElem] at hin
  obtain ⟨q, hq, hqi⟩ := hin
  have hql : q < p := by omega
  have hkl : k < (ordS w).length := by have := (List.getElem?_eq_some_iff.1 hk).1; simpa using this
  rw [List.getElem?_reverse hkl] at hk
  have := nodup_pos ht.nodup (show (ordS w)[q]? = some (i : Int) by rw [List.getElem?_eq_getElem (by omega), hqi]) hk
  rw [List.mem_take_iff_getElem]
  refine ⟨(ordS w).length - 1 - p, by rw [List.length_reverse]; omega, ?_⟩
  rw [List.getElem_reverse]
  have : (ordS w).length - 1 - ((ordS w).length - 1 - p) = p := by omega
  simp only [this, hpj]

/-! ### The latest days by the reference -/
def refMin (w : SWork) (out : List Int) (i : Int) (days : Int) (n : Nat) : Int := (List.range n).foldl (fun e j => if ((bef w).getD j []).any (· == i) = true then imin e (out.getD j 0) else e) days
theorem refMin_succ (w : SWork) (out : List Int) (i days : Int) (n : Nat) : refMin w out i days (n + 1) = if ((bef w).getD n []).any (· == i) = true then imin (refMin w out i days n) (out.getD n 0) else refMin w out i days n := by
  rw [refMin, List.range_succ, List.foldl_append]; rfl
theorem le_imin {a b B : Int} : B ≤ imin a b ↔ B ≤ a ∧ B ≤ b := by unfold imin; split <;> omega
theorem le_refMin (w : SWork) (out : List Int) (i days B : Int) : ∀ n : Nat, B ≤ refMin w out i days n ↔ B ≤ days ∧ ∀ j, j < n → i ∈ (bef w).getD j [] → B ≤ out.getD j 0
  | 0 => by simp [refMin]
  | n + 1 => by
    have ih := le_refMin w out i days B n
    rw [refMin_succ]
    have hmem : ((bef w).getD n []).any (· == i) = true ↔ i ∈ (bef w).getD n [] := by simp
    by_cases hi : i ∈ (bef w).getD n []
    · rw [if_pos (hmem.2 hi), le_imin, ih]
      constructor
      · rintro ⟨⟨h1, h2⟩, h3⟩
        refine ⟨h1, fun j hj hjm => ?_⟩
        rcases Nat.lt_or_ge j n with hlt | hge
        · exact h2 j hlt hjm
        · rw [show j = n by omega]; exact h3
      · rintro ⟨h1, h2⟩
        exact ⟨⟨h1, fun j hj => h2 j (by omega)⟩, h2 n (by omega) hi⟩
    · rw [if_neg (fun h => hi (hmem.1 h)), ih]
      constructor
      · rintro ⟨h1, h2⟩
        refine ⟨h1, fun j hj hjm => ?_⟩
        rcases Nat.lt_or_ge j n with hlt | hge
        · exact h2 j hlt hjm
        · rw [show j = n by omega] at hjm; exact absurd hjm hi
      · rintro ⟨h1, h2⟩
        exact ⟨h1, fun j hj => h2 j (by omega)⟩
theorem le_rowL {w : SWork} {o B : Int} {m : Nat} (hm : m < w.items.length) : ∀ (row : List Int) (en : List Int), KnownRow w row → en.length = w.items.length → (B ≤ (rowL o row en).getD m 0 ↔ B ≤ en.getD m 0 ∧ ((m : Int) ∈ row → B ≤ o))
  | [], en, _, _ => by simp [rowL]
  | k :: row, en, hr, hl => by
    obtain ⟨j, y, rfl, hy⟩ := hr k (by simp)
    have hjl := (List.getElem?_eq_some_iff.1 hy).1
    have hs : rowL o ((j : Int) :: row) en = rowL o row (cutL o en j) := rfl
    rw [hs, le_rowL hm row _ (fun k hk => hr k (by simp [hk])) (by rw [cutL, List.length_set, hl]), cutL, Int.toNat_natCast, List.getD_eq_getElem?_getD]
    by_cases hjm : j = m
    · subst hjm
      rw [List.getElem?_set_self (by omega)]
      show B ≤ imin _ _ ∧ _ ↔ _
      rw [le_imin]
      constructor
      · rintro ⟨⟨h1, h2⟩, h3⟩; exact ⟨h1, fun _ => h2⟩
      · rintro ⟨h1, h2⟩; exact ⟨⟨h1, h2 (by simp)⟩, fun _ => h2 (by simp)⟩
    · rw [List.getElem?_set_ne hjm, ← List.getD_eq_getElem?_getD]
      constructor
      · rintro ⟨h1, h2⟩
        refine ⟨h1, fun h => h2 ?_⟩
        rcases List.mem_cons.1 h with h | h
        · omega
        · exact h
      · rintro ⟨h1, h2⟩; exact ⟨h1, fun h => h2 (by simp [h])⟩
theorem le_latK {w : SWork} (hv : Well w) {days : Int} (hd : 0 ≤ days) {m : Nat} (hm : m < w.items.length) (B : Int) : ∀ k : Nat, k ≤ (ordS w).length →
    (B ≤ (latK w days k).1.getD m 0 ↔ B ≤ days ∧ ∀ j : Nat, (j : Int) ∈ (ordS w).reverse.take k → (m : Int) ∈ (bef w).getD j [] → B ≤ (latK w days k).2.getD j 0)
  | 0, _ => by
    have : (latK w days 0).1.getD m 0 = days := by
      show (List.replicate w.items.length days).getD m 0 = days
      rw [List.getD_eq_getElem?_getD, List.getElem?_replicate, if_pos hm]; rfl
    rw [this]
    simp
  | k + 1, hk => by
    have ih := le_latK hv hd hm B k (by omega)
    obtain ⟨h1, _, h3, _⟩ := latK_ok hv hd k (by omega)
    obtain ⟨y, hy⟩ := get_lt (show k < (ordS w).reverse.length by simp; omega)
    obtain ⟨i, x, rfl, hx⟩ := rev_known hv hy
    have hil := (List.getElem?_eq_some_iff.1 hx).1
    have hnd : (ordS w).reverse.Nodup := List.pairwise_reverse.2 ((topo_ord w).nodup.imp fun h => Ne.symm h)
    have hbx : (bef w).getD i [] = aft w x := by rw [List.getD_eq_getElem?_getD, bef, List.getElem?_map, hx]; rfl
    rw [latK_succ hy hx]
    show B ≤ (rowL _ _ _).getD m 0 ↔ _
    rw [le_rowL hm _ _ (known_row hv (List.mem_of_getElem? hx)) h1, ih, take_snoc hy, and_assoc]
    refine and_congr Iff.rfl ?_
    have hne : ∀ j : Nat, (j : Int) ∈ (ordS w).reverse.take k → j ≠ i := by
      rintro j hj rfl
      rw [List.mem_take_iff_getElem] at hj
      obtain ⟨q, hq, hqi⟩ := hj
      have := nodup_pos hnd (show (ordS w).reverse[q]? = some (j : Int) by rw [List.getElem?_eq_getElem (by omega), hqi]) hy
      omega
    constructor
    · rintro ⟨g1, g2⟩ j hj hjm
      show B ≤ ((latK w days k).2.set i _).getD j 0
      rw [List.getD_eq_getElem?_getD]
      rw [List.mem_append] at hj
      rcases hj with hj | hj
      · rw [List.getElem?_set_ne (hne j hj).symm, ← List.getD_eq_getElem?_getD]
        exact g1 j hj hjm
      · have hji : j = i := by simp at hj; omega
        subst hji
        rw [List.getElem?_set_self (by omega)]
        exact g2 (by rw [← hbx]; exact hjm)
    · intro g
      refine ⟨fun j hj hjm => ?_, fun hmx => ?_⟩
      · have := g j (by rw [List.mem_append]; exact .inl hj) hjm
        rw [List.getD_eq_getElem?_getD] at this
        rw [List.getD_eq_getElem?_getD]
        rw [show ((latK w days k).2.set i ((latK w days k).1.getD i 0 - leastP x))[j]? = (latK w days k).2[j]? from List.getElem?_set_ne (hne j hj).symm] at this
        exact this
      · have := g i (by simp) (by rw [hbx]; exact hmx)
        rw [List.getD_eq_getElem?_getD] at this
        rw [show ((latK w days k).2.set i ((latK w days k).1.getD i 0 - leastP x))[i]? = some ((latK w days k).1.getD i 0 - leastP x) from List.getElem?_set_self (by omega)] at this
        exact this
theorem refMin_eq {w : SWork} (hv : Well w) {days : Int} (hd : 0 ≤ days) {k i : Nat} (hk : (ordS w).reverse[k]? = some (i : Int)) (hi : i < w.items.length) : refMin w (latK w days k).2 i days w.items.length = (latK w days k).1.getD i 0 := by
  have hkl : k < (ordS w).length := by have := (List.getElem?_eq_some_iff.1 hk).1; simpa using this
  have key : ∀ B, B ≤ refMin w (latK w days k).2 i days w.items.length ↔ B ≤ (latK w days k).1.getD i 0 := by
    intro B
    rw [le_refMin, le_latK hv hd hi B k (by omega)]
    refine and_congr Iff.rfl ?_
    constructor
    · intro h j hj hij
      obtain ⟨q, y, he, hy⟩ := (refOrd_eq hv.good).2 (j : Int) (by have := List.mem_of_mem_take hj; simpa using this)
      have : j = q := by omega
      subst this
      exact h j (List.getElem?_eq_some_iff.1 hy).1 hij
    · intro h j hj hij
      exact h j (rev_before hv hk hj hij) hij
  exact Int.le_antisymm ((key _).1 (Int.le_refl _)) ((key _).2 (Int.le_refl _))
theorem after_any {w : SWork} (hv : Well w) {i : Nat} {x z : SItem} (hx : w.items[i]? = some x) (hz : z ∈ w.items) : z.after.any (· == x.name) = (aft w z).any (· == (i : Int)) := by
  rw [aft, List.any_map, Bool.eq_iff_iff, List.any_eq_true, List.any_eq_true]
  have hu := hv.good.uniq i x hx
  constructor
  · rintro ⟨s, hs, he⟩
    have he : s = x.name := by simpa using he
    subst he
    refine ⟨_, hs, ?_⟩
    show (idx (w.items.map (·.name)) (· == x.name) == (i : Int)) = true
    rw [idx_map, hu]; simp
  · rintro ⟨s, hs, he⟩
    obtain ⟨j, y, hy, hn, hidx⟩ := known_at hv.good hz hs
    have he : idx (w.items.map (·.name)) (· == s) = (i : Int) := by simpa using he
    rw [hidx] at he
    have : j = i := by omega
    subst this
    rw [hx] at hy
    cases hy
    exact ⟨s, hs, by simp [hn]⟩
end Go.Pv

/- The latest days and the critical items: the program's answers and the reference's. -/
set_option maxHeartbeats 2000000
namespace Go.Pv
attribute [local irreducible] PWP POps PQuiet PSem XThen XBlock RetPost InlPost
open Go.Proofs

theorem earlyS_ok {w : SWork} (hw : Sane w) (hv : Well w) : (earlyS w).1.length = w.items.length ∧ 0 ≤ (earlyS w).2 ∧ (earlyS w).2 ≤ 1000000000 := by
  have hfin : earlyK2 w (ordS w).length = earlyS w := by rw [earlyK2, List.take_length, earlyS]
  obtain ⟨h1, _, h3, h4⟩ := earlyK2_ok hw hv (ordS w).length (Nat.le_refl _)
  rw [hfin] at h1 h3 h4
  have := ordS_len w
  have := hv.n40
  exact ⟨h1, h3, by omega⟩
theorem latS_len {w : SWork} (hv : Well w) {days : Int} (hd : 0 ≤ days) : (latS w days).length = w.items.length := by
  have hfin : (latK w days (ordS w).reverse.length).2 = latS w days := by rw [latK, List.take_length, latS]
  have := (latK_ok hv hd (ordS w).reverse.length (by simp)).2.2.1
  rwa [hfin] at this

set_option maxRecDepth 20000 in
theorem latest_ref (w : SWork) (hw : Sane w) (hv : Well w) (days : Int) (hd : 0 ≤ days ∧ days ≤ 1000000000) : Ret Try.prog .shared 39 [.agg (eWork w), I days] (.sl ((latS w days).map eI)) := by
  have h1 := hw.items
  have hn40 := hv.n40
  have hol := ord_full hv
  have hwl : ((w.items.map eItem).length : Int) = w.items.length := by simp
  have hLl : ((((ordS w).map (nameAt w)).map eS).length : Int) = (ordS w).length := by simp
  have hrl : (ordS w).reverse.length = (ordS w).length := by simp
  refine Ret.of_pwp layOk mixed Go.Proofs.Try.func39 rfl (by decide) rfl rfl ?_
  repeat (refine stp rfl ?_ ?_;·repeat' constructor)
  refine ps_run (o_make rfl rfl rfl rfl rfl rfl rfl rfl (by omega) (by rw [hwl]; show ((8 : Nat) : Int) * _ ≤ _; omega) (by rw [hwl]; omega) ?_)
  repeat (refine stp rfl ?_ ?_;·repeat' constructor)
  apply qst;exact rfl;exact rfl;exact q_call rfl (order_ref' w hw hv) rfl (by repeat' constructor) rfl
  repeat (refine stp rfl ?_ ?_;·repeat' constructor)
  refine pw_loop (fun k => k ≤ (ordS w).length) (fun k => [(1, I days), (2, .ptr 2 1 0 0), (5, .als 14 1 0 w.items.length), (6, .sl (((ordS w).map (nameAt w)).map eS)), (7, I (((ordS w).length : Int) - 1 - k))])
    (fun k => [(2, 1, ⟨28, 9, [eWork w], 2⟩), (14, 1, ⟨3, 1, (latK w days k).2.map eI, 0⟩)]) (fun k => (ordS w).length - k) 0 (Nat.zero_le _) ⟨rfl, rfl, ?_, rfl, ?_, rfl, ?_, trivial⟩ ?_
  · show PV.als 14 1 0 (List.length (List.replicate (Int.toNat (w.items.map eItem).length) _)) = _
    simp
  · show PV.int .i64 (IntKind.i64.wrap ((((ordS w).map (nameAt w)).map eS).length - 1)) = _
    rw [hLl, wrap_i64 (by omega) (by omega)]
    congr 1
    omega
  · show (1, some (Cont.mk 3 1 (List.replicate (Int.toNat (w.items.map eItem).length) _) 0)) = _
    simp [latK, eI]
  intro k s hk
  obtain ⟨hc1, hc2, hc3, hc4⟩ := latK_ok hv hd.1 k hk
  repeat (refine stp rfl ?_ ?_;·repeat' constructor)
  refine pw_cond rfl (fun h => ?_) (fun h => ?_)
  · have hlt : k < (ordS w).length := by have := of_decide_eq_true h; omega
    clear h
    obtain ⟨y0, hy0⟩ := get_lt (show k < (ordS w).reverse.length by omega)
    obtain ⟨i, x, rfl, hx⟩ := rev_known hv hy0
    have hil := (List.getElem?_eq_some_iff.1 hx).1
    have hxm := List.mem_of_getElem? hx
    have hio := hv.item x hxm
    have hlb := leastP_bound hio
    have hy1 : (ordS w)[(((ordS w).length : Int) - 1 - k).toNat]? = some (i : Int) := by
      have := hy0
      rw [List.getElem?_reverse hlt] at this
      rw [show (((ordS w).length : Int) - 1 - k).toNat = (ordS w).length - 1 - k by omega]; exact this
    have hnm := ord_name hv hy1 hx
    have hiu := hv.good.uniq i x hx
    have h24 := itemOf_ret w x.name (by omega)
    rw [hiu] at h24
    have hmin := refMin_eq hv hd.1 hy0 hil
    have hsucc := latK_succ (days := days) hy0 hx
    rw [← hmin] at hsucc
    have be := hc2.get (d := i) (by omega)
    rw [← hmin] at be
    generalize (latK w days k).2 = out at *
    repeat (refine stp rfl ?_ ?_;·repeat' constructor)
    refine pw_draw 7 [24, 25, 26, 27, 28, 29, 8] (by decide +kernel) ?_
    repeat (refine stp rfl ?_ ?_;·repeat' constructor)
    apply qst;exact rfl;exact rfl;exact q_idxm rfl rfl rfl rfl rfl (by omega) hnm rfl
    repeat (refine stp rfl ?_ ?_;·repeat' constructor)
    apply qst;exact rfl;exact rfl;exact q_callP rfl (h24) rfl (by repeat' constructor) rfl rfl
    repeat (refine stp rfl ?_ ?_;·repeat' constructor)
    refine pw_loop (fun j => j ≤ w.items.length) (fun j => [(1, I days), (2, .ptr 2 1 0 0), (5, .als 14 1 0 w.items.length), (6, .sl (((ordS w).map (nameAt w)).map eS)), (7, I (((ordS w).length : Int) - 1 - k)), (8, I i), (9, I (refMin w out i days j)), (10, I j)])
      (fun j => [(2, 1, ⟨28, 9, [eWork w], 2⟩), (14, 1, ⟨3, 1, out.map eI, 0⟩)]) (fun j => w.items.length - j) 0 (Nat.zero_le _) ⟨rfl, rfl, rfl, rfl, rfl, rfl, rfl, rfl, rfl, rfl, trivial⟩ ?_
    intro j s2 hj
    repeat (refine stp rfl ?_ ?_;·repeat' constructor)
    refine pw_cond rfl (fun h => ?_) (fun h => ?_)
    · have hlt' : j < w.items.length := by simpa using h
      clear h
      obtain ⟨z, hz⟩ := get_lt hlt'
      have hzm := List.mem_of_getElem? hz
      have hza := hw.after z hzm
      have hbz : (bef w).getD j [] = aft w z := by rw [List.getD_eq_getElem?_getD, bef, List.getElem?_map, hz]; rfl
      have hrm := refMin_succ w out i days j
      rw [hbz, ← after_any hv hx hzm] at hrm
      have r1 := eI_at (l := out) (i := j) (by omega)
      repeat (refine stp rfl ?_ ?_;·repeat' constructor)
      refine pw_draw 11 [38, 39, 40, 41, 42, 43, 44, 45, 46, 47, 48] (by decide +kernel) ?_
      repeat (refine stp rfl ?_ ?_;·repeat' constructor)
      apply qst;exact rfl;exact rfl;exact q_idxm rfl rfl rfl rfl rfl (by omega) hz rfl
      repeat (refine stp rfl ?_ ?_;·repeat' constructor)
      apply qst;exact rfl;exact rfl;exact q_idxm rfl rfl rfl rfl rfl (by omega) hnm rfl
      repeat (refine stp rfl ?_ ?_;·repeat' constructor)
      apply qst;exact rfl;exact rfl;exact q_callP rfl (among_ret z.after x.name (by omega)) rfl (by repeat' constructor) rfl rfl
      repeat (refine stp rfl ?_ ?_;·repeat' constructor)
      refine pw_cond rfl (fun h => ?_) (fun h => ?_)
      · rw [if_pos h] at hrm
        clear h
        repeat (refine stp rfl ?_ ?_;·repeat' constructor)
        refine ps_q (q_idxA rfl rfl rfl rfl rfl rfl rfl (by omega) (by omega)) ?_
        repeat (refine stp rfl ?_ ?_;·repeat' constructor)
        refine ps_q (q_ldp rfl rfl rfl r1 rfl) ?_
        repeat (refine stp rfl ?_ ?_;·repeat' constructor)
        refine ⟨j + 1, hlt', by omega, rfl, rfl, rfl, rfl, rfl, rfl, ?_, i64_next (by omega) (by omega), rfl, rfl, trivial⟩
        rw [hrm]; rfl
      · rw [if_neg (by rw [h]; simp)] at hrm
        clear h
        repeat (refine stp rfl ?_ ?_;·repeat' constructor)
        refine ⟨j + 1, hlt', by omega, rfl, rfl, rfl, rfl, rfl, rfl, ?_, i64_next (by omega) (by omega), rfl, rfl, trivial⟩
        rw [hrm]; rfl
    · have hge : j = w.items.length := by have : ¬ j < w.items.length := by simpa using h
                                          omega
      subst hge
      clear h
      generalize refMin w out i days w.items.length = v at *
      have hwr : IntKind.i64.wrap (v - leastP x) = v - leastP x := wrap_i64 (by omega) (by omega)
      have r1 := eI_at (l := out) (i := i) (by omega)
      repeat (refine stp rfl ?_ ?_;·repeat' constructor)
      apply qst;exact rfl;exact rfl;exact q_idxm rfl rfl rfl rfl rfl (by omega) hx rfl
      repeat (refine stp rfl ?_ ?_;·repeat' constructor)
      apply qst;exact rfl;exact rfl;exact q_callP rfl (least_ref x hio.modes.1 (by have := hio.modes; omega)) rfl (by repeat' constructor) rfl rfl
      repeat (refine stp rfl ?_ ?_;·repeat' constructor)
      refine ps_q (q_idxA rfl rfl rfl rfl rfl rfl rfl (by omega) (by omega)) ?_
      repeat (refine stp rfl ?_ ?_;·repeat' constructor)
      refine ps_run0 (o_store (kd' := 0) rfl rfl rfl r1 rfl rfl (by repeat' constructor) rfl rfl rfl rfl ?_)
      repeat (refine stp rfl ?_ ?_;·repeat' constructor)
      refine ⟨k + 1, hlt, by omega, rfl, rfl, rfl, rfl, ?_, rfl, ?_, trivial⟩
      · show PV.int .i64 (IntKind.i64.wrap (((ordS w).length : Int) - 1 - k - 1)) = _
        rw [wrap_i64 (by omega) (by omega)]
        congr 1
        omega
      · rw [hsucc]
        show (1, some (Cont.mk 3 1 ((out.map eI).set (0 + (i : Int).toNat) [I (IntKind.i64.wrap (v - leastP x))]) 0)) = (1, some (Cont.mk 3 1 ((out.set i (v - leastP x)).map eI) 0))
        rw [Nat.zero_add, Int.toNat_natCast, List.map_set, hwr]
        rfl
  · have hge : k = (ordS w).length := by have := of_decide_eq_false h; omega
    subst hge
    have hfin : (latK w days (ordS w).length).2 = latS w days := by rw [latK, ← hrl, List.take_length, latS]
    rw [hfin] at hc3 ⊢
    repeat (refine stp rfl ?_ ?_;·repeat' constructor)
    exact end1 rfl rfl rfl ⟨rfl, rfl, by rw [List.length_map, hc3]⟩ rfl

def latestR (w : SWork) (days : Int) : PV := if workE w = 0 then (if days < (earlyS w).2 ∨ 400 < days then .tup [.nil, I 16] else .tup [.sl ((latS w days).map eI), I 0]) else .tup [.nil, I (workE w)]
theorem latest_ret (w : SWork) (hw : Sane w) (days : Int) : Ret Try.prog .shared 34 [.agg (eWork w), I days] (latestR w days) := by
  have h33 := earliest_ret w hw
  by_cases hz : workE w = 0
  · have hv := well_of hz
    rw [earliestR, if_pos hz] at h33
    rw [latestR, if_pos hz]
    obtain ⟨_, he1, he2⟩ := earlyS_ok hw hv
    by_cases hc : days < (earlyS w).2 ∨ 400 < days
    · rw [if_pos hc]
      refine Ret.of_pwp layOk mixed Go.Proofs.Try.func34 rfl (by decide) rfl rfl ?_
      repeat (refine stp rfl ?_ ?_;·repeat' constructor)
      apply qst;exact rfl;exact rfl;exact q_call rfl (h33) rfl (by repeat' constructor) rfl
      repeat (refine stp rfl ?_ ?_;·repeat' constructor)
      (first | refine ps_split rfl rfl (fun h => ?_) (fun h => ?_) | refine pq_split rfl rfl (fun h => ?_) (fun h => ?_) | refine p3_split rfl rfl (fun h => ?_) (fun h => ?_))
      · repeat (refine stp rfl ?_ ?_;·repeat' constructor)
        exact end2 rfl rfl rfl rfl rfl trivial trivial rfl
      · have h1 := of_decide_eq_false h
        clear h
        repeat (refine stp rfl ?_ ?_;·repeat' constructor)
        refine pw_cond rfl (fun h => ?_) (fun h => ?_)
        · repeat (refine stp rfl ?_ ?_;·repeat' constructor)
          exact end2 rfl rfl rfl rfl rfl trivial trivial rfl
        · have h2 := of_decide_eq_false h
          exact absurd hc (by omega)
    · rw [if_neg hc]
      have h86 := latest0_ret w hw hv days (by omega)
      refine Ret.of_pwp layOk mixed Go.Proofs.Try.func34 rfl (by decide) rfl rfl ?_
      repeat (refine stp rfl ?_ ?_;·repeat' constructor)
      apply qst;exact rfl;exact rfl;exact q_call rfl (h33) rfl (by repeat' constructor) rfl
      repeat (refine stp rfl ?_ ?_;·repeat' constructor)
      (first | refine ps_split rfl rfl (fun h => ?_) (fun h => ?_) | refine pq_split rfl rfl (fun h => ?_) (fun h => ?_) | refine p3_split rfl rfl (fun h => ?_) (fun h => ?_))
      · have h1 := of_decide_eq_true h
        exact absurd (.inl h1) hc
      · clear h
        repeat (refine stp rfl ?_ ?_;·repeat' constructor)
        refine pw_cond rfl (fun h => ?_) (fun h => ?_)
        · have h2 := of_decide_eq_true h
          exact absurd (.inr h2) hc
        · clear h
          repeat (refine stp rfl ?_ ?_;·repeat' constructor)
          apply qst;exact rfl;exact rfl;exact q_call rfl (h86) rfl (by repeat' constructor) rfl
          repeat (refine stp rfl ?_ ?_;·repeat' constructor)
          exact end2 rfl rfl rfl rfl rfl trivial trivial rfl
  · rw [earliestR, if_neg hz] at h33
    rw [latestR, if_neg hz]
    generalize workE w = e at *
    refine Ret.of_pwp layOk mixed Go.Proofs.Try.func34 rfl (by decide) rfl rfl ?_
    repeat (refine stp rfl ?_ ?_;·repeat' constructor)
    apply qst;exact rfl;exact rfl;exact q_call rfl (h33) rfl (by repeat' constructor) rfl
    repeat (refine stp rfl ?_ ?_;·repeat' constructor)
    refine pw_cond rfl (fun h => ?_) (fun h => ?_)
    · repeat (refine stp rfl ?_ ?_;·repeat' constructor)
      exact end2 rfl rfl rfl rfl rfl trivial trivial rfl
    · exact absurd (by simpa using h) hz

def critAt (w : SWork) (a b : List Int) (i : Nat) : List Str := if b.getD i 0 = a.getD i 0 then [(itP w i).name] else []
def critN (w : SWork) (a b : List Int) (n : Nat) : List Str := (List.range n).flatMap (critAt w a b)
def critS (w : SWork) : List Str := critN w (earlyS w).1 (latS w (earlyS w).2) w.items.length
theorem critN_len (w : SWork) (a b : List Int) (n : Nat) : (critN w a b n).length ≤ n := by
  have := flatMap_len (f := critAt w a b) (c := 1) (fun i => by unfold critAt; split <;> simp) (List.range n)
  simpa [critN] using this
theorem eI_get {l : List Int} {i : Nat} (h : i < l.length) : l[i]? = some (l.getD i 0) := by rw [List.getD_eq_getElem?_getD, List.getElem?_eq_getElem h]; rfl
def criticalR (w : SWork) : PV := if workE w = 0 then .tup [.sl ((critS w).map eS), I 0] else .tup [.nil, I (workE w)]
theorem critical_ret (w : SWork) (hw : Sane w) : Ret Try.prog .shared 35 [.agg (eWork w)] (criticalR w) := by
  have h33 := earliest_ret w hw
  by_cases hz : workE w = 0
  · have hv := well_of hz
    have hn := hv.n40
    rw [earliestR, if_pos hz] at h33
    rw [criticalR, if_pos hz]
    obtain ⟨hel, he1, he2⟩ := earlyS_ok hw hv
    have h86 := latest0_ret w hw hv (earlyS w).2 ⟨he1, he2⟩
    have hll := latS_len hv he1
    have hcs : critS w = critN w (earlyS w).1 (latS w (earlyS w).2) w.items.length := rfl
    have hcl := critN_len w (earlyS w).1 (latS w (earlyS w).2)
    rw [hcs]
    generalize latS w (earlyS w).2 = b at *
    generalize (earlyS w).2 = all at *
    generalize (earlyS w).1 = a at *
    refine Ret.of_pwp layOk mixed Go.Proofs.Try.func35 rfl (by decide) rfl rfl ?_
    repeat (refine stp rfl ?_ ?_;·repeat' constructor)
    apply qst;exact rfl;exact rfl;exact q_call rfl (h33) rfl (by repeat' constructor) rfl
    repeat (refine stp rfl ?_ ?_;·repeat' constructor)
    apply qst;exact rfl;exact rfl;exact q_call rfl (h86) rfl (by repeat' constructor) rfl
    repeat (refine stp rfl ?_ ?_;·repeat' constructor)
    refine pw_ghost (Ghost.nilreg (k := 7) (t := 7) 9 1 0 rfl rfl) ?_
    refine pw_loop (fun k => k ≤ w.items.length) (fun k => [(1, .ptr 1 1 0 0), (4, .sl (a.map eI)), (7, .als 7 (1 + (critN w a b k).length) 0 ((critN w a b k).map eS).length), (21, .sl (b.map eI)), (22, I w.items.length), (23, I k)])
      (fun k => [(1, 1, ⟨28, 9, [eWork w], 2⟩), (7, 1 + (critN w a b k).length, ⟨9, 1, (critN w a b k).map eS, 0⟩)]) (fun k => w.items.length - k) 0 (Nat.zero_le _) ⟨rfl, rfl, rfl, rfl, ?_, rfl, rfl, rfl, trivial⟩ ?_
    · show I ((b.map eI).length) = _
      rw [List.length_map, hll]
    intro k s hk
    have hck := hcl k
    repeat (refine stp rfl ?_ ?_;·repeat' constructor)
    refine pw_cond rfl (fun h => ?_) (fun h => ?_)
    · have hlt : k < w.items.length := by have := of_decide_eq_true h; omega
      clear h
      obtain ⟨x, hx⟩ := get_lt hlt
      have ha := eI_get (l := a) (i := k) (by omega)
      have hb := eI_get (l := b) (i := k) (by omega)
      have hs : critN w a b (k + 1) = critN w a b k ++ critAt w a b k := range_flatMap _ _
      rw [critAt, itP_at hx] at hs
      generalize critN w a b k = ACC at *
      repeat (refine stp rfl ?_ ?_;·repeat' constructor)
      apply qst;exact rfl;exact rfl;exact q_idxm rfl rfl rfl rfl rfl (by omega) hb rfl
      repeat (refine stp rfl ?_ ?_;·repeat' constructor)
      apply qst;exact rfl;exact rfl;exact q_idxm rfl rfl rfl rfl rfl (by omega) ha rfl
      repeat (refine stp rfl ?_ ?_;·repeat' constructor)
      refine pw_cond rfl (fun h => ?_) (fun h => ?_)
      · have he := of_decide_eq_true h
        clear h
        rw [if_pos he] at hs
        repeat (refine stp rfl ?_ ?_;·repeat' constructor)
        apply qst;exact rfl;exact rfl;exact q_idxm rfl rfl rfl rfl rfl (by omega) hx rfl
        repeat (refine stp rfl ?_ ?_;·repeat' constructor)
        apply qst;exact rfl;exact rfl;exact q_slit rfl rfl rfl rfl rfl rfl rfl rfl rfl rfl (by repeat' constructor) rfl
        repeat (refine stp rfl ?_ ?_;·repeat' constructor)
        refine ps_run (o_app 0 rfl rfl rfl rfl rfl rfl rfl rfl rfl rfl rfl (by repeat' constructor) (by intro row hr; first | (simp at hr; subst hr; rfl) | simp at hr) rfl rfl (by simp; omega) (by simp; omega) ?_)
        repeat (refine stp rfl ?_ ?_;·repeat' constructor)
        refine ⟨k + 1, hlt, by omega, rfl, rfl, ?_, rfl, rfl, i64_next (by omega) (by omega), rfl, ?_, trivial⟩
        · rw [hs]; exact als_snoc eS 7 1 ACC x.name
        · rw [hs]; exact cont_snoc eS 1 9 1 0 ACC x.name
      · have he := of_decide_eq_false h
        clear h
        rw [if_neg he, List.append_nil] at hs
        repeat (refine stp rfl ?_ ?_;·repeat' constructor)
        refine ⟨k + 1, hlt, by omega, rfl, rfl, ?_, rfl, rfl, i64_next (by omega) (by omega), rfl, ?_, trivial⟩
        · rw [hs]; rfl
        · rw [hs]; rfl
    · have hge : k = w.items.length := by have := of_decide_eq_false h; omega
      subst hge
      repeat (refine stp rfl ?_ ?_;·repeat' constructor)
      exact end2 rfl rfl rfl rfl rfl ⟨rfl, rfl, rfl⟩ trivial rfl
  · rw [earliestR, if_neg hz] at h33
    rw [criticalR, if_neg hz]
    generalize workE w = e at *
    refine Ret.of_pwp layOk mixed Go.Proofs.Try.func35 rfl (by decide) rfl rfl ?_
    repeat (refine stp rfl ?_ ?_;·repeat' constructor)
    apply qst;exact rfl;exact rfl;exact q_call rfl (h33) rfl (by repeat' constructor) rfl
    repeat (refine stp rfl ?_ ?_;·repeat' constructor)
    refine pw_cond rfl (fun h => ?_) (fun h => ?_)
    · repeat (refine stp rfl ?_ ?_;·repeat' constructor)
      exact end2 rfl rfl rfl rfl rfl trivial trivial rfl
    · exact absurd (by simpa using h) hz
theorem critical_ref (w : SWork) (hw : Sane w) (hv : Well w) : Ret Try.prog .shared 38 [.agg (eWork w)] (.sl ((critS w).map eS)) := by
  have h36 := earliest_ref w hw hv
  have hn := hv.n40
  obtain ⟨hel, he1, he2⟩ := earlyS_ok hw hv
  have h39 := latest_ref w hw hv (earlyS w).2 ⟨he1, he2⟩
  have hll := latS_len hv he1
  have hcs : critS w = critN w (earlyS w).1 (latS w (earlyS w).2) w.items.length := rfl
  have hcl := critN_len w (earlyS w).1 (latS w (earlyS w).2)
  rw [hcs]
  generalize latS w (earlyS w).2 = b at *
  generalize (earlyS w).2 = all at *
  generalize (earlyS w).1 = a at *
  have hal : ((a.map eI).length : Int) = w.items.length := by simp [hel]
  refine Ret.of_pwp layOk mixed Go.Proofs.Try.func38 rfl (by decide) rfl rfl ?_
  repeat (refine stp rfl ?_ ?_;·repeat' constructor)
  apply qst;exact rfl;exact rfl;exact q_call rfl (h36) rfl (by repeat' constructor) rfl
  repeat (refine stp rfl ?_ ?_;·repeat' constructor)
  apply qst;exact rfl;exact rfl;exact q_call rfl (h39) rfl (by repeat' constructor) rfl
  repeat (refine stp rfl ?_ ?_;·repeat' constructor)
  refine pw_ghost (Ghost.nilreg (k := 6) (t := 6) 9 1 0 rfl rfl) ?_
  refine pw_loop (fun k => k ≤ w.items.length) (fun k => [(1, .ptr 1 1 0 0), (3, .sl (a.map eI)), (5, .sl (b.map eI)), (6, .als 6 (1 + (critN w a b k).length) 0 ((critN w a b k).map eS).length), (7, I k)])
    (fun k => [(1, 1, ⟨28, 9, [eWork w], 2⟩), (6, 1 + (critN w a b k).length, ⟨9, 1, (critN w a b k).map eS, 0⟩)]) (fun k => w.items.length - k) 0 (Nat.zero_le _) ⟨rfl, rfl, rfl, rfl, rfl, rfl, rfl, trivial⟩ ?_
  intro k s hk
  have hck := hcl k
  repeat (refine stp rfl ?_ ?_;·repeat' constructor)
  refine pw_cond rfl (fun h => ?_) (fun h => ?_)
  · have hlt : k < w.items.length := by have := of_decide_eq_true h; omega
    clear h
    obtain ⟨x, hx⟩ := get_lt hlt
    have ha := eI_get (l := a) (i := k) (by omega)
    have hb := eI_get (l := b) (i := k) (by omega)
    have hs : critN w a b (k + 1) = critN w a b k ++ critAt w a b k := range_flatMap _ _
    rw [critAt, itP_at hx] at hs
    generalize critN w a b k = ACC at *
    repeat (refine stp rfl ?_ ?_;·repeat' constructor)
    refine pw_draw 9 [22, 23, 24, 25, 26, 27, 28, 29, 30] (by decide +kernel) ?_
    repeat (refine stp rfl ?_ ?_;·repeat' constructor)
    apply qst;exact rfl;exact rfl;exact q_idxm rfl rfl rfl rfl rfl (by omega) ha rfl
    repeat (refine stp rfl ?_ ?_;·repeat' constructor)
    apply qst;exact rfl;exact rfl;exact q_idxm rfl rfl rfl rfl rfl (by omega) hb rfl
    repeat (refine stp rfl ?_ ?_;·repeat' constructor)
    refine pw_cond rfl (fun h => ?_) (fun h => ?_)
    · have he := of_decide_eq_true h
      clear h
      rw [if_pos he.symm] at hs
      repeat (refine stp rfl ?_ ?_;·repeat' constructor)
      apply qst;exact rfl;exact rfl;exact q_idxm rfl rfl rfl rfl rfl (by omega) hx rfl
      repeat (refine stp rfl ?_ ?_;·repeat' constructor)
      apply qst;exact rfl;exact rfl;exact q_slit rfl rfl rfl rfl rfl rfl rfl rfl rfl rfl (by repeat' constructor) rfl
      repeat (refine stp rfl ?_ ?_;·repeat' constructor)
      refine ps_run (o_app 0 rfl rfl rfl rfl rfl rfl rfl rfl rfl rfl rfl (by repeat' constructor) (by intro row hr; first | (simp at hr; subst hr; rfl) | simp at hr) rfl rfl (by simp; omega) (by simp; omega) ?_)
      repeat (refine stp rfl ?_ ?_;·repeat' constructor)
      refine ⟨k + 1, hlt, by omega, rfl, rfl, rfl, ?_, i64_next (by omega) (by omega), rfl, ?_, trivial⟩
      · rw [hs]; exact als_snoc eS 6 1 ACC x.name
      · rw [hs]; exact cont_snoc eS 1 9 1 0 ACC x.name
    · have he := of_decide_eq_false h
      clear h
      rw [if_neg (Ne.symm he), List.append_nil] at hs
      repeat (refine stp rfl ?_ ?_;·repeat' constructor)
      refine ⟨k + 1, hlt, by omega, rfl, rfl, rfl, ?_, i64_next (by omega) (by omega), rfl, ?_, trivial⟩
      · rw [hs]; rfl
      · rw [hs]; rfl
  · have hge : k = w.items.length := by have := of_decide_eq_false h; omega
    subst hge
    repeat (refine stp rfl ?_ ?_;·repeat' constructor)
    exact end1 rfl rfl rfl ⟨rfl, rfl, rfl⟩ rfl
end Go.Pv

/- What earliest and latest days are to a plan, and to each other. -/
set_option maxHeartbeats 2000000
namespace Go.Pv
attribute [local irreducible] PWP POps PQuiet PSem XThen XBlock RetPost InlPost
open Go.Proofs

def rowN (w : SWork) (i : Nat) : List Int := (bef w).getD i []
def lst (w : SWork) (i : Nat) : Int := leastP (itP w (i : Int))
theorem rowN_at {w : SWork} {i : Nat} {x : SItem} (hx : w.items[i]? = some x) : rowN w i = aft w x := by rw [rowN, List.getD_eq_getElem?_getD, bef, List.getElem?_map, hx]; rfl
theorem lst_at {w : SWork} {i : Nat} {x : SItem} (hx : w.items[i]? = some x) : lst w i = leastP x := by rw [lst, itP_at hx]
theorem rowN_known {w : SWork} (hv : Well w) {i : Nat} (hi : i < w.items.length) : KnownRow w (rowN w i) := by
  obtain ⟨x, hx⟩ := get_lt hi
  rw [rowN_at hx]; exact known_row hv (List.mem_of_getElem? hx)
theorem lst_pos {w : SWork} (hv : Well w) {i : Nat} (hi : i < w.items.length) : 1 ≤ lst w i := by
  obtain ⟨x, hx⟩ := get_lt hi
  rw [lst_at hx]; exact (leastP_bound (hv.item x (List.mem_of_getElem? hx))).1
theorem set_get {l : List Int} {i m : Nat} {v : Int} (hi : i < l.length) : (l.set i v).getD m 0 = if i = m then v else l.getD m 0 := by
  rw [List.getD_eq_getElem?_getD]
  by_cases h : i = m
  · subst h
    rw [List.getElem?_set_self hi, if_pos rfl]; rfl
  · rw [List.getElem?_set_ne h, if_neg h, List.getD_eq_getElem?_getD]
theorem imax_cases (a b : Int) : (imax a b = a ∧ b ≤ a) ∨ (imax a b = b ∧ a < b) := by unfold imax; split <;> omega

structure RowSpec (w : SWork) (i : Nat) (row : List Int) (out new : List Int) : Prop where
  len : new.length = out.length
  other : ∀ m, m ≠ i → new.getD m 0 = out.getD m 0
  ge : out.getD i 0 ≤ new.getD i 0
  all : ∀ m : Nat, (m : Int) ∈ row → out.getD m 0 + lst w m ≤ new.getD i 0
  att : new.getD i 0 = out.getD i 0 ∨ ∃ m : Nat, (m : Int) ∈ row ∧ new.getD i 0 = out.getD m 0 + lst w m
theorem rowE_spec {w : SWork} {i : Nat} {out : List Int} (hi : i < out.length) : ∀ (row : List Int), KnownRow w row → (i : Int) ∉ row → RowSpec w i row out (rowE w i row out) := by
  intro row hr hn
  have : ∀ j, j ≤ row.length → RowSpec w i (row.take j) out (rowE w i (row.take j) out) := by
    intro j
    induction j with
    | zero => intro _; exact ⟨rfl, fun _ _ => rfl, Int.le_refl _, fun m hm => by simp at hm, .inl rfl⟩
    | succ j ih =>
      intro hj
      have ih := ih (by omega)
      obtain ⟨k, hk⟩ := get_lt (show j < row.length by omega)
      obtain ⟨m, y, rfl, hy⟩ := hr k (List.mem_of_getElem? hk)
      have hmi : m ≠ i := fun h => hn (h ▸ List.mem_of_getElem? hk)
      have hs : rowE w i (row.take (j + 1)) out = stepE w i (rowE w i (row.take j) out) m := by rw [rowE, take_snoc hk, List.foldl_append]; rfl
      rw [hs]
      generalize rowE w i (row.take j) out = new at *
      have hil : i < new.length := by rw [ih.len]; exact hi
      have hst : stepE w i new m = new.set i (imax (new.getD i 0) (new.getD m 0 + lst w m)) := by rw [stepE, Int.toNat_natCast, Int.toNat_natCast]; rfl
      have hgi : (stepE w i new m).getD i 0 = imax (new.getD i 0) (out.getD m 0 + lst w m) := by rw [hst, set_get hil, if_pos rfl, ih.other m hmi]
      refine ⟨by rw [hst, List.length_set, ih.len], fun q hq => ?_, ?_, fun q hq => ?_, ?_⟩
      · rw [hst, set_get hil, if_neg (Ne.symm hq)]; exact ih.other q hq
      · rw [hgi]
        have := ih.ge
        rcases imax_cases (new.getD i 0) (out.getD m 0 + lst w m) with ⟨h, _⟩ | ⟨h, _⟩ <;> omega
      · rw [hgi]
        rw [take_snoc hk, List.mem_append] at hq
        rcases hq with hq | hq
        · have := ih.all q hq
          rcases imax_cases (new.getD i 0) (out.getD m 0 + lst w m) with ⟨h, _⟩ | ⟨h, _⟩ <;> omega
        · have : q = m := by simp at hq; omega
          subst this
          rcases imax_cases (new.getD i 0) (out.getD q 0 + lst w q) with ⟨h, _⟩ | ⟨h, _⟩ <;> omega
      · rw [hgi]
        rcases imax_cases (new.getD i 0) (out.getD m 0 + lst w m) with ⟨h, _⟩ | ⟨h, _⟩
        · rw [h]
          rcases ih.att with h1 | ⟨q, hq, h1⟩
          · exact .inl h1
          · exact .inr ⟨q, by rw [take_snoc hk, List.mem_append]; exact .inl hq, h1⟩
        · exact .inr ⟨m, by rw [take_snoc hk, List.mem_append]; exact .inr (by simp), h⟩
  have := this row.length (Nat.le_refl _)
  rwa [List.take_length] at this

/-- What stands in the order, and what it waits for. -/
theorem ord_step {w : SWork} (hv : Well w) {k : Nat} (hk : k < (ordS w).length) : ∃ (i : Nat) (x : SItem), (ordS w)[k]? = some (i : Int) ∧ w.items[i]? = some x ∧ (i : Int) ∉ (ordS w).take k ∧ (∀ m ∈ rowN w i, m ∈ (ordS w).take k) ∧ (i : Int) ∉ rowN w i := by
  obtain ⟨y, hy⟩ := get_lt hk
  obtain ⟨i, x, rfl, hx⟩ := (refOrd_eq hv.good).2 y (List.mem_of_getElem? hy)
  have ht := topo_ord w
  have hni : (i : Int) ∉ (ordS w).take k := by
    intro h
    rw [List.mem_take_iff_getElem] at h
    obtain ⟨q, hq, hqi⟩ := h
    have := nodup_pos ht.nodup (show (ordS w)[q]? = some (i : Int) by rw [List.getElem?_eq_getElem (by omega), hqi]) hy
    omega
  have hrow : ∀ m ∈ rowN w i, m ∈ (ordS w).take k := fun m hm => ht.pre k _ hy m (by rw [Int.toNat_natCast]; exact hm)
  exact ⟨i, x, hy, hx, hni, hrow, fun h => hni (hrow _ h)⟩
structure ESpec (w : SWork) (K : Nat) (out : List Int) (last : Int) : Prop where
  len : out.length = w.items.length
  none : ∀ i : Nat, (i : Int) ∉ (ordS w).take K → out.getD i 0 = 0
  all : ∀ i : Nat, (i : Int) ∈ (ordS w).take K → ∀ m : Nat, (m : Int) ∈ rowN w i → out.getD m 0 + lst w m ≤ out.getD i 0
  nonneg : ∀ i : Nat, 0 ≤ out.getD i 0
  att : ∀ i : Nat, out.getD i 0 = 0 ∨ ∃ m : Nat, (m : Int) ∈ rowN w i ∧ out.getD i 0 = out.getD m 0 + lst w m
  le : ∀ i : Nat, (i : Int) ∈ (ordS w).take K → out.getD i 0 + lst w i ≤ last
  last0 : (last = 0 ∧ K = 0) ∨ ∃ i : Nat, (i : Int) ∈ (ordS w).take K ∧ last = out.getD i 0 + lst w i
theorem early_spec {w : SWork} (hv : Well w) : ∀ K, K ≤ (ordS w).length → ESpec w K (earlyK2 w K).1 (earlyK2 w K).2
  | 0, _ => by
    have hz : ∀ i : Nat, (earlyK2 w 0).1.getD i 0 = 0 := fun i => by
      show (List.replicate w.items.length (0 : Int)).getD i 0 = 0
      rw [List.getD_eq_getElem?_getD, List.getElem?_replicate]; split <;> rfl
    exact ⟨by simp [earlyK2], fun i _ => hz i, fun i h => by simp at h, fun i => by rw [hz i]; exact Int.le_refl _, fun i => .inl (hz i), fun i h => by simp at h, .inl ⟨rfl, rfl⟩⟩
  | K + 1, hK => by
    have ih := early_spec hv K (by omega)
    obtain ⟨i, x, hy, hx, hni, hrow, hself⟩ := ord_step hv (show K < (ordS w).length by omega)
    have hil := (List.getElem?_eq_some_iff.1 hx).1
    rw [earlyK2_succ hy hx, ← rowN_at hx, ← lst_at hx]
    have hrs := rowE_spec (w := w) (i := i) (out := (earlyK2 w K).1) (by rw [ih.len]; exact hil) (rowN w i) (rowN_known hv hil) hself
    generalize (earlyK2 w K).1 = out at *
    generalize (earlyK2 w K).2 = last at *
    generalize rowE w i (rowN w i) out = new at *
    have hi0 : out.getD i 0 = 0 := ih.none i hni
    have hne : ∀ j : Nat, (j : Int) ∈ (ordS w).take K → j ≠ i := fun j hj h => hni (h ▸ hj)
    have hmem : ∀ j : Nat, (j : Int) ∈ (ordS w).take (K + 1) ↔ (j : Int) ∈ (ordS w).take K ∨ j = i := fun j => by
      rw [take_snoc hy, List.mem_append, List.mem_singleton]
      constructor
      · rintro (h | h)
        · exact .inl h
        · exact .inr (by omega)
      · rintro (h | h)
        · exact .inl h
        · exact .inr (by rw [h])
    have hrne : ∀ m : Nat, (m : Int) ∈ rowN w i → m ≠ i := fun m hm => hne m (hrow _ hm)
    show ESpec w (K + 1) new (imax last (new.getD i 0 + lst w i))
    refine ⟨by rw [hrs.len, ih.len], fun j hj => ?_, fun j hj m hm => ?_, fun j => ?_, fun j => ?_, fun j hj => ?_, .inr ?_⟩
    · rw [hmem] at hj
      rw [hrs.other j (fun h => hj (.inr h))]
      exact ih.none j fun h => hj (.inl h)
    · rw [hmem] at hj
      rcases hj with hj | rfl
      · have hmt : (m : Int) ∈ (ordS w).take K := by
          rw [List.mem_take_iff_getElem] at hj
          obtain ⟨q, hq, hqj⟩ := hj
          have := (topo_ord w).pre q _ (show (ordS w)[q]? = some (j : Int) by rw [List.getElem?_eq_getElem (by omega), hqj]) m (by rw [Int.toNat_natCast]; exact hm)
          exact List.mem_of_mem_take (by rw [List.take_take, Nat.min_eq_left (by omega : q ≤ K)]; exact this : (m : Int) ∈ ((ordS w).take K).take q)
        rw [hrs.other j (hne j hj), hrs.other m (hne m hmt)]
        exact ih.all j hj m hm
      · rw [hrs.other m (hrne m hm)]
        exact hrs.all m hm
    · by_cases hji : j = i
      · subst hji
        have := hrs.ge
        omega
      · rw [hrs.other j hji]; exact ih.nonneg j
    · by_cases hji : j = i
      · subst hji
        rcases hrs.att with h | ⟨m, hm, h⟩
        · exact .inl (by omega)
        · exact .inr ⟨m, hm, by rw [h, hrs.other m (hrne m hm)]⟩
      · rw [hrs.other j hji]
        rcases ih.att j with h | ⟨m, hm, h⟩
        · exact .inl h
        · by_cases hjt : (j : Int) ∈ (ordS w).take K
          · have hmt : m ≠ i := by
              rw [List.mem_take_iff_getElem] at hjt
              obtain ⟨q, hq, hqj⟩ := hjt
              have := (topo_ord w).pre q _ (show (ordS w)[q]? = some (j : Int) by rw [List.getElem?_eq_getElem (by omega), hqj]) m (by rw [Int.toNat_natCast]; exact hm)
              exact hne m (List.mem_of_mem_take (by rw [List.take_take, Nat.min_eq_left (by omega : q ≤ K)]; exact this : (m : Int) ∈ ((ordS w).take K).take q))
            exact .inr ⟨m, hm, by rw [hrs.other m hmt]; exact h⟩
          · exact .inl (ih.none j hjt)
    · rw [hmem] at hj
      rcases hj with hj | rfl
      · rw [hrs.other j (hne j hj)]
        have := ih.le j hj
        rcases imax_cases last (new.getD i 0 + lst w i) with ⟨h, _⟩ | ⟨h, _⟩ <;> omega
      · rcases imax_cases last (new.getD j 0 + lst w j) with ⟨h, _⟩ | ⟨h, _⟩ <;> omega
    · rcases imax_cases last (new.getD i 0 + lst w i) with ⟨h, hle⟩ | ⟨h, _⟩
      · rw [h]
        rcases ih.last0 with ⟨h0, _⟩ | ⟨j, hj, h1⟩
        · have := lst_pos hv hil
          have := hrs.ge
          omega
        · exact ⟨j, (hmem j).2 (.inl hj), by rw [hrs.other j (hne j hj)]; exact h1⟩
      · exact ⟨i, (hmem i).2 (.inr rfl), h⟩
/-- The earliest days of all items. -/
theorem early_all {w : SWork} (hv : Well w) : ESpec w w.items.length (earlyS w).1 (earlyS w).2 := by
  have := early_spec hv (ordS w).length (Nat.le_refl _)
  have hfin : earlyK2 w (ordS w).length = earlyS w := by rw [earlyK2, List.take_length, earlyS]
  rw [hfin, ord_full hv] at this
  exact this
theorem take_all {w : SWork} (hv : Well w) {i : Nat} (hi : i < w.items.length) : (i : Int) ∈ (ordS w).take w.items.length := by
  rw [← ord_full hv, List.take_length]; exact ord_all hv hi

/-- Days that fit the order are not before the earliest ones. -/
theorem early_le {w : SWork} (hv : Well w) {D : Nat → Int} (h0 : ∀ i, i < w.items.length → 0 ≤ D i) (h1 : ∀ i m : Nat, i < w.items.length → m < w.items.length → (m : Int) ∈ rowN w i → D m + lst w m ≤ D i) : ∀ i, i < w.items.length → (earlyS w).1.getD i 0 ≤ D i := by
  have hs := early_all hv
  have key : ∀ (f i : Nat), i < w.items.length → ((earlyS w).1.getD i 0).toNat ≤ f → (earlyS w).1.getD i 0 ≤ D i := by
    intro f
    induction f with
    | zero =>
      intro i hi hf
      have := hs.nonneg i
      have := h0 i hi
      omega
    | succ f ih =>
      intro i hi hf
      rcases hs.att i with h | ⟨m, hm, h⟩
      · rw [h]; exact h0 i hi
      · obtain ⟨q, y, hq, hy⟩ := rowN_known hv hi _ hm
        have hml : m < w.items.length := by have := (List.getElem?_eq_some_iff.1 hy).1; omega
        have hl := lst_pos hv hml
        have hnn := hs.nonneg m
        have := ih m hml (by omega)
        have := h1 i m hi hml hm
        omega
  exact fun i hi => key _ i hi (Nat.le_refl _)

/-! ### The latest days -/
theorem rev_pos {w : SWork} (hv : Well w) {i : Nat} (hi : i < w.items.length) : ∃ k, k < (ordS w).reverse.length ∧ (ordS w).reverse[k]? = some (i : Int) := by
  have : (i : Int) ∈ (ordS w).reverse := by rw [List.mem_reverse]; exact ord_all hv hi
  obtain ⟨k, hk, h⟩ := List.getElem_of_mem this
  exact ⟨k, hk, by rw [List.getElem?_eq_getElem hk, h]⟩
theorem rev_not {w : SWork} {k i : Nat} (hk : (ordS w).reverse[k]? = some (i : Int)) : (i : Int) ∉ (ordS w).reverse.take k := by
  have hnd : (ordS w).reverse.Nodup := List.pairwise_reverse.2 ((topo_ord w).nodup.imp fun h => Ne.symm h)
  intro h
  rw [List.mem_take_iff_getElem] at h
  obtain ⟨q, hq, hqi⟩ := h
  have := nodup_pos hnd (show (ordS w).reverse[q]? = some (i : Int) by rw [List.getElem?_eq_getElem (by omega), hqi]) hk
  omega
theorem latK_out {w : SWork} (hv : Well w) {days : Int} (hd : 0 ≤ days) {k i : Nat} {x : SItem} (hk : (ordS w).reverse[k]? = some (i : Int)) (hx : w.items[i]? = some x) (j : Nat) :
    (latK w days (k + 1)).2.getD j 0 = if i = j then (latK w days k).1.getD i 0 - lst w i else (latK w days k).2.getD j 0 := by
  have hkl : k < (ordS w).length := by have := (List.getElem?_eq_some_iff.1 hk).1; simpa using this
  obtain ⟨_, _, h3, _⟩ := latK_ok hv hd k (by omega)
  rw [latK_succ hk hx]
  show ((latK w days k).2.set i _).getD j 0 = _
  rw [set_get (by have := (List.getElem?_eq_some_iff.1 hx).1; omega), lst_at hx]
/-- What is set stays. -/
theorem latK_keep {w : SWork} (hv : Well w) {days : Int} (hd : 0 ≤ days) {k j : Nat} (hj : (j : Int) ∈ (ordS w).reverse.take k) : ∀ q, k + q ≤ (ordS w).length → (latK w days (k + q)).2.getD j 0 = (latK w days k).2.getD j 0
  | 0, _ => rfl
  | q + 1, hq => by
    obtain ⟨y, hy⟩ := get_lt (show k + q < (ordS w).reverse.length by simp; omega)
    obtain ⟨i, x, rfl, hx⟩ := rev_known hv hy
    rw [← Nat.add_assoc, latK_out hv hd hy hx, if_neg, latK_keep hv hd hj q (by omega)]
    rintro rfl
    refine rev_not hy ?_
    have : (i : Int) ∈ ((ordS w).reverse.take (k + q)).take k := by rw [List.take_take, Nat.min_eq_left (by omega)]; exact hj
    exact List.mem_of_mem_take this
theorem latS_eq (w : SWork) (days : Int) : (latK w days (ordS w).length).2 = latS w days := by
  have hrl : (ordS w).reverse.length = (ordS w).length := by simp
  rw [latK, ← hrl, List.take_length, latS]
/-- The latest day of an item, when it is reckoned. -/
theorem lat_at {w : SWork} (hv : Well w) {days : Int} (hd : 0 ≤ days) {k i : Nat} (hk : (ordS w).reverse[k]? = some (i : Int)) : (latS w days).getD i 0 = (latK w days k).1.getD i 0 - lst w i := by
  obtain ⟨q, x, he, hx⟩ := rev_known hv hk
  have : i = q := by omega
  subst this
  have hkl : k < (ordS w).length := by have := (List.getElem?_eq_some_iff.1 hk).1; simpa using this
  have := latK_keep hv hd (k := k + 1) (j := i) (by rw [take_snoc hk]; simp) ((ordS w).length - (k + 1)) (by omega)
  rw [show k + 1 + ((ordS w).length - (k + 1)) = (ordS w).length by omega, latS_eq, latK_out hv hd hk hx, if_pos rfl] at this
  exact this
theorem lat_le {w : SWork} (hv : Well w) {days : Int} (hd : 0 ≤ days) {i : Nat} (hi : i < w.items.length) : (latS w days).getD i 0 + lst w i ≤ days ∧ ∀ j, j < w.items.length → (i : Int) ∈ rowN w j → (latS w days).getD i 0 + lst w i ≤ (latS w days).getD j 0 := by
  obtain ⟨k, hk, hki⟩ := rev_pos hv hi
  have hkl : k < (ordS w).length := by simpa using hk
  have hl := lat_at hv hd hki
  obtain ⟨h1, h2⟩ := (le_latK hv hd hi ((latK w days k).1.getD i 0) k (by omega)).1 (Int.le_refl _)
  refine ⟨by omega, fun j hj hij => ?_⟩
  have hjt := rev_before hv hki hj hij
  have := h2 j hjt hij
  have hkeep := latK_keep hv hd hjt ((ordS w).length - k) (by omega)
  rw [show k + ((ordS w).length - k) = (ordS w).length by omega, latS_eq] at hkeep
  omega
/-- Days that fit the order and end in time are not behind the latest ones. -/
theorem lat_ge {w : SWork} (hv : Well w) {days : Int} (hd : 0 ≤ days) {D E : Nat → Int} (hE : ∀ m, m < w.items.length → E m ≤ days) (hDE : ∀ m, m < w.items.length → D m + lst w m ≤ E m)
    (h1 : ∀ i m : Nat, i < w.items.length → m < w.items.length → (m : Int) ∈ rowN w i → E m ≤ D i) : ∀ i, i < w.items.length → D i ≤ (latS w days).getD i 0 := by
  have key : ∀ k, k ≤ (ordS w).length → ∀ j : Nat, (j : Int) ∈ (ordS w).reverse.take k → D j ≤ (latK w days k).2.getD j 0 := by
    intro k
    induction k with
    | zero => intro _ j hj; simp at hj
    | succ k ih =>
      intro hk j hj
      have ih := ih (by omega)
      obtain ⟨y, hy⟩ := get_lt (show k < (ordS w).reverse.length by simp; omega)
      obtain ⟨i, x, rfl, hx⟩ := rev_known hv hy
      have hil := (List.getElem?_eq_some_iff.1 hx).1
      rw [latK_out hv hd hy hx]
      by_cases hij : i = j
      · subst hij
        rw [if_pos rfl]
        have : E i ≤ (latK w days k).1.getD i 0 := by
          rw [le_latK hv hd hil _ k (by omega)]
          refine ⟨hE i hil, fun q hq hiq => ?_⟩
          obtain ⟨q', y, he, hyq⟩ := (refOrd_eq hv.good).2 (q : Int) (by have := List.mem_of_mem_take hq; simpa using this)
          have hql : q < w.items.length := by have := (List.getElem?_eq_some_iff.1 hyq).1; omega
          exact Int.le_trans (h1 q i hql hil hiq) (ih q hq)
        have := hDE i hil
        omega
      · rw [if_neg hij]
        rw [take_snoc hy, List.mem_append] at hj
        rcases hj with hj | hj
        · exact ih j hj
        · simp at hj; omega
  intro i hi
  have := key (ordS w).length (Nat.le_refl _) i (by
    have : (ordS w).length = (ordS w).reverse.length := by simp
    rw [this, List.take_length, List.mem_reverse]; exact ord_all hv hi)
  rwa [latS_eq] at this

/-! ### Critical items -/
theorem crit_le {w : SWork} (hw : Sane w) (hv : Well w) {i : Nat} (hi : i < w.items.length) : (earlyS w).1.getD i 0 ≤ (latS w (earlyS w).2).getD i 0 := by
  have hs := early_all hv
  have hn := (earlyS_ok hw hv).2.1
  refine lat_ge hv hn (D := fun i => (earlyS w).1.getD i 0) (E := fun i => (earlyS w).1.getD i 0 + lst w i) (fun m hm => hs.le m (take_all hv hm)) (fun m _ => Int.le_refl _) (fun i m hi _ hmi => hs.all i (take_all hv hi) m hmi) i hi
theorem crit_end {w : SWork} (hw : Sane w) (hv : Well w) (h0 : 0 < w.items.length) : ∃ i, i < w.items.length ∧ (latS w (earlyS w).2).getD i 0 = (earlyS w).1.getD i 0 ∧ (earlyS w).1.getD i 0 + lst w i = (earlyS w).2 := by
  have hs := early_all hv
  have hn := (earlyS_ok hw hv).2.1
  rcases hs.last0 with ⟨_, h⟩ | ⟨i, hi, h⟩
  · omega
  · obtain ⟨q, y, he, hyq⟩ := (refOrd_eq hv.good).2 (i : Int) (List.mem_of_mem_take hi)
    have hil : i < w.items.length := by have := (List.getElem?_eq_some_iff.1 hyq).1; omega
    have h1 := crit_le hw hv hil
    have h2 := (lat_le hv hn hil).1
    exact ⟨i, hil, by omega, by omega⟩
theorem crit_begin {w : SWork} (hw : Sane w) (hv : Well w) (h0 : 0 < w.items.length) : ∃ i, i < w.items.length ∧ (latS w (earlyS w).2).getD i 0 = (earlyS w).1.getD i 0 ∧ (earlyS w).1.getD i 0 = 0 := by
  have hs := early_all hv
  have hn := (earlyS_ok hw hv).2.1
  have key : ∀ (f i : Nat), i < w.items.length → (latS w (earlyS w).2).getD i 0 = (earlyS w).1.getD i 0 → ((earlyS w).1.getD i 0).toNat ≤ f → ∃ i, i < w.items.length ∧ (latS w (earlyS w).2).getD i 0 = (earlyS w).1.getD i 0 ∧ (earlyS w).1.getD i 0 = 0 := by
    intro f
    induction f with
    | zero =>
      intro i hi hc hf
      have := hs.nonneg i
      exact ⟨i, hi, hc, by omega⟩
    | succ f ih =>
      intro i hi hc hf
      rcases hs.att i with h | ⟨m, hm, h⟩
      · exact ⟨i, hi, hc, h⟩
      · obtain ⟨q, y, hq, hy⟩ := rowN_known hv hi _ hm
        have hml : m < w.items.length := by have := (List.getElem?_eq_some_iff.1 hy).1; omega
        have hl := lst_pos hv hml
        have hnn := hs.nonneg m
        have h1 := crit_le hw hv hml
        have h2 := (lat_le hv hn hml).2 i hi hm
        exact ih m hml (by omega) (by omega)
  obtain ⟨i, hi, hc, _⟩ := crit_end hw hv h0
  exact key _ i hi hc (Nat.le_refl _)
end Go.Pv

/- The longest chains from each item: what they are. -/
set_option maxHeartbeats 2000000
namespace Go.Pv
attribute [local irreducible] PWP POps PQuiet PSem XThen XBlock RetPost InlPost
open Go.Proofs

def sumC (w : SWork) (i : Nat) : Int := (chainS w).getD i 0
theorem bestC_le (w : SWork) (out : List Int) (i B : Int) : ∀ n : Nat, bestC w out i n ≤ B ↔ 0 ≤ B ∧ ∀ j, j < n → i ∈ rowN w j → out.getD j 0 ≤ B
  | 0 => by simp [bestC]
  | n + 1 => by
    have ih := bestC_le w out i B n
    rw [bestC_succ]
    have hmem : ((bef w).getD n []).any (· == i) = true ↔ i ∈ rowN w n := by simp [rowN]
    unfold bestF
    by_cases hi : i ∈ rowN w n
    · rw [if_pos (hmem.2 hi), imax_le, ih]
      constructor
      · rintro ⟨⟨h1, h2⟩, h3⟩
        refine ⟨h1, fun j hj hjm => ?_⟩
        rcases Nat.lt_or_ge j n with hlt | hge
        · exact h2 j hlt hjm
        · rw [show j = n by omega]; exact h3
      · rintro ⟨h1, h2⟩
        exact ⟨⟨h1, fun j hj => h2 j (by omega)⟩, h2 n (by omega) hi⟩
    · rw [if_neg (fun h => hi (hmem.1 h)), ih]
      constructor
      · rintro ⟨h1, h2⟩
        refine ⟨h1, fun j hj hjm => ?_⟩
        rcases Nat.lt_or_ge j n with hlt | hge
        · exact h2 j hlt hjm
        · rw [show j = n by omega] at hjm; exact absurd hjm hi
      · rintro ⟨h1, h2⟩
        exact ⟨h1, fun j hj => h2 j (by omega)⟩
theorem bestC_att (w : SWork) (out : List Int) (i : Int) : ∀ n : Nat, bestC w out i n = 0 ∨ ∃ j, j < n ∧ i ∈ rowN w j ∧ bestC w out i n = out.getD j 0
  | 0 => .inl rfl
  | n + 1 => by
    have ih := bestC_att w out i n
    rw [bestC_succ]
    have hmem : ((bef w).getD n []).any (· == i) = true ↔ i ∈ rowN w n := by simp [rowN]
    unfold bestF
    by_cases hi : i ∈ rowN w n
    · rw [if_pos (hmem.2 hi)]
      rcases imax_cases (bestC w out i n) (out.getD n 0) with ⟨h, _⟩ | ⟨h, _⟩
      · rw [h]
        rcases ih with h1 | ⟨j, hj, h1, h2⟩
        · exact .inl h1
        · exact .inr ⟨j, by omega, h1, h2⟩
      · exact .inr ⟨n, by omega, hi, h⟩
    · rw [if_neg (fun h => hi (hmem.1 h))]
      rcases ih with h1 | ⟨j, hj, h1, h2⟩
      · exact .inl h1
      · exact .inr ⟨j, by omega, h1, h2⟩
theorem chainK_out {w : SWork} (hv : Well w) {k i : Nat} {x : SItem} (hk : (ordS w).reverse[k]? = some (i : Int)) (hx : w.items[i]? = some x) (j : Nat) :
    (chainK w (k + 1)).getD j 0 = if i = j then lst w i + bestC w (chainK w k) i w.items.length else (chainK w k).getD j 0 := by
  have hkl : k < (ordS w).length := by have := (List.getElem?_eq_some_iff.1 hk).1; simpa using this
  have h3 := (chainK_ok hv k (by omega)).1
  have hs : chainK w (k + 1) = stepC w (chainK w k) i := by rw [chainK, take_snoc hk, List.foldl_append]; rfl
  rw [hs, stepC, Int.toNat_natCast, set_get (by have := (List.getElem?_eq_some_iff.1 hx).1; omega)]
  rfl
theorem chainK_keep {w : SWork} (hv : Well w) {k j : Nat} (hj : (j : Int) ∈ (ordS w).reverse.take k) : ∀ q, k + q ≤ (ordS w).length → (chainK w (k + q)).getD j 0 = (chainK w k).getD j 0
  | 0, _ => rfl
  | q + 1, hq => by
    obtain ⟨y, hy⟩ := get_lt (show k + q < (ordS w).reverse.length by simp; omega)
    obtain ⟨i, x, rfl, hx⟩ := rev_known hv hy
    rw [← Nat.add_assoc, chainK_out hv hy hx, if_neg, chainK_keep hv hj q (by omega)]
    rintro rfl
    refine rev_not hy ?_
    have : (i : Int) ∈ ((ordS w).reverse.take (k + q)).take k := by rw [List.take_take, Nat.min_eq_left (by omega)]; exact hj
    exact List.mem_of_mem_take this
theorem chainS_eq (w : SWork) : chainK w (ordS w).length = chainS w := by
  have hrl : (ordS w).reverse.length = (ordS w).length := by simp
  rw [chainK, ← hrl, List.take_length, chainS]
theorem sumC_at {w : SWork} (hv : Well w) {k i : Nat} (hk : (ordS w).reverse[k]? = some (i : Int)) : sumC w i = lst w i + bestC w (chainK w k) i w.items.length := by
  obtain ⟨q, x, he, hx⟩ := rev_known hv hk
  have : i = q := by omega
  subst this
  have hkl : k < (ordS w).length := by have := (List.getElem?_eq_some_iff.1 hk).1; simpa using this
  have := chainK_keep hv (k := k + 1) (j := i) (by rw [take_snoc hk]; simp) ((ordS w).length - (k + 1)) (by omega)
  rw [show k + 1 + ((ordS w).length - (k + 1)) = (ordS w).length by omega, chainS_eq, chainK_out hv hk hx, if_pos rfl] at this
  exact this
structure SumSpec (w : SWork) (i : Nat) : Prop where
  le : ∀ j, j < w.items.length → (i : Int) ∈ rowN w j → lst w i + sumC w j ≤ sumC w i
  ge : lst w i ≤ sumC w i
  att : sumC w i = lst w i ∨ ∃ j, j < w.items.length ∧ (i : Int) ∈ rowN w j ∧ sumC w i = lst w i + sumC w j
theorem sum_spec {w : SWork} (hv : Well w) {i : Nat} (hi : i < w.items.length) : SumSpec w i := by
  obtain ⟨k, hk, hki⟩ := rev_pos hv hi
  have hkl : k < (ordS w).length := by simpa using hk
  have hat := sumC_at hv hki
  have hkeep : ∀ j, j < w.items.length → (i : Int) ∈ rowN w j → (chainK w k).getD j 0 = sumC w j := fun j hj hij => by
    have := chainK_keep hv (rev_before hv hki hj hij) ((ordS w).length - k) (by omega)
    rw [show k + ((ordS w).length - k) = (ordS w).length by omega, chainS_eq] at this
    exact this.symm
  obtain ⟨h1, h2⟩ := (bestC_le w (chainK w k) i _ w.items.length).1 (Int.le_refl _)
  refine ⟨fun j hj hij => ?_, by omega, ?_⟩
  · have := h2 j hj hij
    rw [hkeep j hj hij] at this
    omega
  · rcases bestC_att w (chainK w k) i w.items.length with h | ⟨j, hj, hij, h⟩
    · exact .inl (by omega)
    · exact .inr ⟨j, hj, hij, by rw [hat, h, hkeep j hj hij]⟩
theorem chainS_len {w : SWork} (hv : Well w) : (chainS w).length = w.items.length ∧ ∀ v ∈ chainS w, 0 ≤ v ∧ v ≤ 2400 := by
  have := chainK_ok hv (ordS w).length (Nat.le_refl _)
  rw [chainS_eq] at this
  refine ⟨this.1, fun v hm => ?_⟩
  have h1 := this.2 v hm
  have := ordS_len w
  have := hv.n40
  omega
theorem sumC_pos {w : SWork} (hv : Well w) {i : Nat} (hi : i < w.items.length) : 1 ≤ sumC w i := by
  have h1 := (sum_spec hv hi).ge
  have h2 := lst_pos hv hi
  omega
theorem sumC_get {w : SWork} (hv : Well w) {i : Nat} (hi : i < w.items.length) : (chainS w)[i]? = some (sumC w i) := by
  rw [sumC, List.getD_eq_getElem?_getD, List.getElem?_eq_getElem (by rw [(chainS_len hv).1]; exact hi)]; rfl

/-! ### The longest chain, the first one -/
def maxC (w : SWork) : Int := (chainS w).foldl imax 0
/-- The first item that may follow 'i' in a longest chain. -/
def nextC (w : SWork) (i : Nat) : Int := idx (List.range w.items.length) fun k => decide (sumC w k = sumC w i - lst w i) && (rowN w k).any (· == (i : Int))
def chainFr (w : SWork) : Nat → Nat → List Nat
  | 0, _ => []
  | f + 1, i => i :: (if nextC w i < 0 then [] else chainFr w f (nextC w i).toNat)
def firstC (w : SWork) : Int := idx (chainS w) (· == maxC w)
def longC (w : SWork) : List Nat := if maxC w ≤ 0 then [] else chainFr w (maxC w).toNat (firstC w).toNat
theorem nextC_some {w : SWork} {i : Nat} (h : 0 ≤ nextC w i) : (nextC w i).toNat < w.items.length ∧ sumC w (nextC w i).toNat = sumC w i - lst w i ∧ (i : Int) ∈ rowN w (nextC w i).toNat := by
  obtain ⟨x, hx, hp⟩ := idx_lt h
  have hl : (nextC w i).toNat < w.items.length := by have := (List.getElem?_eq_some_iff.1 hx).1; simpa [nextC] using this
  have hx' : (List.range w.items.length)[(nextC w i).toNat]? = some x := hx
  rw [List.getElem?_range hl] at hx'
  have := Option.some.inj hx'
  subst this
  simp only [Bool.and_eq_true, decide_eq_true_eq] at hp
  refine ⟨hl, hp.1, ?_⟩
  obtain ⟨y, hy, he⟩ := List.any_eq_true.1 hp.2
  have : y = (i : Int) := by simpa using he
  exact this ▸ hy
/-- There is one that follows, if something is left. -/
theorem nextC_ex {w : SWork} (hv : Well w) {i : Nat} (hi : i < w.items.length) (h : 0 < sumC w i - lst w i) : ∃ j, j < w.items.length ∧ sumC w j = sumC w i - lst w i ∧ (i : Int) ∈ rowN w j := by
  rcases (sum_spec hv hi).att with h1 | ⟨j, hj, h1, h2⟩
  · omega
  · exact ⟨j, hj, by omega, h1⟩
theorem nextC_is {w : SWork} {i k : Nat} (hk : k < w.items.length) (h1 : sumC w k = sumC w i - lst w i) (h2 : (i : Int) ∈ rowN w k) (h3 : ∀ j, j < k → sumC w j = sumC w i - lst w i → (i : Int) ∉ rowN w j) : nextC w i = k := by
  refine idx_found (a := k) (by rw [List.getElem?_range hk]) ?_ fun j b hj hb => ?_
  · rw [decide_eq_true h1, Bool.true_and]; exact List.any_eq_true.2 ⟨_, h2, by simp⟩
  · rw [List.getElem?_range (by omega)] at hb
    have := Option.some.inj hb
    subst this
    rw [Bool.and_eq_false_iff]
    by_cases hs : sumC w j = sumC w i - lst w i
    · refine .inr ?_
      rw [List.any_eq_false]
      intro y hy he
      have : y = (i : Int) := by simpa using he
      exact h3 j hj hs (this ▸ hy)
    · exact .inl (decide_eq_false hs)
theorem nextC_none {w : SWork} {i : Nat} (h : ∀ k, k < w.items.length → sumC w k ≠ sumC w i - lst w i) : nextC w i = -1 := by
  refine idx_none fun j b hb => ?_
  have hj : j < w.items.length := by have := (List.getElem?_eq_some_iff.1 hb).1; simpa using this
  rw [List.getElem?_range hj] at hb
  have := Option.some.inj hb
  subst this
  rw [decide_eq_false (h j hj), Bool.false_and]
theorem maxC_ge {w : SWork} : ∀ v ∈ chainS w, v ≤ maxC w := by
  have : ∀ (l : List Int) (a : Int), a ≤ l.foldl imax a ∧ ∀ v ∈ l, v ≤ l.foldl imax a := by
    intro l
    induction l with
    | nil => intro a; exact ⟨Int.le_refl _, fun v hv => by simp at hv⟩
    | cons b l ih =>
      intro a
      obtain ⟨h1, h2⟩ := ih (imax a b)
      rw [List.foldl_cons]
      refine ⟨Int.le_trans le_imax.1 h1, fun v hv => ?_⟩
      rcases List.mem_cons.1 hv with rfl | hv
      · exact Int.le_trans le_imax.2 h1
      · exact h2 v hv
  exact (this _ 0).2
theorem maxC_att {w : SWork} : maxC w = 0 ∨ maxC w ∈ chainS w := by
  have : ∀ (l : List Int) (a : Int), l.foldl imax a = a ∨ l.foldl imax a ∈ l := by
    intro l
    induction l with
    | nil => intro a; exact .inl rfl
    | cons b l ih =>
      intro a
      rw [List.foldl_cons]
      rcases ih (imax a b) with h | h
      · rw [h]
        rcases imax_cases a b with ⟨h1, _⟩ | ⟨h1, _⟩
        · exact .inl h1
        · exact .inr (by rw [h1]; simp)
      · exact .inr (by simp [h])
  exact this _ 0
theorem firstC_at {w : SWork} (hv : Well w) (h : 0 < maxC w) : 0 ≤ firstC w ∧ (firstC w).toNat < w.items.length ∧ sumC w (firstC w).toNat = maxC w := by
  have hm : maxC w ∈ chainS w := by rcases maxC_att (w := w) with h1 | h1; · omega
                                    · exact h1
  have h0 : 0 ≤ firstC w := by
    have := idx_nonneg (chainS w) (· == maxC w)
    rw [List.any_eq_true.2 ⟨_, hm, by simp⟩] at this
    exact of_decide_eq_true this
  obtain ⟨x, hx, hp⟩ := idx_lt h0
  have hp : x = maxC w := by simpa using hp
  have hx : (chainS w)[(firstC w).toNat]? = some x := hx
  have hl := (List.getElem?_eq_some_iff.1 hx).1
  rw [(chainS_len hv).1] at hl
  rw [sumC_get hv hl] at hx
  exact ⟨h0, hl, by rw [Option.some.inj hx, hp]⟩
end Go.Pv

/- The longest chain: the program's walk. -/
set_option maxHeartbeats 2000000
namespace Go.Pv
attribute [local irreducible] PWP POps PQuiet PSem XThen XBlock RetPost InlPost
open Go.Proofs

theorem long1_ret (x n : Int) : Ret Try.prog .shared 120 [I x, .dref [I n] 0] (.bool (x == n)) := by
  refine Ret.of_pwp layOk mixed Go.Proofs.Try.func120 rfl (by decide) rfl rfl ?_
  repeat (refine stp rfl ?_ ?_;·repeat' constructor)
  exact end1b rfl rfl rfl
structure LongAt (w : SWork) (c : List Nat) (left : Int) (at_ : Int) : Prop where
  lo : 0 ≤ left
  hi : (c.length : Int) + left ≤ 2400
  cur : 0 < left → 0 ≤ at_ ∧ at_.toNat < w.items.length ∧ sumC w at_.toNat = left
  rest : ∃ f : Nat, left ≤ f ∧ longC w = c ++ (if left ≤ 0 then [] else chainFr w f at_.toNat)
theorem LongAt.start {w : SWork} (hv : Well w) : LongAt w [] (maxC w) (firstC w) := by
  have hb : 0 ≤ maxC w ∧ maxC w ≤ 2400 := by
    rcases maxC_att (w := w) with h | h
    · omega
    · exact (chainS_len hv).2 _ h
  exact ⟨hb.1, by simp; omega, fun h => firstC_at hv h, (maxC w).toNat, by omega, by rw [longC]; simp⟩
theorem LongAt.step {w : SWork} (hv : Well w) {c : List Nat} {left : Int} {i : Nat} (h : LongAt w c left i) (h0 : 0 < left) : LongAt w (c ++ [i]) (left - lst w i) (nextC w i) := by
  obtain ⟨_, hi, hs⟩ := h.cur h0
  rw [Int.toNat_natCast] at hi hs
  have hl := lst_pos hv hi
  have hge := (sum_spec hv hi).ge
  obtain ⟨f, hf, hr⟩ := h.rest
  rw [if_neg (by omega), Int.toNat_natCast] at hr
  obtain ⟨f0, rfl⟩ : ∃ f0, f = f0 + 1 := ⟨f - 1, by omega⟩
  have hhi := h.hi
  have hex : 0 < left - lst w i → 0 ≤ nextC w i := fun hp => by
    obtain ⟨j, hj, h1, h2⟩ := nextC_ex hv hi (by omega)
    have := idx_nonneg (List.range w.items.length) fun k => decide (sumC w k = sumC w i - lst w i) && (rowN w k).any (· == (i : Int))
    rw [List.any_eq_true.2 ⟨j, List.mem_range.2 hj, by rw [decide_eq_true h1, Bool.true_and]; exact List.any_eq_true.2 ⟨_, h2, by simp⟩⟩] at this
    exact of_decide_eq_true this
  refine ⟨by omega, by simp; omega, fun hp => ?_, f0, by omega, ?_⟩
  · have h1 := hex hp
    obtain ⟨g1, g2, _⟩ := nextC_some h1
    exact ⟨h1, g1, by omega⟩
  · rw [hr, List.append_assoc]
    congr 1
    rw [chainFr, List.singleton_append]
    congr 1
    by_cases hp : left - lst w i ≤ 0
    · rw [if_pos hp, if_pos]
      rw [nextC_none fun k hk he => by have := sumC_pos hv hk; omega]
      omega
    · rw [if_neg hp, if_neg (by have := hex (by omega); omega)]
theorem LongAt.done {w : SWork} {c : List Nat} {left at_ : Int} (h : LongAt w c left at_) (h0 : ¬ 0 < left) : longC w = c := by
  obtain ⟨f, _, hr⟩ := h.rest
  rw [if_pos (by omega), List.append_nil] at hr
  exact hr
/-- The search for the next one. -/
def SeekAt (w : SWork) (i : Nat) (nx : Int) : Prop := (nx = -1 ∧ ∀ k, k < w.items.length → sumC w k ≠ sumC w i - lst w i) ∨
  ∃ k : Nat, nx = k ∧ k < w.items.length ∧ sumC w k = sumC w i - lst w i ∧ ∀ j, j < k → sumC w j = sumC w i - lst w i → (i : Int) ∉ rowN w j
theorem seek_start {w : SWork} (hv : Well w) {i : Nat} : SeekAt w i (idx (chainS w) (· == (sumC w i - lst w i))) := by
  have hl := (chainS_len hv).1
  rcases idx_cases (chainS w) (· == (sumC w i - lst w i)) with ⟨h1, h2⟩ | ⟨k, a, h1, h2, h3, h4⟩
  · refine .inl ⟨h1, fun k hk he => ?_⟩
    have := h2 k _ (sumC_get hv hk)
    simp [he] at this
  · have hk : k < w.items.length := by rw [← hl]; exact (List.getElem?_eq_some_iff.1 h2).1
    rw [sumC_get hv hk] at h2
    have := Option.some.inj h2
    subst this
    refine .inr ⟨k, h1, hk, by simpa using h3, fun j hj he => ?_⟩
    have := h4 j _ hj (sumC_get hv (by omega))
    simp [he] at this
theorem seek_hit {w : SWork} {i k : Nat} (h : SeekAt w i k) (hin : (i : Int) ∈ rowN w k) : nextC w i = k := by
  rcases h with ⟨h1, _⟩ | ⟨q, h1, h2, h3, h4⟩
  · omega
  · have : k = q := by omega
    subst this
    exact nextC_is h2 h3 hin h4
theorem seek_neg {w : SWork} {i : Nat} {nx : Int} (h : SeekAt w i nx) (h0 : nx < 0) : nextC w i = nx := by
  rcases h with ⟨h1, h2⟩ | ⟨q, h1, _⟩
  · rw [h1]; exact nextC_none h2
  · omega
theorem seek_on {w : SWork} (hv : Well w) {i k : Nat} (hi : i < w.items.length) (h : SeekAt w i k) (hno : (i : Int) ∉ rowN w k) : 0 ≤ idx ((chainS w).drop (k + 1)) (· == (sumC w i - lst w i)) ∧ SeekAt w i ((k : Int) + (1 + idx ((chainS w).drop (k + 1)) (· == (sumC w i - lst w i)))) := by
  have hl := (chainS_len hv).1
  rcases h with ⟨h1, _⟩ | ⟨q, h1, h2, h3, h4⟩
  · omega
  · have : k = q := by omega
    subst this
    have hp : 0 < sumC w i - lst w i := by have := sumC_pos hv h2; omega
    obtain ⟨j, hj, g1, g2⟩ := nextC_ex hv hi hp
    have hjk : k < j := by
      rcases Nat.lt_trichotomy j k with h | h | h
      · exact absurd g2 (h4 j h g1)
      · subst h; exact absurd g2 hno
      · exact h
    have hd : ∀ m, ((chainS w).drop (k + 1))[m]? = (chainS w)[k + 1 + m]? := fun m => List.getElem?_drop
    rcases idx_cases ((chainS w).drop (k + 1)) (· == (sumC w i - lst w i)) with ⟨e1, e2⟩ | ⟨m, a, e1, e2, e3, e4⟩
    · have := e2 (j - (k + 1)) (sumC w j) (by rw [hd, show k + 1 + (j - (k + 1)) = j by omega]; exact sumC_get hv hj)
      simp [g1] at this
    · rw [e1]
      rw [hd] at e2
      have hm : k + 1 + m < w.items.length := by rw [← hl]; exact (List.getElem?_eq_some_iff.1 e2).1
      rw [sumC_get hv hm] at e2
      have := Option.some.inj e2
      subst this
      refine ⟨by omega, .inr ⟨k + 1 + m, by omega, hm, by simpa using e3, fun q hq he => ?_⟩⟩
      rcases Nat.lt_trichotomy q k with h | h | h
      · exact h4 q h he
      · subst h; exact hno
      · have := e4 (q - (k + 1)) (sumC w q) (by omega) (by rw [hd, show k + 1 + (q - (k + 1)) = q by omega]; exact sumC_get hv (by omega))
        simp [he] at this

def nmN (w : SWork) (i : Nat) : Str := (itP w (i : Int)).name
def longP (w : SWork) : PV := .agg [I (maxC w), .sl (((longC w).map (nmN w)).map eS), .str []]
set_option maxRecDepth 20000 in
theorem longest_ret (w : SWork) (hw : Sane w) (hv : Well w) : Ret Try.prog .shared 77 [.agg (eWork w)] (longP w) := by
  have h1 := hw.items
  have hn40 := hv.n40
  have hcl := chainS_len hv
  have hbl : ((bef w).map eL).length = w.items.length := by simp [bef]
  have hml : ((chainS w).map eI).length = w.items.length := by rw [List.length_map, hcl.1]
  refine Ret.of_pwp layOk mixed Go.Proofs.Try.func77 rfl (by decide) rfl rfl ?_
  repeat (refine stp rfl ?_ ?_;·repeat' constructor)
  apply qst;exact rfl;exact rfl;exact q_call rfl (chainFrom_ret w hw hv) rfl (by repeat' constructor) rfl
  repeat (refine stp rfl ?_ ?_;·repeat' constructor)
  apply qst;exact rfl;exact rfl;exact q_call rfl (before_ret w h1 hw.after) rfl (by repeat' constructor) rfl
  repeat (refine stp rfl ?_ ?_;·repeat' constructor)
  refine pw_loop (fun (k : Nat) => k ≤ w.items.length) (fun k => [(1, .ptr 1 1 0 0), (2, .ptr 2 1 0 0), (3, .sl ((chainS w).map eI)), (4, .sl ((bef w).map eL)), (5, .ptr 5 1 0 0), (19, .sl ((chainS w).map eI)), (20, I w.items.length), (21, I k)])
    (fun k => [(1, 1, ⟨28, 9, [eWork w], 2⟩), (2, 1, ⟨60, 3, [[I 0, .nil, .str []]], 2⟩), (5, 1, ⟨60, 3, [[I (((chainS w).take k).foldl imax 0), .nil, .str []]], 2⟩)]) (fun k => w.items.length - k) 0 (Nat.zero_le _) ⟨rfl, rfl, rfl, rfl, rfl, rfl, ?_, rfl, rfl, rfl, rfl, trivial⟩ ?_
  · show I ((chainS w).map eI).length = _
    rw [hml]
  intro k s hk
  repeat (refine stp rfl ?_ ?_;·repeat' constructor)
  refine pw_cond rfl (fun h => ?_) (fun h => ?_)
  · have hlt : k < w.items.length := by have := of_decide_eq_true h; omega
    clear h
    have hsk := sumC_get hv hlt
    repeat (refine stp rfl ?_ ?_;·repeat' constructor)
    apply qst;exact rfl;exact rfl;exact q_idxm rfl rfl rfl rfl rfl (by omega) hsk rfl
    repeat (refine stp rfl ?_ ?_;·repeat' constructor)
    refine ⟨k + 1, hlt, by omega, rfl, rfl, rfl, rfl, rfl, rfl, rfl, i64_next (by omega) (by omega), rfl, rfl, ?_, trivial⟩
    rw [take_snoc hsk, List.foldl_append]
    rfl
  have hge : k = w.items.length := by have := of_decide_eq_false h; omega
  subst hge
  clear h
  have hmax : ((chainS w).take w.items.length).foldl imax 0 = maxC w := by rw [← hcl.1, List.take_length]; rfl
  rw [hmax]
  have hidx := indexI_ret (chainS w) (maxC w) (by omega)
  rw [show idx (chainS w) (· == maxC w) = firstC w from rfl] at hidx
  repeat (refine stp rfl ?_ ?_;·repeat' constructor)
  refine pw_draw3 [9] [6, 8] (by decide +kernel) ?_
  repeat (refine stp rfl ?_ ?_;·repeat' constructor)
  apply qst;exact rfl;exact rfl;exact q_callP rfl (hidx) rfl (by repeat' constructor) rfl rfl
  repeat (refine stp rfl ?_ ?_;·repeat' constructor)
  refine pw_ghost (Ghost.nilcell (k := 48) (k0 := 5) (i := 0) (j := 1) 9 1 0 rfl rfl rfl rfl (row := [I (maxC w), .nil, .str []]) rfl rfl rfl) ?_
  refine pw_loop (fun q : List Nat × Int × Int => LongAt w q.1 q.2.1 q.2.2) (fun q => [(1, .ptr 1 1 0 0), (2, .ptr 2 1 0 0), (3, .sl ((chainS w).map eI)), (4, .sl ((bef w).map eL)), (5, .ptr 5 1 0 0), (8, I q.2.2), (9, .ptr 9 ((s.own 9).1 + 1) 0 0)])
    (fun q => [(1, 1, ⟨28, 9, [eWork w], 2⟩), (2, 1, ⟨60, 3, [[I 0, .nil, .str []]], 2⟩), (5, 1, ⟨60, 3, [[I (maxC w), .als 48 ((s.own 48).1 + 1 + (q.1.map (nmN w)).length) 0 ((q.1.map (nmN w)).map eS).length, .str []]], 2⟩), (9, (s.own 9).1 + 1, ⟨3, 1, [[I q.2.1]], 2⟩), (48, (s.own 48).1 + 1 + (q.1.map (nmN w)).length, ⟨9, 1, (q.1.map (nmN w)).map eS, 0⟩)])
    (fun q => q.2.1.toNat) ([], maxC w, firstC w) (.start hv) ⟨rfl, rfl, rfl, rfl, rfl, rfl, rfl, rfl, rfl, rfl, rfl, rfl, trivial⟩ ?_
  generalize (s.own 9).1 + 1 = g9
  generalize (s.own 48).1 + 1 = g48
  rintro ⟨c, left, at_⟩ s2 hla
  replace hla : LongAt w c left at_ := hla
  repeat (refine stp rfl ?_ ?_;·repeat' constructor)
  refine pw_cond rfl (fun h => ?_) (fun h => ?_)
  · have h0 : 0 < left := of_decide_eq_true h
    clear h
    obtain ⟨g1, g2, g3⟩ := hla.cur h0
    obtain ⟨i, rfl⟩ : ∃ i : Nat, at_ = i := ⟨at_.toNat, by omega⟩
    rw [Int.toNat_natCast] at g2 g3
    subst g3
    obtain ⟨x, hx⟩ := get_lt g2
    have hxm := List.mem_of_getElem? hx
    have hio := hv.item x hxm
    have hlb := leastP_bound hio
    have hstep := hla.step hv h0
    have hhi := hla.hi
    have hlx : lst w i = leastP x := lst_at hx
    have hnx : nmN w i = x.name := by rw [nmN, itP_at hx]
    have hwr : IntKind.i64.wrap (sumC w i - leastP x) = sumC w i - lst w i := by rw [hlx, wrap_i64 (by omega) (by omega)]
    have hlt := lst_pos hv g2
    have hnl : (c.map (nmN w)).length = c.length := by simp
    have hcn : ((c ++ [i]).map (nmN w)) = c.map (nmN w) ++ [x.name] := by rw [List.map_append, ← hnx]; rfl
    have hfi := indexFI_ret (chainS w) 120 [I (sumC w i - lst w i)] (· == (sumC w i - lst w i)) (by omega) (fun x _ => long1_ret x _)
    repeat (refine stp rfl ?_ ?_;·repeat' constructor)
    refine pw_draw 9 [39, 40, 41, 42, 43, 44, 45, 46, 47] (by decide +kernel) ?_
    repeat (refine stp rfl ?_ ?_;·repeat' constructor)
    apply qst;exact rfl;exact rfl;exact q_idxm rfl rfl rfl rfl rfl (by omega) hx rfl
    repeat (refine stp rfl ?_ ?_;·repeat' constructor)
    apply qst;exact rfl;exact rfl;exact q_slit rfl rfl rfl rfl rfl rfl rfl rfl rfl rfl (by repeat' constructor) rfl
    repeat (refine stp rfl ?_ ?_;·repeat' constructor)
    refine ps_run (o_app 0 rfl rfl rfl rfl rfl rfl rfl rfl rfl rfl rfl (by repeat' constructor) (by intro row hr; first | (simp at hr; subst hr; rfl) | simp at hr) rfl rfl (by simp; omega) (by simp; omega) ?_)
    repeat (refine stp rfl ?_ ?_;·repeat' constructor)
    apply qst;exact rfl;exact rfl;exact q_idxm rfl rfl rfl rfl rfl (by omega) hx rfl
    repeat (refine stp rfl ?_ ?_;·repeat' constructor)
    apply qst;exact rfl;exact rfl;exact q_callP rfl (least_ret x hio.modes.1 (by have := hio.modes; omega) (fun m hm => by have := hio.mode m hm; exact ⟨this.1, this.2.1⟩)) rfl (by repeat' constructor) rfl rfl
    repeat (refine stp rfl ?_ ?_;·repeat' constructor)
    rw [hwr]
    apply qst;exact rfl;exact rfl;exact q_callP rfl (hfi) rfl (by repeat' constructor) rfl rfl
    repeat (refine stp rfl ?_ ?_;·repeat' constructor)
    refine pw_loop (fun nx : Int => SeekAt w i nx) (fun nx => [(1, .ptr 1 1 0 0), (2, .ptr 2 1 0 0), (3, .sl ((chainS w).map eI)), (4, .sl ((bef w).map eL)), (5, .ptr 5 1 0 0), (8, I nx), (9, .ptr 9 g9 0 0), (12, I i)])
      (fun _ => [(1, 1, ⟨28, 9, [eWork w], 2⟩), (2, 1, ⟨60, 3, [[I 0, .nil, .str []]], 2⟩), (5, 1, ⟨60, 3, [[I (maxC w), .als 48 (g48 + (c.map (nmN w)).length + 1) 0 ((c.map (nmN w)).map eS ++ [eS x.name]).length, .str []]], 2⟩), (9, g9, ⟨3, 1, [[I (sumC w i - lst w i)]], 2⟩), (48, g48 + (c.map (nmN w)).length + 1, ⟨9, 1, (c.map (nmN w)).map eS ++ [eS x.name], 0⟩)])
      (fun nx => if nx < 0 then 0 else (w.items.length - nx).toNat + 1) _ (seek_start hv) ⟨rfl, rfl, rfl, rfl, rfl, rfl, rfl, rfl, rfl, rfl, rfl, rfl, rfl, trivial⟩ ?_
    intro nx s3 hsk
    repeat (refine stp rfl ?_ ?_;·repeat' constructor)
    (first | refine ps_split rfl rfl (fun h => ?_) (fun h => ?_) | refine pq_split rfl rfl (fun h => ?_) (fun h => ?_) | refine p3_split rfl rfl (fun h => ?_) (fun h => ?_))
    · have hnn : 0 ≤ nx := of_decide_eq_true h
      clear h
      obtain ⟨k, rfl⟩ : ∃ k : Nat, nx = k := ⟨nx.toNat, by omega⟩
      have hkl : k < w.items.length := by rcases hsk with ⟨e, _⟩ | ⟨q, e, hq, _⟩ <;> omega
      obtain ⟨y, hy⟩ := get_lt hkl
      have hay := hw.after y (List.mem_of_getElem? hy)
      have hbk : (bef w)[k]? = some (rowN w k) := by rw [rowN_at hy, bef, List.getElem?_map, hy]; rfl
      have hrl : (rowN w k).length ≤ 1000000 := by rw [rowN_at hy]; simp [aft]; omega
      have hcon := containsI_ret (rowN w k) i hrl
      cases hin : (rowN w k).any (· == (i : Int)) with
      | false =>
        rw [hin] at hcon
        have hno : (i : Int) ∉ rowN w k := fun hm => by
          rw [List.any_eq_false] at hin
          exact hin _ hm (by simp)
        obtain ⟨e1, e2⟩ := seek_on hv g2 hsk hno
        have hw1 : IntKind.i64.wrap ((k : Int) + 1) = (k + 1 : Nat) := by rw [wrap_i64 (by omega) (by omega)]; omega
        have hix := indexI_ret ((chainS w).drop (k + 1)) (sumC w i - lst w i) (by rw [List.length_drop]; omega)
        have hilt : idx ((chainS w).drop (k + 1)) (· == (sumC w i - lst w i)) < w.items.length - k := by
          obtain ⟨_, hq, _⟩ := idx_lt e1
          have := (List.getElem?_eq_some_iff.1 hq).1
          rw [List.length_drop] at this
          omega
        generalize idx ((chainS w).drop (k + 1)) (· == (sumC w i - lst w i)) = r at *
        repeat (refine stp rfl ?_ ?_;·repeat' constructor)
        apply qst;exact rfl;exact rfl;exact q_idxm rfl rfl rfl rfl rfl (by omega) hbk rfl
        repeat (refine stp rfl ?_ ?_;·repeat' constructor)
        apply qst;exact rfl;exact rfl;exact q_callP rfl (hcon) rfl (by repeat' constructor) rfl rfl
        repeat (refine stp rfl ?_ ?_;·repeat' constructor)
        refine pw_draw 7 [77, 78, 79, 80, 81, 82, 13] (by decide +kernel) ?_
        repeat (refine stp rfl ?_ ?_;·repeat' constructor)
        rw [hw1]
        apply qst;exact rfl;exact rfl;exact q_slcm rfl rfl rfl rfl rfl (by omega) (by omega) (fun _ => rfl)
        rw [Int.toNat_natCast]
        repeat (refine stp rfl ?_ ?_;·repeat' constructor)
        apply qst;exact rfl;exact rfl;exact q_callP rfl (hix) rfl (by repeat' constructor) rfl rfl
        repeat (refine stp rfl ?_ ?_;·repeat' constructor)
        refine pw_cond rfl (fun h => ?_) (fun h => ?_)
        · exact absurd (of_decide_eq_true h) (by omega)
        clear h
        repeat (refine stp rfl ?_ ?_;·repeat' constructor)
        refine ⟨_, e2, by rw [if_neg (by omega), if_neg (by omega)]; omega, rfl, rfl, rfl, rfl, rfl, ?_, rfl, rfl, rfl, rfl, rfl, rfl, rfl, trivial⟩
        show PV.int .i64 (IntKind.i64.wrap (_ + IntKind.i64.wrap (1 + _))) = _
        rw [wrap_i64 (n := 1 + _) (by omega) (by omega), wrap_i64 (by omega) (by omega)]
      | true =>
        rw [hin] at hcon
        have hmem : (i : Int) ∈ rowN w k := by
          obtain ⟨z, hz, he⟩ := List.any_eq_true.1 hin
          have : z = (i : Int) := by simpa using he
          exact this ▸ hz
        rw [seek_hit hsk hmem] at hstep
        repeat (refine stp rfl ?_ ?_;·repeat' constructor)
        apply qst;exact rfl;exact rfl;exact q_idxm rfl rfl rfl rfl rfl (by omega) hbk rfl
        repeat (refine stp rfl ?_ ?_;·repeat' constructor)
        apply qst;exact rfl;exact rfl;exact q_callP rfl (hcon) rfl (by repeat' constructor) rfl rfl
        repeat (refine stp rfl ?_ ?_;·repeat' constructor)
        refine ⟨(c ++ [i], sumC w i - lst w i, (k : Int)), hstep, by show (sumC w i - lst w i).toNat < (sumC w i).toNat; omega, rfl, rfl, rfl, rfl, rfl, rfl, rfl, rfl, rfl, ?_, rfl, ?_, trivial⟩
        · rw [hcn, ← als_snoc eS 48 g48 (c.map (nmN w)) x.name]; rfl
        · rw [hcn]; exact cont_snoc eS g48 9 1 0 (c.map (nmN w)) x.name
    · have hneg : nx < 0 := by have := of_decide_eq_false h; omega
      clear h
      rw [seek_neg hsk hneg] at hstep
      repeat (refine stp rfl ?_ ?_;·repeat' constructor)
      refine ⟨(c ++ [i], sumC w i - lst w i, nx), hstep, by show (sumC w i - lst w i).toNat < (sumC w i).toNat; omega, rfl, rfl, rfl, rfl, rfl, rfl, rfl, rfl, rfl, ?_, rfl, ?_, trivial⟩
      · rw [hcn, ← als_snoc eS 48 g48 (c.map (nmN w)) x.name]; rfl
      · rw [hcn]; exact cont_snoc eS g48 9 1 0 (c.map (nmN w)) x.name
  · have hdone := hla.done (of_decide_eq_false h)
    clear h
    repeat (refine stp rfl ?_ ?_;·repeat' constructor)
    exact endc rfl rfl rfl rfl (by repeat' constructor) (by rw [longP, hdone])
end Go.Pv

/- Bounds: the program's answers. -/
set_option maxHeartbeats 2000000
namespace Go.Pv
attribute [local irreducible] PWP POps PQuiet PSem XThen XBlock RetPost InlPost
open Go.Proofs

theorem Ret.dnT {P : Program} {m : Mode} {f : FuncId} {args cs : List PV} (n : Nat) (h : Ret P m f args (.tup cs)) : Ret P m f args (.tup (cs.map (Pv.dn n))) := by
  refine ⟨h.1, fun w X args h1 h2 h3 => (h.2 w X args h1 h2 h3).mono fun _ w' ⟨v, e1, e2, e3⟩ => ⟨v, e1, e2, ?_⟩⟩
  cases e3 with
  | tup cs vs hl hd =>
    refine .tup _ vs (by simp [hl]) fun i c v e1 e2 => ?_
    rw [List.getElem?_map] at e1
    cases hq : cs[i]? with
    | none => rw [hq] at e1; simp at e1
    | some c0 => rw [hq] at e1; simp at e1; subst e1; exact dn_drep n _ _ (hd i c0 v hq e2)

structure SBound where
  days : Int
  chain : List Str
  trade : Str
def eBound (b : SBound) : List PV := [I b.days, .sl (b.chain.map eS), .str b.trade]
def longB (w : SWork) : SBound := ⟨maxC w, (longC w).map (nmN w), []⟩
def bestFB (w : SWork) (b : SBound) (t : STrade) : SBound := if b.days < tradeB w t then ⟨tradeB w t, [], t.name⟩ else b
def bestB (w : SWork) : SBound := w.trades.foldl (bestFB w) (longB w)
/-- The same, as the program keeps it: a chain may be nil. -/
def bestFP (w : SWork) (b : Int × PV × Str) (t : STrade) : Int × PV × Str := if b.1 < tradeB w t then (tradeB w t, .nil, t.name) else b
def eBP (b : Int × PV × Str) : List PV := [I b.1, b.2.1, .str b.2.2]
def longBP (w : SWork) : Int × PV × Str := (maxC w, .sl (((longC w).map (nmN w)).map eS), [])
theorem dn_texts (l : List Str) : dn 4 (.sl (l.map eS)) = .sl (l.map eS) := by
  show PV.sl ((l.map eS).map (·.map (dn 3))) = _
  rw [List.map_map]
  congr 1
theorem bestP_dn (w : SWork) : ∀ (l : List STrade) (b : SBound) (c : Int × PV × Str), (eBP c).map (dn 4) = eBound b → c.1 = b.days → (eBP (l.foldl (bestFP w) c)).map (dn 4) = eBound (l.foldl (bestFB w) b)
  | [], _, _, h, _ => h
  | t :: l, b, c, h, hd => by
    rw [List.foldl_cons, List.foldl_cons]
    refine bestP_dn w l _ _ ?_ ?_
    · unfold bestFP bestFB
      rw [hd]
      split
      · rfl
      · exact h
    · unfold bestFP bestFB
      rw [hd]
      split
      · rfl
      · exact hd

theorem crew_zero {w : SWork} (hv : Well w) {t : STrade} (ht : t ∈ w.trades) (h : sumB w t ≠ 0) : t.crew ≠ 0 := by
  intro h0
  refine h ?_
  have hlw : ∀ x ∈ w.items, x.trade = t.name → lwP x = 0 := by
    intro x hx hxt
    have hio := hv.item x hx
    have hcrew : crewOf w x = 0 := by
      obtain ⟨i, hi, rfl⟩ := List.getElem_of_mem ht
      have hu := hv.tuniq i _ (List.getElem?_eq_getElem hi)
      rw [crewOf, hxt, hu, Int.toNat_natCast, List.getElem?_eq_getElem hi]
      exact h0
    have hm0 : x.modes[0]? = some (modeAt x 0) := by rw [modeAt]; show _ = some ((x.modes[0]?).getD _); rw [List.getElem?_eq_getElem (by have := hio.modes; omega)]; rfl
    have hz : ∀ m ∈ x.modes, m.days * m.crew = 0 := fun m hm => by
      have := hio.mode m hm
      have : m.crew = 0 := by omega
      rw [this, Int.mul_zero]
    have : ∀ (l : List SMode), (∀ m ∈ l, m.days * m.crew = 0) → l.foldl workF 0 = 0 := by
      intro l
      induction l with
      | nil => intro _; rfl
      | cons m l ih =>
        intro hl
        rw [List.foldl_cons]
        have : workF 0 m = 0 := by unfold workF imin; rw [hl m (by simp)]; rfl
        rw [this]
        exact ih fun m hm => hl m (by simp [hm])
    rw [lwP, hz _ (List.mem_of_getElem? hm0)]
    exact this _ hz
  have : ∀ (l : List SItem), (∀ x ∈ l, x ∈ w.items) → l.foldl (sumT w t) 0 = 0 := by
    intro l
    induction l with
    | nil => intro _; rfl
    | cons x l ih =>
      intro hl
      rw [List.foldl_cons]
      have : sumT w t 0 x = 0 := by
        unfold sumT
        split
        · rw [hlw x (hl x (by simp)) ‹_›]; rfl
        · rfl
      rw [this]
      exact ih fun x hx => hl x (by simp [hx])
  exact this _ fun x hx => hx

def bestR (w : SWork) : PV := if workE w = 0 then .tup [.agg (eBound (bestB w)), I 0] else .tup [.agg (eBound ⟨0, [], []⟩), I (workE w)]
set_option maxRecDepth 20000 in
theorem bestBound_ret (w : SWork) (hw : Sane w) : Ret Try.prog .shared 27 [.agg (eWork w)] (bestR w) := by
  have h20 := checkWork_ret w hw
  by_cases hz : workE w = 0
  · have hv := well_of hz
    have ht6 := hv.t6
    have h77 := longest_ret w hw hv
    rw [hz] at h20
    rw [bestR, if_pos hz]
    have key : Ret Try.prog .shared 27 [.agg (eWork w)] (.tup [.agg (eBP (w.trades.foldl (bestFP w) (longBP w))), I 0]) := by
      refine Ret.of_pwp layOk mixed Go.Proofs.Try.func27 rfl (by decide) rfl rfl ?_
      repeat (refine stp rfl ?_ ?_;·repeat' constructor)
      apply qst;exact rfl;exact rfl;exact q_callP rfl (h20) rfl (by repeat' constructor) rfl rfl
      repeat (refine stp rfl ?_ ?_;·repeat' constructor)
      apply qst;exact rfl;exact rfl;exact q_call rfl (h77) rfl (by repeat' constructor) rfl
      repeat (refine stp rfl ?_ ?_;·repeat' constructor)
      refine pw_loop (fun (k : Nat) => k ≤ w.trades.length) (fun k => [(1, .ptr 1 1 0 0), (2, .ptr 2 1 0 0), (5, .ptr 5 1 0 0), (18, .sl (w.trades.map eTrade)), (19, I w.trades.length), (20, I k)])
        (fun k => [(1, 1, ⟨28, 9, [eWork w], 2⟩), (2, 1, ⟨60, 3, [[I 0, .nil, .str []]], 2⟩), (5, 1, ⟨60, 3, [eBP ((w.trades.take k).foldl (bestFP w) (longBP w))], 2⟩)]) (fun k => w.trades.length - k) 0 (Nat.zero_le _) ⟨rfl, rfl, rfl, rfl, ?_, rfl, rfl, rfl, rfl, trivial⟩ ?_
      · show I (w.trades.map eTrade).length = _
        rw [List.length_map]
      intro k s hk
      repeat (refine stp rfl ?_ ?_;·repeat' constructor)
      refine pw_cond rfl (fun h => ?_) (fun h => ?_)
      · have hlt : k < w.trades.length := by simpa using h
        clear h
        obtain ⟨t, ht⟩ := get_lt hlt
        have htm := List.mem_of_getElem? ht
        have h78 := tradeBound_ret w hv t (hv.trade t htm).1 (crew_zero hv htm)
        have hs : (w.trades.take (k + 1)).foldl (bestFP w) (longBP w) = bestFP w ((w.trades.take k).foldl (bestFP w) (longBP w)) t := by rw [take_snoc ht, List.foldl_append]; rfl
        generalize (w.trades.take k).foldl (bestFP w) (longBP w) = b at *
        obtain ⟨bd, bc, bt⟩ := b
        repeat (refine stp rfl ?_ ?_;·repeat' constructor)
        apply qst;exact rfl;exact rfl;exact q_idxm rfl rfl rfl rfl rfl (by omega) ht rfl
        repeat (refine stp rfl ?_ ?_;·repeat' constructor)
        apply qst;exact rfl;exact rfl;exact q_callP rfl (h78) rfl (by repeat' constructor) rfl rfl
        repeat (refine stp rfl ?_ ?_;·repeat' constructor)
        refine pw_cond rfl (fun h => ?_) (fun h => ?_)
        · have hc : bd < tradeB w t := of_decide_eq_true h
          clear h
          repeat (refine stp rfl ?_ ?_;·repeat' constructor)
          refine ⟨k + 1, hlt, by omega, rfl, rfl, rfl, rfl, rfl, i64_next (by omega) (by omega), rfl, rfl, ?_, trivial⟩
          rw [hs, bestFP, if_pos hc]; rfl
        · have hc : ¬ bd < tradeB w t := of_decide_eq_false h
          clear h
          repeat (refine stp rfl ?_ ?_;·repeat' constructor)
          refine ⟨k + 1, hlt, by omega, rfl, rfl, rfl, rfl, rfl, i64_next (by omega) (by omega), rfl, rfl, ?_, trivial⟩
          rw [hs, bestFP, if_neg hc]; rfl
      · have hge : k = w.trades.length := by have : ¬ k < w.trades.length := by simpa using h
                                             omega
        subst hge
        clear h
        rw [List.take_length]
        have hcp : ∃ bd bt, (w.trades.foldl (bestFP w) (longBP w) = (bd, .nil, bt)) ∨ ∃ l : List Str, w.trades.foldl (bestFP w) (longBP w) = (bd, .sl (l.map eS), bt) := by
          have : ∀ (l : List STrade) (c : Int × PV × Str), ((∃ bd bt, c = (bd, .nil, bt)) ∨ ∃ bd bt, ∃ q : List Str, c = (bd, .sl (q.map eS), bt)) → ((∃ bd bt, l.foldl (bestFP w) c = (bd, .nil, bt)) ∨ ∃ bd bt, ∃ q : List Str, l.foldl (bestFP w) c = (bd, .sl (q.map eS), bt)) := by
            intro l
            induction l with
            | nil => intro c h; exact h
            | cons t l ih =>
              intro c h
              rw [List.foldl_cons]
              refine ih _ ?_
              unfold bestFP
              split
              · exact .inl ⟨_, _, rfl⟩
              · exact h
          rcases this w.trades (longBP w) (.inr ⟨_, _, _, rfl⟩) with ⟨bd, bt, h⟩ | ⟨bd, bt, q, h⟩
          · exact ⟨bd, bt, .inl h⟩
          · exact ⟨bd, bt, .inr ⟨q, h⟩⟩
        obtain ⟨bd, bt, hb | ⟨q, hb⟩⟩ := hcp
        · rw [hb]
          repeat (refine stp rfl ?_ ?_;·repeat' constructor)
          exact endm rfl (by repeat' constructor) rfl (by repeat' constructor) rfl
        · rw [hb]
          repeat (refine stp rfl ?_ ?_;·repeat' constructor)
          exact endm rfl (by repeat' constructor) rfl (by repeat' constructor) rfl
    have := key.dnT 5
    have e := bestP_dn w w.trades (longB w) (longBP w) (by
      show [I (maxC w), dn 4 (.sl (((longC w).map (nmN w)).map eS)), .str []] = _
      rw [dn_texts]; rfl) rfl
    rw [show ([PV.agg (eBP (w.trades.foldl (bestFP w) (longBP w))), I 0].map (dn 5)) = [PV.agg ((eBP (w.trades.foldl (bestFP w) (longBP w))).map (dn 4)), I 0] from rfl, e] at this
    exact this
  · rw [bestR, if_neg hz]
    have key : Ret Try.prog .shared 27 [.agg (eWork w)] (.tup [.agg [I 0, .nil, .str []], I (workE w)]) := by
      generalize workE w = e at *
      refine Ret.of_pwp layOk mixed Go.Proofs.Try.func27 rfl (by decide) rfl rfl ?_
      repeat (refine stp rfl ?_ ?_;·repeat' constructor)
      apply qst;exact rfl;exact rfl;exact q_callP rfl (h20) rfl (by repeat' constructor) rfl rfl
      repeat (refine stp rfl ?_ ?_;·repeat' constructor)
      refine pw_cond rfl (fun h => ?_) (fun h => ?_)
      · repeat (refine stp rfl ?_ ?_;·repeat' constructor)
        exact endm rfl (by repeat' constructor) rfl (by repeat' constructor) rfl
      · exact absurd (by simpa using h) hz
    exact key.dnT 5
end Go.Pv

/- The check of a bound: the program's. -/
set_option maxHeartbeats 2000000
namespace Go.Pv
attribute [local irreducible] PWP POps PQuiet PSem XThen XBlock RetPost InlPost
open Go.Proofs

theorem unk_ret (w : SWork) (hw : w.items.length ≤ 1000000) (n : Str) : Ret Try.prog .shared 121 [.str n, .dref [.sl ((w.items.map (·.name)).map eS)] 0] (.bool (!(w.items.map (·.name)).any (· == n))) := by
  refine Ret.of_pwp layOk mixed Go.Proofs.Try.func121 rfl (by decide) rfl rfl ?_
  repeat (refine stp rfl ?_ ?_;·repeat' constructor)
  apply qst;exact rfl;exact rfl;exact q_callP rfl (contains_ret (w.items.map (·.name)) n (by simp; omega)) rfl (by repeat' constructor) rfl rfl
  repeat (refine stp rfl ?_ ?_;·repeat' constructor)
  exact end1b rfl rfl rfl
def itNm (w : SWork) (s : Str) : SItem := itP w (idx w.items (·.name == s))
def chUnk (w : SWork) (c : List Str) : Bool := c.any fun s => !(w.items.map (·.name)).any (· == s)
/-- Whether the item at 'k' does not wait for the one before it. -/
def chBad (w : SWork) (c : List Str) (k : Nat) : Bool := decide (0 < k) && !(itNm w (c.getD k [])).after.any (· == c.getD (k - 1) [])
def chSumF (w : SWork) (a : Int) (s : Str) : Int := a + leastP (itNm w s)
def chainBd (w : SWork) (c : List Str) : Int × Int := if chUnk w c = true then (0, 6) else if (List.range c.length).any (chBad w c) = true then (0, 24) else (c.foldl (chSumF w) 0, 0)
theorem it_known {w : SWork} {c : List Str} (h : chUnk w c = false) {s : Str} (hs : s ∈ c) : ∃ (i : Nat) (x : SItem), idx w.items (·.name == s) = i ∧ w.items[i]? = some x ∧ x.name = s ∧ itNm w s = x := by
  unfold chUnk at h
  rw [List.any_eq_false] at h
  have := h s hs
  simp only [Bool.not_eq_true', Bool.not_eq_false] at this
  rw [List.any_map] at this
  have h0 : 0 ≤ idx w.items (·.name == s) := by
    have e := idx_nonneg w.items (·.name == s)
    rw [show w.items.any (·.name == s) = true from this] at e
    exact of_decide_eq_true e
  obtain ⟨x, hx, hn⟩ := idx_lt h0
  refine ⟨(idx w.items (·.name == s)).toNat, x, (Int.toNat_of_nonneg h0).symm, hx, by simpa using hn, ?_⟩
  rw [itNm, ← Int.toNat_of_nonneg h0, itP_at hx]
theorem chSum_bound {w : SWork} (hv : Well w) {c : List Str} (hu : chUnk w c = false) (k : Nat) (hk : k ≤ c.length) : 0 ≤ (c.take k).foldl (chSumF w) 0 ∧ (c.take k).foldl (chSumF w) 0 ≤ 60 * k := by
  induction k with
  | zero => simp
  | succ k ih =>
    have ih := ih (by omega)
    obtain ⟨s, hs⟩ := get_lt (show k < c.length by omega)
    obtain ⟨i, x, _, hx, _, he⟩ := it_known hu (List.mem_of_getElem? hs)
    have hl := leastP_bound (hv.item x (List.mem_of_getElem? hx))
    rw [take_snoc hs, List.foldl_append]
    generalize List.foldl (chSumF w) 0 (c.take k) = n at ih ⊢
    show 0 ≤ n + leastP (itNm w s) ∧ n + leastP (itNm w s) ≤ _
    rw [he]
    omega
set_option maxRecDepth 20000 in
theorem chainBound_ret (w : SWork) (hw : Sane w) (hv : Well w) (c : List Str) (hc : c.length ≤ 10000) : Ret Try.prog .shared 79 [.agg (eWork w), .sl (c.map eS)] (.tup [I (chainBd w c).1, I (chainBd w c).2]) := by
  have hn := hw.items
  have hcont := containsF_ret c 121 [.sl ((w.items.map (·.name)).map eS)] (fun n => !(w.items.map (·.name)).any (· == n)) (by omega) (fun n _ => unk_ret w (by omega) n)
  have hcl : ((c.map eS).length : Int) = c.length := by simp
  unfold chainBd
  cases hu : chUnk w c with
  | true =>
    rw [show (c.any fun n => !(w.items.map (·.name)).any (· == n)) = true from hu] at hcont
    rw [if_pos rfl]
    refine Ret.of_pwp layOk mixed Go.Proofs.Try.func79 rfl (by decide) rfl rfl ?_
    repeat (refine stp rfl ?_ ?_;·repeat' constructor)
    apply qst;exact rfl;exact rfl;exact q_call rfl (itemNames_ret w (by omega)) rfl (by repeat' constructor) rfl
    repeat (refine stp rfl ?_ ?_;·repeat' constructor)
    apply qst;exact rfl;exact rfl;exact q_callP rfl (hcont) rfl (by repeat' constructor) rfl rfl
    repeat (refine stp rfl ?_ ?_;·repeat' constructor)
    exact end2 rfl rfl rfl rfl rfl trivial trivial rfl
  | false =>
    rw [show (c.any fun n => !(w.items.map (·.name)).any (· == n)) = false from hu] at hcont
    rw [if_neg (by simp)]
    refine Ret.of_pwp layOk mixed Go.Proofs.Try.func79 rfl (by decide) rfl rfl ?_
    repeat (refine stp rfl ?_ ?_;·repeat' constructor)
    apply qst;exact rfl;exact rfl;exact q_call rfl (itemNames_ret w (by omega)) rfl (by repeat' constructor) rfl
    repeat (refine stp rfl ?_ ?_;·repeat' constructor)
    apply qst;exact rfl;exact rfl;exact q_callP rfl (hcont) rfl (by repeat' constructor) rfl rfl
    repeat (refine stp rfl ?_ ?_;·repeat' constructor)
    refine pw_loop (fun k => Clear (List.range c.length) (chBad w c) k) (fun k => [(1, .sl (c.map eS)), (2, .ptr 2 1 0 0), (6, .ptr 6 1 0 0), (7, I ((c.take k).foldl (chSumF w) 0)), (18, .sl (c.map eS)), (19, I c.length), (20, I k)])
      (fun _ => [(2, 1, ⟨28, 9, [eWork w], 2⟩), (6, 1, ⟨44, 1, [[.sl ((w.items.map (·.name)).map eS)]], 2⟩)]) (fun k => c.length - k) 0 .zero ⟨rfl, rfl, rfl, rfl, rfl, ?_, rfl, rfl, rfl, trivial⟩ ?_
    · show I ((c.map eS).length) = _
      rw [List.length_map]
    intro k s1 hk
    repeat (refine stp rfl ?_ ?_;·repeat' constructor)
    refine pw_cond rfl (fun h => ?_) (fun h => ?_)
    · have hlt : k < c.length := by have := of_decide_eq_true h; omega
      clear h
      obtain ⟨s, hs⟩ := get_lt hlt
      obtain ⟨i, x, hix, hx, hxn, hit⟩ := it_known hu (List.mem_of_getElem? hs)
      have hio := hv.item x (List.mem_of_getElem? hx)
      have hax := hw.after x (List.mem_of_getElem? hx)
      have hb := chSum_bound hv hu (k + 1) hlt
      have hb0 := chSum_bound hv hu k (by omega)
      have hstep : (c.take (k + 1)).foldl (chSumF w) 0 = (c.take k).foldl (chSumF w) 0 + leastP x := by rw [take_snoc hs, List.foldl_append, ← hit]; rfl
      have hgk : c.getD k [] = s := by rw [List.getD_eq_getElem?_getD, hs]; rfl
      have hrk : (List.range c.length)[k]? = some k := List.getElem?_range hlt
      have h74 := index_ret (w.items.map (·.name)) s (by simp; omega)
      rw [idx_map, show idx w.items (fun a => a.name == s) = i from hix] at h74
      have hleast := least_ret x hio.modes.1 (by have := hio.modes; omega) (fun m hm => by have := hio.mode m hm; exact ⟨this.1, this.2.1⟩)
      rw [hstep] at hb
      generalize (c.take k).foldl (chSumF w) 0 = sum at *
      repeat (refine stp rfl ?_ ?_;·repeat' constructor)
      apply qst;exact rfl;exact rfl;exact q_idxm rfl rfl rfl rfl rfl (by omega) hs rfl
      repeat (refine stp rfl ?_ ?_;·repeat' constructor)
      refine pw_draw3 [10] [7, 8] (by decide +kernel) ?_
      repeat (refine stp rfl ?_ ?_;·repeat' constructor)
      apply qst;exact rfl;exact rfl;exact q_callP rfl (h74) rfl (by repeat' constructor) rfl rfl
      repeat (refine stp rfl ?_ ?_;·repeat' constructor)
      apply qst;exact rfl;exact rfl;exact q_idxm rfl rfl rfl rfl rfl (by omega) hx rfl
      repeat (refine stp rfl ?_ ?_;·repeat' constructor)
      refine pw_draw 13 [32, 33, 34, 35, 36, 37, 38, 39, 40, 41, 42, 43, 44] (by decide +kernel) ?_
      repeat (refine stp rfl ?_ ?_;·repeat' constructor)
      (first | refine ps_split rfl rfl (fun h => ?_) (fun h => ?_) | refine pq_split rfl rfl (fun h => ?_) (fun h => ?_) | refine p3_split rfl rfl (fun h => ?_) (fun h => ?_))
      · have hk0 : 0 < k := by have := of_decide_eq_true h; omega
        clear h
        obtain ⟨s', hs'⟩ := get_lt (show k - 1 < c.length by omega)
        have hgk' : c.getD (k - 1) [] = s' := by rw [List.getD_eq_getElem?_getD, hs']; rfl
        have hw1 : IntKind.i64.wrap ((k : Int) - 1) = (k - 1 : Nat) := by rw [wrap_i64 (by omega) (by omega)]; omega
        have h68 := contains_ret x.after s' (by omega)
        have hbad : chBad w c k = !x.after.any (· == s') := by rw [chBad, hgk, hgk', hit, decide_eq_true hk0, Bool.true_and]
        repeat (refine stp rfl ?_ ?_;·repeat' constructor)
        rw [hw1]
        apply qst;exact rfl;exact rfl;exact q_idxm (n := (((k - 1 : Nat) : Int) : Int)) rfl rfl rfl rfl rfl (by omega) hs' rfl
        repeat (refine stp rfl ?_ ?_;·repeat' constructor)
        cases ha : x.after.any (· == s') with
        | true =>
          rw [ha] at h68 hbad
          apply qst;exact rfl;exact rfl;exact q_callP rfl (h68) rfl (by repeat' constructor) rfl rfl
          repeat (refine stp rfl ?_ ?_;·repeat' constructor)
          apply qst;exact rfl;exact rfl;exact q_callP rfl (hleast) rfl (by repeat' constructor) rfl rfl
          repeat (refine stp rfl ?_ ?_;·repeat' constructor)
          refine ⟨k + 1, hk.succ hrk hbad, by omega, rfl, rfl, rfl, ?_, rfl, rfl, i64_next (by omega) (by omega), rfl, rfl, trivial⟩
          show PV.int .i64 (IntKind.i64.wrap (sum + leastP x)) = _
          rw [hstep, wrap_i64 (by omega) (by omega)]
        | false =>
          rw [ha] at h68 hbad
          have hany : (List.range c.length).any (chBad w c) = true := any_of hrk hbad
          rw [if_pos hany]
          apply qst;exact rfl;exact rfl;exact q_callP rfl (h68) rfl (by repeat' constructor) rfl rfl
          repeat (refine stp rfl ?_ ?_;·repeat' constructor)
          exact end2 rfl rfl rfl rfl rfl trivial trivial rfl
      · have hk0 : k = 0 := by have := of_decide_eq_false h; omega
        subst hk0
        clear h
        repeat (refine stp rfl ?_ ?_;·repeat' constructor)
        apply qst;exact rfl;exact rfl;exact q_callP rfl (hleast) rfl (by repeat' constructor) rfl rfl
        repeat (refine stp rfl ?_ ?_;·repeat' constructor)
        refine ⟨0 + 1, hk.succ hrk rfl, by omega, rfl, rfl, rfl, ?_, rfl, rfl, i64_next (by omega) (by omega), rfl, rfl, trivial⟩
        show PV.int .i64 (IntKind.i64.wrap (sum + leastP x)) = _
        rw [hstep, wrap_i64 (by omega) (by omega)]
    · have hge : k = c.length := by have := of_decide_eq_false h; have := hk.1; rw [List.length_range] at this; omega
      subst hge
      have hany := hk.any (by simp)
      rw [if_neg (by rw [hany]; simp), List.take_length]
      clear h
      repeat (refine stp rfl ?_ ?_;·repeat' constructor)
      exact end2 rfl rfl rfl rfl rfl trivial trivial rfl

def trAt (w : SWork) (s : Str) : STrade := w.trades.getD (idx w.trades (·.name == s)).toNat ⟨[], 0, 0⟩
/-- The bound that is proved, or an error. -/
def provedB (w : SWork) (b : SBound) : Int × Int := if b.trade = [] then chainBd w b.chain else if idx w.trades (·.name == b.trade) < 0 then (0, 6) else (tradeB w (trAt w b.trade), 0)
def checkB (w : SWork) (b : SBound) : Int := if workE w = 0 then (if (provedB w b).2 = 0 then (if (provedB w b).1 < b.days then 24 else 0) else (provedB w b).2) else workE w
set_option maxRecDepth 20000 in
theorem checkBound_ret (w : SWork) (hw : Sane w) (b : SBound) (hc : b.chain.length ≤ 10000) : Ret Try.prog .shared 28 [.agg (eWork w), .agg (eBound b)] (I (checkB w b)) := by
  have h20 := checkWork_ret w hw
  have htl := hw.trades
  by_cases hz : workE w = 0
  · have hv := well_of hz
    rw [hz] at h20
    rw [checkB, if_pos hz]
    by_cases ht : b.trade = []
    · have h79 := chainBound_ret w hw hv b.chain hc
      have hpb : provedB w b = chainBd w b.chain := by rw [provedB, if_pos ht]
      rw [hpb]
      generalize chainBd w b.chain = pb at *
      obtain ⟨n, e⟩ := pb
      refine Ret.of_pwp layOk mixed Go.Proofs.Try.func28 rfl (by decide) rfl rfl ?_
      repeat (refine stp rfl ?_ ?_;·repeat' constructor)
      apply qst;exact rfl;exact rfl;exact q_callP rfl (h20) rfl (by repeat' constructor) rfl rfl
      repeat (refine stp rfl ?_ ?_;·repeat' constructor)
      refine pw_cond rfl (fun h => ?_) (fun h => ?_)
      · simp [ht] at h
      clear h
      repeat (refine stp rfl ?_ ?_;·repeat' constructor)
      apply qst;exact rfl;exact rfl;exact q_callP rfl (h79) rfl (by repeat' constructor) rfl rfl
      repeat (refine stp rfl ?_ ?_;·repeat' constructor)
      refine pw_cond rfl (fun h => ?_) (fun h => ?_)
      · have he : ¬ e = 0 := by simpa using h
        clear h
        repeat (refine stp rfl ?_ ?_;·repeat' constructor)
        exact end1i rfl rfl (by rw [if_neg he])
      have he : e = 0 := by simpa using h
      clear h
      subst he
      repeat (refine stp rfl ?_ ?_;·repeat' constructor)
      refine pw_cond rfl (fun h => ?_) (fun h => ?_)
      · have hlt : n < b.days := of_decide_eq_true h
        repeat (refine stp rfl ?_ ?_;·repeat' constructor)
        exact end1i rfl rfl (by rw [if_pos rfl, if_pos hlt])
      · have hlt : ¬ n < b.days := of_decide_eq_false h
        repeat (refine stp rfl ?_ ?_;·repeat' constructor)
        exact end1i rfl rfl (by rw [if_pos rfl, if_neg hlt])
    · have h74 := index_ret (w.trades.map (·.name)) b.trade (by simp; omega)
      rw [idx_map, show idx w.trades (fun a => a.name == b.trade) = idx w.trades (·.name == b.trade) from rfl] at h74
      by_cases hneg : idx w.trades (·.name == b.trade) < 0
      · have hpb : provedB w b = (0, 6) := by rw [provedB, if_neg ht, if_pos hneg]
        rw [hpb]
        generalize idx w.trades (·.name == b.trade) = ix at *
        refine Ret.of_pwp layOk mixed Go.Proofs.Try.func28 rfl (by decide) rfl rfl ?_
        repeat (refine stp rfl ?_ ?_;·repeat' constructor)
        apply qst;exact rfl;exact rfl;exact q_callP rfl (h20) rfl (by repeat' constructor) rfl rfl
        repeat (refine stp rfl ?_ ?_;·repeat' constructor)
        refine pw_cond rfl (fun h => ?_) (fun h => ?_)
        · clear h
          repeat (refine stp rfl ?_ ?_;·repeat' constructor)
          refine pw_draw 6 [18, 19, 20, 21, 22, 7] (by decide +kernel) ?_
          repeat (refine stp rfl ?_ ?_;·repeat' constructor)
          apply qst;exact rfl;exact rfl;exact q_call rfl (tradeNames_ret w (by omega)) rfl (by repeat' constructor) rfl
          repeat (refine stp rfl ?_ ?_;·repeat' constructor)
          apply qst;exact rfl;exact rfl;exact q_callP rfl (h74) rfl (by repeat' constructor) rfl rfl
          repeat (refine stp rfl ?_ ?_;·repeat' constructor)
          refine pw_cond rfl (fun h => ?_) (fun h => ?_)
          · repeat (refine stp rfl ?_ ?_;·repeat' constructor)
            exact end1i rfl rfl rfl
          · exact absurd hneg (of_decide_eq_false h)
        · exact absurd (by simpa using h) ht
      · have hpb : provedB w b = (tradeB w (trAt w b.trade), 0) := by rw [provedB, if_neg ht, if_neg hneg]
        obtain ⟨tr, htr, _⟩ := idx_lt (Int.not_lt.1 hneg)
        have hta : trAt w b.trade = tr := by rw [trAt, List.getD_eq_getElem?_getD, htr]; rfl
        rw [hpb, hta]
        have htm := List.mem_of_getElem? htr
        have h78 := tradeBound_ret w hv tr (hv.trade tr htm).1 (crew_zero hv htm)
        generalize idx w.trades (·.name == b.trade) = ix at *
        generalize tradeB w tr = n at *
        refine Ret.of_pwp layOk mixed Go.Proofs.Try.func28 rfl (by decide) rfl rfl ?_
        repeat (refine stp rfl ?_ ?_;·repeat' constructor)
        apply qst;exact rfl;exact rfl;exact q_callP rfl (h20) rfl (by repeat' constructor) rfl rfl
        repeat (refine stp rfl ?_ ?_;·repeat' constructor)
        refine pw_cond rfl (fun h => ?_) (fun h => ?_)
        · clear h
          repeat (refine stp rfl ?_ ?_;·repeat' constructor)
          refine pw_draw 6 [18, 19, 20, 21, 22, 7] (by decide +kernel) ?_
          repeat (refine stp rfl ?_ ?_;·repeat' constructor)
          apply qst;exact rfl;exact rfl;exact q_call rfl (tradeNames_ret w (by omega)) rfl (by repeat' constructor) rfl
          repeat (refine stp rfl ?_ ?_;·repeat' constructor)
          apply qst;exact rfl;exact rfl;exact q_callP rfl (h74) rfl (by repeat' constructor) rfl rfl
          repeat (refine stp rfl ?_ ?_;·repeat' constructor)
          refine pw_cond rfl (fun h => ?_) (fun h => ?_)
          · exact absurd (of_decide_eq_true h) hneg
          clear h
          repeat (refine stp rfl ?_ ?_;·repeat' constructor)
          refine pw_draw 8 [25, 26, 27, 28, 29, 30, 31, 6] (by decide +kernel) ?_
          repeat (refine stp rfl ?_ ?_;·repeat' constructor)
          apply qst;exact rfl;exact rfl;exact q_idxm rfl rfl rfl rfl rfl (by omega) htr rfl
          repeat (refine stp rfl ?_ ?_;·repeat' constructor)
          apply qst;exact rfl;exact rfl;exact q_callP rfl (h78) rfl (by repeat' constructor) rfl rfl
          repeat (refine stp rfl ?_ ?_;·repeat' constructor)
          refine pw_cond rfl (fun h => ?_) (fun h => ?_)
          · have hlt : n < b.days := of_decide_eq_true h
            repeat (refine stp rfl ?_ ?_;·repeat' constructor)
            exact end1i rfl rfl (by rw [if_pos rfl, if_pos hlt])
          · have hlt : ¬ n < b.days := of_decide_eq_false h
            repeat (refine stp rfl ?_ ?_;·repeat' constructor)
            exact end1i rfl rfl (by rw [if_pos rfl, if_neg hlt])
        · exact absurd (by simpa using h) ht
  · rw [checkB, if_neg hz]
    generalize workE w = e at *
    refine Ret.of_pwp layOk mixed Go.Proofs.Try.func28 rfl (by decide) rfl rfl ?_
    repeat (refine stp rfl ?_ ?_;·repeat' constructor)
    apply qst;exact rfl;exact rfl;exact q_callP rfl (h20) rfl (by repeat' constructor) rfl rfl
    repeat (refine stp rfl ?_ ?_;·repeat' constructor)
    refine pw_cond rfl (fun h => ?_) (fun h => ?_)
    · repeat (refine stp rfl ?_ ?_;·repeat' constructor)
      exact end1i rfl rfl rfl
    · exact absurd (by simpa using h) hz
end Go.Pv

/- Bounds by the reference: least work, trades, the order of chains. -/
set_option maxHeartbeats 2000000
namespace Go.Pv
attribute [local irreducible] PWP POps PQuiet PSem XThen XBlock RetPost InlPost
open Go.Proofs

theorem workF_first (x : SItem) {m : SMode} (h : x.modes[0]? = some m) : (x.modes.take 1).foldl workF ((modeAt x 0).days * (modeAt x 0).crew) = (modeAt x 0).days * (modeAt x 0).crew := by
  have : modeAt x 0 = m := by rw [modeAt]; show (x.modes[0]?).getD _ = m; rw [h]; rfl
  rw [take_snoc h, this]
  show workF (m.days * m.crew) m = _
  unfold workF imin
  split <;> rfl
theorem leastWork_ref (x : SItem) (h1 : 1 ≤ x.modes.length) (h2 : x.modes.length ≤ 1000) (hm : ∀ m ∈ x.modes, (1 ≤ m.days ∧ m.days ≤ 60) ∧ 0 ≤ m.crew ∧ m.crew ≤ 1000) : Ret Try.prog .shared 122 [.agg (eItem x)] (I (lwP x)) := by
  have hm0 : x.modes[0]? = some (modeAt x 0) := by rw [modeAt]; show _ = some ((x.modes[0]?).getD _); rw [List.getElem?_eq_getElem (by omega)]; rfl
  have hml : (x.modes.map eMode).length = x.modes.length := by simp
  have hmm0 := hm _ (List.mem_of_getElem? hm0)
  have hb0 := mul_bound (A := 60) (B := 1000) (by omega) hmm0.1.2 hmm0.2.1 hmm0.2.2
  refine Ret.of_pwp layOk mixed Go.Proofs.Try.func122 rfl (by decide) rfl rfl ?_
  repeat (refine stp rfl ?_ ?_;·repeat' constructor)
  refine pw_draw 12 [5, 6, 7, 8, 9, 10, 11, 12, 13, 14, 15, 3] (by decide +kernel) ?_
  repeat (refine stp rfl ?_ ?_;·repeat' constructor)
  apply qst;exact rfl;exact rfl;exact q_idxm (n := (((0:Nat):Int) : Int)) rfl rfl rfl rfl rfl (by omega) hm0 rfl
  repeat (refine stp rfl ?_ ?_;·repeat' constructor)
  apply qst;exact rfl;exact rfl;exact q_idxm (n := (((0:Nat):Int) : Int)) rfl rfl rfl rfl rfl (by omega) hm0 rfl
  repeat (refine stp rfl ?_ ?_;·repeat' constructor)
  refine pw_loop (fun k => 1 ≤ k ∧ k ≤ x.modes.length) (fun k => [(1, .ptr 1 1 0 0), (3, I ((x.modes.take k).foldl workF ((modeAt x 0).days * (modeAt x 0).crew))), (4, I k)]) (fun _ => [(1, 1, ⟨57, 7, [eItem x], 2⟩)]) (fun k => x.modes.length - k) 1 ⟨Nat.le_refl _, h1⟩ ⟨rfl, ?_, rfl, rfl, trivial⟩ ?_
  · rw [workF_first x hm0]
    exact congrArg I (wrap_i64 (by omega) (by omega))
  rintro k s ⟨hk1, hk⟩
  repeat (refine stp rfl ?_ ?_;·repeat' constructor)
  refine pw_cond rfl (fun h => ?_) (fun h => ?_)
  · have hlt : k < x.modes.length := by have := of_decide_eq_true h; omega
    obtain ⟨m, hmk⟩ := get_lt hlt
    clear h
    have hmm := hm m (List.mem_of_getElem? hmk)
    have hb := mul_bound (A := 60) (B := 1000) (by omega) hmm.1.2 hmm.2.1 hmm.2.2
    repeat (refine stp rfl ?_ ?_;·repeat' constructor)
    refine pw_draw 15 [23, 24, 25, 26, 27, 28, 29, 30, 31, 32, 33, 34, 35, 36, 37] (by decide +kernel) ?_
    repeat (refine stp rfl ?_ ?_;·repeat' constructor)
    apply qst;exact rfl;exact rfl;exact q_idxm rfl rfl rfl rfl rfl (by omega) hmk rfl
    repeat (refine stp rfl ?_ ?_;·repeat' constructor)
    apply qst;exact rfl;exact rfl;exact q_idxm rfl rfl rfl rfl rfl (by omega) hmk rfl
    repeat (refine stp rfl ?_ ?_;·repeat' constructor)
    refine ⟨k + 1, ⟨by omega, hlt⟩, by omega, rfl, ?_, i64_next (by omega) (by omega), rfl, trivial⟩
    rw [take_snoc hmk, List.foldl_append]
    refine congrArg I ?_
    show (if IntKind.i64.wrap (m.days * m.crew) < _ then IntKind.i64.wrap (m.days * m.crew) else _) = workF _ m
    rw [wrap_i64 (by omega) (by omega)]; rfl
  · have hge : k = x.modes.length := by have := of_decide_eq_false h; omega
    subst hge
    rw [List.take_length]
    repeat (refine stp rfl ?_ ?_;·repeat' constructor)
    exact end1i rfl rfl rfl
theorem trade_ref (w : SWork) (hv : Well w) {i : Nat} {t : STrade} (ht : w.trades[i]? = some t) : Ret Try.prog .shared 82 [.agg (eWork w), I i] (I (tradeB w t)) := by
  have hn := hv.n40
  have htm := List.mem_of_getElem? ht
  have htc := (hv.trade t htm).1
  have hcz := crew_zero hv htm
  have hsb := sumK_bound hv t w.items.length (Nat.le_refl _)
  rw [List.take_length] at hsb
  replace hsb : 0 ≤ sumB w t ∧ sumB w t ≤ 60000 * w.items.length := hsb
  have hml : ((w.items.map eItem).length : Int) = w.items.length := by simp
  refine Ret.of_pwp layOk mixed Go.Proofs.Try.func82 rfl (by decide) rfl rfl ?_
  repeat (refine stp rfl ?_ ?_;·repeat' constructor)
  refine pw_loop (fun k => k ≤ w.items.length) (fun k => [(1, I i), (2, .ptr 2 1 0 0), (5, I ((w.items.take k).foldl (sumT w t) 0)), (6, I k)]) (fun _ => [(2, 1, ⟨28, 9, [eWork w], 2⟩)]) (fun k => w.items.length - k) 0 (Nat.zero_le _) ⟨rfl, rfl, rfl, rfl, rfl, trivial⟩ ?_
  intro k s hk
  repeat (refine stp rfl ?_ ?_;·repeat' constructor)
  refine pw_cond rfl (fun h => ?_) (fun h => ?_)
  · have hlt : k < w.items.length := by simpa using h
    obtain ⟨x, hx⟩ := get_lt hlt
    clear h
    have hio := hv.item x (List.mem_of_getElem? hx)
    have hb := sumK_bound hv t (k + 1) hlt
    have hs := take_snoc hx
    rw [hs, List.foldl_append] at hb
    replace hb : 0 ≤ sumT w t ((w.items.take k).foldl (sumT w t) 0) x ∧ sumT w t ((w.items.take k).foldl (sumT w t) 0) x ≤ _ := hb
    have hst : ∀ a, sumT w t a x = if x.trade = t.name then a + lwP x else a := fun a => rfl
    repeat (refine stp rfl ?_ ?_;·repeat' constructor)
    refine pw_draw 13 [14, 15, 16, 17, 18, 19, 20, 21, 22, 23, 24, 25, 26] (by decide +kernel) ?_
    repeat (refine stp rfl ?_ ?_;·repeat' constructor)
    apply qst;exact rfl;exact rfl;exact q_idxm rfl rfl rfl rfl rfl (by omega) hx rfl
    repeat (refine stp rfl ?_ ?_;·repeat' constructor)
    apply qst;exact rfl;exact rfl;exact q_idxm rfl rfl rfl rfl rfl (by omega) ht rfl
    repeat (refine stp rfl ?_ ?_;·repeat' constructor)
    refine pw_cond rfl (fun h => ?_) (fun h => ?_)
    · have he : x.trade = t.name := of_decide_eq_true h
      clear h
      rw [hst, if_pos he] at hb
      repeat (refine stp rfl ?_ ?_;·repeat' constructor)
      apply qst;exact rfl;exact rfl;exact q_idxm rfl rfl rfl rfl rfl (by omega) hx rfl
      repeat (refine stp rfl ?_ ?_;·repeat' constructor)
      apply qst;exact rfl;exact rfl;exact q_callP rfl (leastWork_ref x hio.modes.1 (by have := hio.modes; omega) (fun m hm => by have := hio.mode m hm; exact ⟨this.1, this.2.1⟩)) rfl (by repeat' constructor) rfl rfl
      repeat (refine stp rfl ?_ ?_;·repeat' constructor)
      refine ⟨k + 1, hlt, by omega, rfl, rfl, ?_, i64_next (by omega) (by omega), rfl, trivial⟩
      rw [hs, List.foldl_append]
      show PV.int .i64 (IntKind.i64.wrap ((w.items.take k).foldl (sumT w t) 0 + lwP x)) = I (sumT w t ((w.items.take k).foldl (sumT w t) 0) x)
      rw [wrap_i64 (by omega) (by omega), hst, if_pos he]
    · have he : ¬ x.trade = t.name := of_decide_eq_false h
      clear h
      repeat (refine stp rfl ?_ ?_;·repeat' constructor)
      refine ⟨k + 1, hlt, by omega, rfl, rfl, ?_, i64_next (by omega) (by omega), rfl, trivial⟩
      rw [hs, List.foldl_append]
      show _ = I (sumT w t ((w.items.take k).foldl (sumT w t) 0) x)
      rw [hst, if_neg he]; rfl
  · have hge : k = w.items.length := by have : ¬ k < w.items.length := by simpa using h
                                        omega
    subst hge
    rw [List.take_length]
    clear h
    repeat (refine stp rfl ?_ ?_;·repeat' constructor)
    refine pw_cond rfl (fun h => ?_) (fun h => ?_)
    · have hz : sumB w t = 0 := of_decide_eq_true h
      repeat (refine stp rfl ?_ ?_;·repeat' constructor)
      exact end1i rfl rfl (by rw [tradeB, if_pos hz])
    · have hz : ¬ sumB w t = 0 := of_decide_eq_false h
      have hc := hcz hz
      repeat (refine stp rfl ?_ ?_;·repeat' constructor)
      refine pw_draw 17 [37, 38, 39, 40, 41, 42, 43, 44, 45, 46, 47, 48, 49, 50, 51, 52, 4] (by decide +kernel) ?_
      repeat (refine stp rfl ?_ ?_;·repeat' constructor)
      apply qst;exact rfl;exact rfl;exact q_idxm rfl rfl rfl rfl rfl (by omega) ht rfl
      repeat (refine stp rfl ?_ ?_;·repeat' constructor)
      apply qst;exact rfl;exact rfl;exact q_idxm rfl rfl rfl rfl rfl (by omega) ht rfl
      repeat (refine stp rfl ?_ ?_;·repeat' constructor)
      refine zq rfl hc ?_
      repeat (refine stp rfl ?_ ?_;·repeat' constructor)
      refine end1i rfl rfl ?_
      rw [tradeB, if_neg hz]
      show PV.int .i64 (IntKind.i64.wrap ((IntKind.i64.wrap (IntKind.i64.wrap (sumB w t + t.crew) - 1)).tdiv t.crew)) = _
      rw [wrap_i64 (n := sumB w t + t.crew) (by omega) (by omega), wrap_i64 (n := sumB w t + t.crew - 1) (by omega) (by omega)]
      have h1 := Int.tdiv_nonneg (a := sumB w t + t.crew - 1) (b := t.crew) (by omega) htc.1
      have h2 : (sumB w t + t.crew - 1).tdiv t.crew ≤ sumB w t + t.crew - 1 := by
        rw [Int.tdiv_eq_ediv_of_nonneg (by omega)]
        exact Int.ediv_le_self _ (by omega)
      rw [wrap_i64 (by omega) (by omega)]

/-! ### The order of chains -/
def lx : List Nat → List Nat → Bool
  | [], [] => false
  | [], _ :: _ => true
  | _ :: _, [] => false
  | a :: r, b :: s => if a = b then lx r s else decide (a < b)
theorem lx_self : ∀ a : List Nat, lx a a = false
  | [] => rfl
  | a :: r => by rw [lx, if_pos rfl]; exact lx_self r
theorem lx_total : ∀ a b : List Nat, lx a b = false → lx b a = false → a = b
  | [], [], _, _ => rfl
  | [], _ :: _, h, _ => by cases h
  | _ :: _, [], _, h => by cases h
  | a :: r, b :: s, h1, h2 => by
    rw [lx] at h1 h2
    by_cases he : a = b
    · subst he
      rw [if_pos rfl] at h1 h2
      rw [lx_total r s h1 h2]
    · rw [if_neg he] at h1
      rw [if_neg (Ne.symm he)] at h2
      have := of_decide_eq_false h1
      have := of_decide_eq_false h2
      omega
theorem lx_diff : ∀ (a b : List Nat) (k : Nat), (∀ j, j < k → a[j]? = b[j]?) → ∀ x y, a[k]? = some x → b[k]? = some y → x ≠ y → lx a b = decide (x < y)
  | [], _, k, _, x, y, h1, _, _ => by simp at h1
  | _ :: _, [], k, _, x, y, _, h2, _ => by simp at h2
  | a :: r, b :: s, 0, _, x, y, h1, h2, hne => by
    simp at h1 h2
    subst h1; subst h2
    rw [lx, if_neg hne]
  | a :: r, b :: s, k + 1, h, x, y, h1, h2, hne => by
    have h0 := h 0 (by omega)
    simp at h0
    subst h0
    rw [lx, if_pos rfl]
    exact lx_diff r s k (fun j hj => by have := h (j + 1) (by omega); simpa using this) x y (by simpa using h1) (by simpa using h2) hne
theorem lx_pre : ∀ (a b : List Nat) (k : Nat), (∀ j, j < k → a[j]? = b[j]?) → (a.length ≤ k ∨ b.length ≤ k) → k ≤ a.length → k ≤ b.length → lx a b = decide (a.length < b.length)
  | [], [], _, _, _, _, _ => rfl
  | [], _ :: _, _, _, _, _, _ => by simp [lx]
  | _ :: _, [], _, _, _, _, _ => by simp [lx]
  | a :: r, b :: s, 0, _, h, _, _ => by simp at h
  | a :: r, b :: s, k + 1, h, h1, h2, h3 => by
    have h0 := h 0 (by omega)
    simp at h0
    subst h0
    rw [lx, if_pos rfl, lx_pre r s k (fun j hj => by have := h (j + 1) (by omega); simpa using this) (by simpa using h1) (by simpa using h2) (by simpa using h3)]
    simp
set_option maxRecDepth 20000 in
theorem before_ref (w : SWork) (hw : Sane w) (hv : Well w) (a b : List Nat) (ha : ∀ i ∈ a, i < w.items.length) (hb : ∀ i ∈ b, i < w.items.length) (hal : a.length ≤ 100000) (hbl : b.length ≤ 100000) :
    Ret Try.prog .shared 81 [.agg (eWork w), .sl ((a.map (nmN w)).map eS), .sl ((b.map (nmN w)).map eS)] (.bool (lx a b)) := by
  have hn := hw.items
  have hml : (((a.map (nmN w)).map eS).length : Int) = a.length := by simp
  have hml2 : (((b.map (nmN w)).map eS).length : Int) = b.length := by simp
  have h24 : ∀ i, i < w.items.length → Ret Try.prog .shared 24 [.agg (eWork w), .str (nmN w i)] (I i) := fun i hi => by
    obtain ⟨x, hx⟩ := get_lt hi
    have := itemOf_ret w (nmN w i) (by omega)
    rw [nmN, itP_at hx, hv.good.uniq i x hx] at this
    rw [nmN, itP_at hx]
    exact this
  refine Ret.of_pwp layOk mixed Go.Proofs.Try.func81 rfl (by decide) rfl rfl ?_
  repeat (refine stp rfl ?_ ?_;·repeat' constructor)
  refine pw_loop (fun k => (∀ j, j < k → a[j]? = b[j]?) ∧ k ≤ a.length ∧ k ≤ b.length) (fun k => [(1, .sl ((a.map (nmN w)).map eS)), (2, .sl ((b.map (nmN w)).map eS)), (3, .ptr 3 1 0 0), (7, I k)]) (fun _ => [(3, 1, ⟨28, 9, [eWork w], 2⟩)]) (fun k => a.length - k) 0 ⟨fun j hj => by omega, Nat.zero_le _, Nat.zero_le _⟩ ⟨rfl, rfl, rfl, rfl, rfl, trivial⟩ ?_
  rintro k s ⟨hpre, hka, hkb⟩
  repeat (refine stp rfl ?_ ?_;·repeat' constructor)
  (first | refine ps_split rfl rfl (fun h => ?_) (fun h => ?_) | refine pq_split rfl rfl (fun h => ?_) (fun h => ?_) | refine p3_split rfl rfl (fun h => ?_) (fun h => ?_))
  · have hlt : k < a.length := by have := of_decide_eq_true h; omega
    clear h
    repeat (refine stp rfl ?_ ?_;·repeat' constructor)
    refine pw_cond rfl (fun h => ?_) (fun h => ?_)
    · have hlt2 : k < b.length := by have := of_decide_eq_true h; omega
      clear h
      obtain ⟨x, hx⟩ := get_lt hlt
      obtain ⟨y, hy⟩ := get_lt hlt2
      have hxn : (a.map (nmN w))[k]? = some (nmN w x) := by rw [List.getElem?_map, hx]; rfl
      have hyn : (b.map (nmN w))[k]? = some (nmN w y) := by rw [List.getElem?_map, hy]; rfl
      repeat (refine stp rfl ?_ ?_;·repeat' constructor)
      refine pw_draw 14 [22, 23, 24, 25, 26, 27, 28, 29, 30, 31, 32, 33, 8, 9] (by decide +kernel) ?_
      repeat (refine stp rfl ?_ ?_;·repeat' constructor)
      apply qst;exact rfl;exact rfl;exact q_idxm rfl rfl rfl rfl rfl (by omega) hxn rfl
      repeat (refine stp rfl ?_ ?_;·repeat' constructor)
      apply qst;exact rfl;exact rfl;exact q_callP rfl (h24 x (ha x (List.mem_of_getElem? hx))) rfl (by repeat' constructor) rfl rfl
      repeat (refine stp rfl ?_ ?_;·repeat' constructor)
      apply qst;exact rfl;exact rfl;exact q_idxm rfl rfl rfl rfl rfl (by omega) hyn rfl
      repeat (refine stp rfl ?_ ?_;·repeat' constructor)
      apply qst;exact rfl;exact rfl;exact q_callP rfl (h24 y (hb y (List.mem_of_getElem? hy))) rfl (by repeat' constructor) rfl rfl
      repeat (refine stp rfl ?_ ?_;·repeat' constructor)
      refine pw_cond rfl (fun h => ?_) (fun h => ?_)
      · have hne : x ≠ y := by intro e; subst e; simp at h
        clear h
        repeat (refine stp rfl ?_ ?_;·repeat' constructor)
        refine end1b rfl rfl ?_
        rw [lx_diff a b k hpre x y hx hy hne]
        congr 1
        by_cases hc : x < y
        · rw [decide_eq_true hc, decide_eq_true (by omega)]
        · rw [decide_eq_false hc, decide_eq_false (by omega)]
      · have he : x = y := by
          have : (x : Int) = y := by simpa using h
          omega
        subst he
        clear h
        repeat (refine stp rfl ?_ ?_;·repeat' constructor)
        refine ⟨k + 1, ⟨fun j hj => ?_, hlt, hlt2⟩, by omega, rfl, rfl, rfl, i64_next (by omega) (by omega), rfl, trivial⟩
        rcases Nat.lt_or_ge j k with h1 | h1
        · exact hpre j h1
        · rw [show j = k by omega, hx, hy]
    · have hge : b.length ≤ k := by have := of_decide_eq_false h; omega
      clear h
      repeat (refine stp rfl ?_ ?_;·repeat' constructor)
      refine end1b rfl rfl ?_
      rw [lx_pre a b k hpre (.inr hge) hka hkb]
      congr 1
      by_cases hc : a.length < b.length
      · rw [decide_eq_true hc, decide_eq_true (by omega)]
      · rw [decide_eq_false hc, decide_eq_false (by omega)]
  · have hge : a.length ≤ k := by have := of_decide_eq_false h; omega
    clear h
    repeat (refine stp rfl ?_ ?_;·repeat' constructor)
    refine end1b rfl rfl ?_
    rw [lx_pre a b k hpre (.inl hge) hka hkb]
    congr 1
    by_cases hc : a.length < b.length
    · rw [decide_eq_true hc, decide_eq_true (by omega)]
    · rw [decide_eq_false hc, decide_eq_false (by omega)]
end Go.Pv

/- Chains: the longest one, the least in the reference's order, is the program's. -/
set_option maxHeartbeats 2000000
namespace Go.Pv
attribute [local irreducible] PWP POps PQuiet PSem XThen XBlock RetPost InlPost
open Go.Proofs

def Lk (w : SWork) : List Nat → Prop
  | [] => True
  | [a] => a < w.items.length
  | a :: b :: r => a < w.items.length ∧ (a : Int) ∈ rowN w b ∧ Lk w (b :: r)
def wtC (w : SWork) : List Nat → Int
  | [] => 0
  | a :: r => lst w a + wtC w r
theorem wt_append (w : SWork) : ∀ a b : List Nat, wtC w (a ++ b) = wtC w a + wtC w b
  | [], b => by show _ = 0 + _; rw [Int.zero_add]; rfl
  | x :: a, b => by
    rw [List.cons_append, wtC, wtC, wt_append w a b]
    omega
theorem Lk.head {w : SWork} : ∀ {a : Nat} {r : List Nat}, Lk w (a :: r) → a < w.items.length
  | _, [], h => h
  | _, _ :: _, h => h.1
theorem Lk.tail {w : SWork} : ∀ {a : Nat} {r : List Nat}, Lk w (a :: r) → Lk w r
  | _, [], _ => trivial
  | _, _ :: _, h => h.2.2
theorem Lk.all {w : SWork} : ∀ {c : List Nat}, Lk w c → ∀ i ∈ c, i < w.items.length
  | [], _, i, hi => by simp at hi
  | a :: r, h, i, hi => by
    rcases List.mem_cons.1 hi with rfl | hi
    · exact h.head
    · exact h.tail.all i hi
/-- A chain that ends at 'k'. -/
def VC (w : SWork) (c : List Nat) (k : Nat) : Prop := Lk w c ∧ c.getLast? = some k
theorem VC.one {w : SWork} {k : Nat} (hk : k < w.items.length) : VC w [k] k := ⟨hk, rfl⟩
theorem VC.snoc {w : SWork} : ∀ {c : List Nat} {j k : Nat}, VC w c j → k < w.items.length → (j : Int) ∈ rowN w k → VC w (c ++ [k]) k
  | [], j, k, h, _, _ => by simp [VC] at h
  | [a], j, k, h, hk, hj => by
    have : a = j := by simpa using h.2
    subst this
    exact ⟨⟨h.1, hj, hk⟩, rfl⟩
  | a :: b :: r, j, k, h, hk, hj => by
    have ih := VC.snoc (c := b :: r) (j := j) (k := k) ⟨h.1.2.2, by rw [← h.2]; rfl⟩ hk hj
    refine ⟨⟨h.1.1, h.1.2.1, ih.1⟩, ?_⟩
    rw [List.getLast?_append]; rfl
theorem VC.inv {w : SWork} : ∀ {c : List Nat} {k : Nat}, VC w c k → k < w.items.length ∧ ∃ p, c = p ++ [k] ∧ (p = [] ∨ ∃ j : Nat, (j : Int) ∈ rowN w k ∧ VC w p j)
  | [], k, h => by simp [VC] at h
  | [a], k, h => by
    have : a = k := by simpa using h.2
    subst this
    exact ⟨h.1, [], rfl, .inl rfl⟩
  | a :: b :: r, k, h => by
    obtain ⟨hk, p, hp, hc⟩ := VC.inv (c := b :: r) (k := k) ⟨h.1.2.2, by rw [← h.2]; rfl⟩
    refine ⟨hk, a :: p, by rw [hp]; rfl, .inr ?_⟩
    rcases hc with rfl | ⟨j, hj, hv⟩
    · have hb : b = k := by simpa using congrArg List.head? hp
      subst hb
      exact ⟨a, h.1.2.1, h.1.1, rfl⟩
    · refine ⟨j, hj, ?_, ?_⟩
      · cases p with
        | nil => simp [VC] at hv
        | cons b' p' =>
          have : b = b' := by simpa using congrArg List.head? hp
          subst this
          exact ⟨h.1.1, h.1.2.1, hv.1⟩
      · have := hv.2
        cases p with
        | nil => simp at this
        | cons b' p' => rw [← this]; rfl
theorem VC.has {w : SWork} {c : List Nat} (h : Lk w c) (hne : c ≠ []) : ∃ k, VC w c k := by
  cases hl : c.getLast? with
  | none => simp at hl; exact absurd hl hne
  | some k => exact ⟨k, h, hl⟩
theorem VC.ne {w : SWork} {c : List Nat} {k : Nat} (h : VC w c k) : c ≠ [] := by rintro rfl; simp [VC] at h
theorem wt_pos {w : SWork} (hv : Well w) : ∀ {c : List Nat}, Lk w c → 0 ≤ wtC w c ∧ (c ≠ [] → 1 ≤ wtC w c)
  | [], _ => ⟨Int.le_refl _, fun h => absurd rfl h⟩
  | a :: r, h => by
    have h1 := lst_pos hv h.head
    have h2 := (wt_pos hv h.tail).1
    rw [wtC]
    exact ⟨by omega, fun _ => by omega⟩
theorem wt_le {w : SWork} (hv : Well w) : ∀ {a : Nat} {r : List Nat}, Lk w (a :: r) → wtC w (a :: r) ≤ sumC w a
  | a, [], h => by
    have := (sum_spec hv h).ge
    rw [wtC, wtC]
    omega
  | a, b :: r, h => by
    have ih := wt_le hv h.2.2
    have := (sum_spec hv h.1).le b h.2.2.head h.2.1
    rw [wtC]
    omega
theorem sum_le_max {w : SWork} (hv : Well w) {a : Nat} (ha : a < w.items.length) : sumC w a ≤ maxC w := maxC_ge _ (List.mem_of_getElem? (sumC_get hv ha))
theorem wt_max {w : SWork} (hv : Well w) {c : List Nat} (h : Lk w c) : wtC w c ≤ maxC w := by
  cases c with
  | nil =>
    show 0 ≤ _
    rcases maxC_att (w := w) with h | h
    · omega
    · exact (chainS_len hv).2 _ h |>.1
  | cons a r => exact Int.le_trans (wt_le hv h) (sum_le_max hv h.head)
/-- With equal weights, what is joined behind does not matter. -/
theorem lx_snoc {w : SWork} (hv : Well w) (k : Nat) : ∀ a b : List Nat, Lk w a → Lk w b → wtC w a = wtC w b → lx (a ++ [k]) (b ++ [k]) = lx a b
  | [], [], _, _, _ => by simp [lx]
  | [], y :: b, _, hb, he => by
    have := (wt_pos hv hb).2 (by simp)
    have : wtC w [] = 0 := rfl
    omega
  | x :: a, [], ha, _, he => by
    have := (wt_pos hv ha).2 (by simp)
    have : wtC w [] = 0 := rfl
    omega
  | x :: a, y :: b, ha, hb, he => by
    show lx (x :: (a ++ [k])) (y :: (b ++ [k])) = _
    rw [lx, lx]
    by_cases hxy : x = y
    · subst hxy
      rw [if_pos rfl, if_pos rfl]
      exact lx_snoc hv k a b ha.tail hb.tail (by rw [wtC, wtC] at he; omega)
    · rw [if_neg hxy, if_neg hxy]
theorem chainFr_ok {w : SWork} (hv : Well w) : ∀ (f i : Nat), i < w.items.length → sumC w i ≤ f → Lk w (chainFr w f i) ∧ wtC w (chainFr w f i) = sumC w i ∧ ∃ r, chainFr w f i = i :: r
  | 0, i, hi, hf => by have := sumC_pos hv hi; omega
  | f + 1, i, hi, hf => by
    have hl := lst_pos hv hi
    have hge := (sum_spec hv hi).ge
    rw [chainFr]
    by_cases hn : nextC w i < 0
    · rw [if_pos hn]
      refine ⟨hi, ?_, _, rfl⟩
      rw [wtC, wtC]
      rcases Int.lt_or_le 0 (sumC w i - lst w i) with hp | hp
      · obtain ⟨j, hj, h1, h2⟩ := nextC_ex hv hi hp
        have := idx_nonneg (List.range w.items.length) fun k => decide (sumC w k = sumC w i - lst w i) && (rowN w k).any (· == (i : Int))
        rw [List.any_eq_true.2 ⟨j, List.mem_range.2 hj, by rw [decide_eq_true h1, Bool.true_and]; exact List.any_eq_true.2 ⟨_, h2, by simp⟩⟩] at this
        have := of_decide_eq_true this
        exact absurd hn (Int.not_lt.2 this)
      · omega
    · rw [if_neg hn]
      obtain ⟨g1, g2, g3⟩ := nextC_some (Int.not_lt.1 hn)
      obtain ⟨h1, h2, r, hr⟩ := chainFr_ok hv f (nextC w i).toNat g1 (by omega)
      refine ⟨?_, by rw [wtC, h2]; omega, _, rfl⟩
      rw [hr] at h1 ⊢
      exact ⟨hi, g3, h1⟩
theorem chainFr_lx {w : SWork} (hv : Well w) : ∀ (f : Nat) {a : Nat} {r : List Nat}, Lk w (a :: r) → wtC w (a :: r) = sumC w a → sumC w a ≤ f → lx (a :: r) (chainFr w f a) = false
  | 0, a, r, h, _, hf => by have := sumC_pos hv h.head; omega
  | f + 1, a, r, h, hw, hf => by
    have hl := lst_pos hv h.head
    rw [chainFr, lx, if_pos rfl]
    cases r with
    | nil =>
      rw [if_pos (by
        rw [nextC_none fun k hk he => by
          have := sumC_pos hv hk
          have : wtC w [a] = lst w a + 0 := rfl
          omega]
        omega)]
      rfl
    | cons b r =>
      have hb := h.2.2.head
      have e1 : wtC w (a :: b :: r) = lst w a + wtC w (b :: r) := rfl
      have e2 := wt_le hv h.2.2
      have e3 := (sum_spec hv h.1).le b hb h.2.1
      have e4 : sumC w b = sumC w a - lst w a := by omega
      rcases idx_cases (List.range w.items.length) (fun k => decide (sumC w k = sumC w a - lst w a) && (rowN w k).any (· == (a : Int))) with ⟨h1, h2⟩ | ⟨i, x, h1, h2, h3, h4⟩
      · have := h2 b b (List.getElem?_range hb)
        rw [decide_eq_true e4, Bool.true_and, List.any_eq_false] at this
        exact absurd (by simp) (this _ h.2.1)
      · have hi : i < w.items.length := by have := (List.getElem?_eq_some_iff.1 h2).1; simpa using this
        have hni : nextC w a = i := h1
        rw [hni, if_neg (by omega), Int.toNat_natCast]
        rcases Nat.lt_trichotomy i b with hlt | he | hlt
        · have hs := sumC_pos hv hi
          have h5 := nextC_some (w := w) (i := a) (by omega)
          rw [hni, Int.toNat_natCast] at h5
          obtain ⟨_, _, r', hr'⟩ := chainFr_ok hv f i hi (by omega)
          rw [hr', lx, if_neg (by omega)]
          exact decide_eq_false (by omega)
        · subst he
          exact chainFr_lx hv f h.2.2 (by omega) (by omega)
        · have := h4 b b hlt (List.getElem?_range hb)
          rw [decide_eq_true e4, Bool.true_and, List.any_eq_false] at this
          exact absurd (by simp) (this _ h.2.1)
structure LongSpec (w : SWork) (c : List Nat) : Prop where
  lk : Lk w c
  wt : wtC w c = maxC w
  min : ∀ c', Lk w c' → wtC w c' = maxC w → lx c' c = false
theorem longC_ok {w : SWork} (hv : Well w) : LongSpec w (longC w) := by
  have h0 : 0 ≤ maxC w := by
    rcases maxC_att (w := w) with h | h
    · omega
    · exact (chainS_len hv).2 _ h |>.1
  rw [longC]
  by_cases hz : maxC w ≤ 0
  · rw [if_pos hz]
    refine ⟨trivial, by show 0 = _; omega, fun c' hl hw => ?_⟩
    cases c' with
    | nil => rfl
    | cons a r => have := (wt_pos hv hl).2 (by simp); omega
  · rw [if_neg hz]
    obtain ⟨g1, g2, g3⟩ := firstC_at hv (by omega)
    obtain ⟨h1, h2, r, hr⟩ := chainFr_ok hv (maxC w).toNat (firstC w).toNat g2 (by omega)
    refine ⟨h1, by omega, fun c' hl hw => ?_⟩
    cases c' with
    | nil => have : wtC w [] = 0 := rfl; omega
    | cons a r' =>
      have e1 := wt_le hv hl
      have e2 := sum_le_max hv hl.head
      rcases idx_cases (chainS w) (· == maxC w) with ⟨i1, i2⟩ | ⟨i, x, i1, i2, i3, i4⟩
      · have := i2 a _ (sumC_get hv hl.head)
        have he : sumC w a = maxC w := by omega
        simp [he] at this
      · have hfi : firstC w = i := i1
        rcases Nat.lt_trichotomy i a with hlt | he | hlt
        · rw [hr, lx, if_neg (by omega)]
          exact decide_eq_false (by omega)
        · have : (firstC w).toNat = a := by omega
          rw [this]
          exact chainFr_lx hv _ hl (by omega) (by omega)
        · have := i4 a _ hlt (sumC_get hv hl.head)
          have he : sumC w a = maxC w := by omega
          simp [he] at this
theorem LongSpec.uniq {w : SWork} {a b : List Nat} (ha : LongSpec w a) (hb : LongSpec w b) : a = b := lx_total a b (hb.min a ha.lk ha.wt) (ha.min b hb.lk hb.wt)
theorem itNm_nm {w : SWork} (hv : Well w) {i : Nat} (hi : i < w.items.length) : itNm w (nmN w i) = itP w i ∧ idx w.items (·.name == nmN w i) = i := by
  obtain ⟨x, hx⟩ := get_lt hi
  have := hv.good.uniq i x hx
  rw [nmN, itP_at hx]
  rw [itNm, this, itP_at hx]
  exact ⟨rfl, rfl⟩
theorem wt_names {w : SWork} (hv : Well w) : ∀ (c : List Nat) (a : Int), (∀ i ∈ c, i < w.items.length) → (c.map (nmN w)).foldl (chSumF w) a = a + wtC w c
  | [], a, _ => by rw [wtC]; simp
  | i :: c, a, h => by
    rw [List.map_cons, List.foldl_cons, wt_names hv c _ (fun j hj => h j (by simp [hj])), chSumF, (itNm_nm hv (h i (by simp))).1, wtC, lst]
    omega
/-- A chain of indexes is proved by its days. -/
theorem chainBd_lk {w : SWork} (hv : Well w) {c : List Nat} (h : Lk w c) : chainBd w (c.map (nmN w)) = (wtC w c, 0) := by
  have hall := h.all
  have hu : chUnk w (c.map (nmN w)) = false := by
    unfold chUnk
    rw [List.any_eq_false]
    intro s hs
    obtain ⟨i, hi, rfl⟩ := List.mem_map.1 hs
    obtain ⟨x, hx⟩ := get_lt (hall i hi)
    have : (w.items.map (·.name)).any (· == nmN w i) = true := by
      rw [List.any_map, nmN, itP_at hx]
      exact List.any_eq_true.2 ⟨x, List.mem_of_getElem? hx, by simp⟩
    rw [this]; simp
  have hlink : ∀ (k : Nat) (a b : Nat), c[k]? = some a → c[k + 1]? = some b → (a : Int) ∈ rowN w b := by
    have : ∀ (c : List Nat), Lk w c → ∀ (k : Nat) (a b : Nat), c[k]? = some a → c[k + 1]? = some b → (a : Int) ∈ rowN w b := by
      intro c
      induction c with
      | nil => intro _ k a b h1; simp at h1
      | cons x c ih =>
        intro hl k a b h1 h2
        cases k with
        | zero =>
          cases c with
          | nil => simp at h2
          | cons y c =>
            simp at h1 h2
            subst h1; subst h2
            exact hl.2.1
        | succ k => exact ih hl.tail k a b (by simpa using h1) (by simpa using h2)
    exact this c h
  have hb : (List.range (c.map (nmN w)).length).any (chBad w (c.map (nmN w))) = false := by
    rw [List.any_eq_false]
    intro k hk
    rw [List.mem_range, List.length_map] at hk
    rw [chBad]
    by_cases h0 : 0 < k
    · obtain ⟨a, ha⟩ := get_lt (show k - 1 < c.length by omega)
      obtain ⟨b, hb⟩ := get_lt hk
      have hab := hlink (k - 1) a b ha (by rw [show k - 1 + 1 = k by omega]; exact hb)
      have hbl := hall b (List.mem_of_getElem? hb)
      obtain ⟨x, hx⟩ := get_lt (hall a (List.mem_of_getElem? ha))
      obtain ⟨y, hy⟩ := get_lt hbl
      have e1 : (c.map (nmN w)).getD k [] = nmN w b := by rw [List.getD_eq_getElem?_getD, List.getElem?_map, hb]; rfl
      have e2 : (c.map (nmN w)).getD (k - 1) [] = nmN w a := by rw [List.getD_eq_getElem?_getD, List.getElem?_map, ha]; rfl
      rw [e1, e2, (itNm_nm hv hbl).1, itP_at hy, nmN, itP_at hx, after_any hv hx (List.mem_of_getElem? hy)]
      rw [rowN_at hy] at hab
      rw [List.any_eq_true.2 ⟨_, hab, by simp⟩]
      simp
    · rw [decide_eq_false h0]; simp
  rw [chainBd, hu, if_neg (by simp), hb, if_neg (by simp), wt_names hv c 0 hall, Int.zero_add]
end Go.Pv

/- The reference's longest chain that ends with an item. -/
set_option maxHeartbeats 2000000
namespace Go.Pv
attribute [local irreducible] PWP POps PQuiet PSem XThen XBlock RetPost InlPost
open Go.Proofs

theorem lx_trans : ∀ a b c : List Nat, lx a b = true → lx b c = true → lx a c = true
  | [], [], _, h, _ => by cases h
  | [], _ :: _, [], _, h => by cases h
  | [], _ :: _, _ :: _, _, _ => rfl
  | _ :: _, [], _, h, _ => by cases h
  | _ :: _, _ :: _, [], _, h => by cases h
  | a :: r, b :: s, c :: t, h1, h2 => by
    rw [lx] at h1 h2 ⊢
    by_cases e1 : a = b
    · subst e1
      rw [if_pos rfl] at h1
      by_cases e2 : a = c
      · rw [if_pos e2] at h2 ⊢
        exact lx_trans r s t h1 h2
      · rw [if_neg e2] at h2 ⊢
        exact h2
    · rw [if_neg e1] at h1
      have := of_decide_eq_true h1
      by_cases e2 : b = c
      · rw [if_neg (by omega)]
        exact decide_eq_true (by omega)
      · rw [if_neg e2] at h2
        have := of_decide_eq_true h2
        rw [if_neg (by omega)]
        exact decide_eq_true (by omega)
/-- The first chain is at least as good as the second one. -/
def Geq (w : SWork) (a b : List Nat) : Prop := wtC w b ≤ wtC w a ∧ (wtC w b = wtC w a → lx b a = false)
def betB (w : SWork) (l b : List Nat) : Bool := decide (wtC w b < wtC w l) || (decide (wtC w l = wtC w b) && lx l b)
theorem betB_geq {w : SWork} {l b c : List Nat} (h : betB w l b = true) (hg : Geq w b c) : Geq w l c := by
  simp only [betB, Bool.or_eq_true, Bool.and_eq_true, decide_eq_true_eq] at h
  obtain ⟨h1, h2⟩ := hg
  refine ⟨by omega, fun he => ?_⟩
  rcases h with h | ⟨h, hl⟩
  · omega
  · cases hc : lx c l with
    | false => rfl
    | true => rw [lx_trans c l b hc hl] at h2; exact absurd (h2 (by omega)) (by simp)
theorem betB_not {w : SWork} {l b c : List Nat} (h : betB w l b = false) (hg : Geq w l c) : Geq w b c := by
  simp only [betB, Bool.or_eq_false_iff, Bool.and_eq_false_iff, decide_eq_false_iff_not] at h
  obtain ⟨h1, h2⟩ := hg
  obtain ⟨h3, h4⟩ := h
  refine ⟨by omega, fun he => ?_⟩
  have hlb : lx l b = false := h4.resolve_left (by omega)
  cases hc : lx c b with
  | false => rfl
  | true =>
    cases hb : lx b l with
    | false => rw [lx_total l b hlb hb] at h2; rw [h2 (by omega)] at hc; cases hc
    | true => rw [lx_trans c b l hc hb] at h2; exact absurd (h2 (by omega)) (by simp)
theorem Geq.refl (w : SWork) (a : List Nat) : Geq w a a := ⟨Int.le_refl _, fun _ => lx_self a⟩
structure BSpec (w : SWork) (k : Nat) (c : List Nat) : Prop where
  vc : VC w c k
  all : ∀ c', VC w c' k → Geq w c c'
structure BInv (w : SWork) (S : Nat → Prop) (j : Nat) (b : List Nat) : Prop where
  vc : b = [] ∨ ∃ i, S i ∧ VC w b i
  all : ∀ i, i < j → S i → ∀ c', VC w c' i → Geq w b c'
theorem BInv.start {w : SWork} {S : Nat → Prop} : BInv w S 0 [] := ⟨.inl rfl, fun i h => by omega⟩
theorem BInv.skip {w : SWork} {S : Nat → Prop} {j : Nat} {b : List Nat} (h : BInv w S j b) (hn : ¬ S j) : BInv w S (j + 1) b :=
  ⟨h.vc, fun i hi hs => h.all i (Nat.lt_of_not_le fun h1 => hn (by rwa [show j = i by omega])) hs⟩
theorem BInv.take {w : SWork} {S : Nat → Prop} {j : Nat} {b l : List Nat} (h : BInv w S j b) (hs : S j) (hl : BSpec w j l) (hb : betB w l b = true) : BInv w S (j + 1) l :=
  ⟨.inr ⟨j, hs, hl.vc⟩, fun i hi hsi c' hc => by
    rcases Nat.lt_or_ge i j with h1 | h1
    · exact betB_geq hb (h.all i h1 hsi c' hc)
    · have : i = j := by omega
      subst this
      exact hl.all c' hc⟩
theorem BInv.keep {w : SWork} {S : Nat → Prop} {j : Nat} {b l : List Nat} (h : BInv w S j b) (hl : BSpec w j l) (hb : betB w l b = false) : BInv w S (j + 1) b :=
  ⟨h.vc, fun i hi hsi c' hc => by
    rcases Nat.lt_or_ge i j with h1 | h1
    · exact h.all i h1 hsi c' hc
    · have : i = j := by omega
      subst this
      exact betB_not hb (hl.all c' hc)⟩
theorem BInv.lk {w : SWork} {S : Nat → Prop} {j : Nat} {b : List Nat} (h : BInv w S j b) : Lk w b := by
  rcases h.vc with rfl | ⟨i, _, h⟩
  · trivial
  · exact h.1
theorem row_lt {w : SWork} (hv : Well w) {k : Nat} (hk : k < w.items.length) {j : Nat} (hj : (j : Int) ∈ rowN w k) : j < w.items.length := by
  obtain ⟨x, hx⟩ := get_lt hk
  rw [rowN_at hx, aft] at hj
  obtain ⟨s, hs, he⟩ := List.mem_map.1 hj
  obtain ⟨i, y, hy, _, hidx⟩ := known_at hv.good (List.mem_of_getElem? hx) hs
  rw [hidx] at he
  have : i = j := by omega
  subst this
  exact (List.getElem?_eq_some_iff.1 hy).1
theorem BInv.done {w : SWork} (hv : Well w) {k : Nat} (hk : k < w.items.length) {b : List Nat} (h : BInv w (fun i => (i : Int) ∈ rowN w k) w.items.length b) : BSpec w k (b ++ [k]) := by
  have hlb := h.lk
  refine ⟨?_, fun c' hc' => ?_⟩
  · rcases h.vc with rfl | ⟨i, hi, hvc⟩
    · exact VC.one hk
    · exact hvc.snoc hk hi
  · obtain ⟨_, p, rfl, hp⟩ := hc'.inv
    have hg : Lk w p ∧ Geq w b p := by
      rcases hp with rfl | ⟨j, hj, hpj⟩
      · refine ⟨trivial, (wt_pos hv hlb).1, fun he => ?_⟩
        cases b with
        | nil => rfl
        | cons a r => have := (wt_pos hv hlb).2 (by simp); have : wtC w [] = 0 := rfl; omega
      · exact ⟨hpj.1, h.all j (row_lt hv hk hj) hj p hpj⟩
    obtain ⟨hlp, hg1, hg2⟩ := hg
    refine ⟨?_, fun he => ?_⟩
    · rw [wt_append, wt_append]; omega
    · rw [wt_append, wt_append] at he
      rw [lx_snoc hv k p b hlp hlb (by omega)]
      exact hg2 (by omega)
theorem len_le_wt {w : SWork} (hv : Well w) : ∀ {c : List Nat}, Lk w c → (c.length : Int) ≤ wtC w c
  | [], _ => Int.le_refl _
  | a :: r, h => by
    have h1 := lst_pos hv h.head
    have h2 := len_le_wt hv h.tail
    rw [wtC, List.length_cons]
    omega
theorem wt_2400 {w : SWork} (hv : Well w) {c : List Nat} (h : Lk w c) : wtC w c ≤ 2400 := by
  have := wt_max hv h
  rcases maxC_att (w := w) with h | h
  · omega
  · have := (chainS_len hv).2 _ h; omega

theorem BSpec.uniq {w : SWork} {k : Nat} {a b : List Nat} (ha : BSpec w k a) (hb : BSpec w k b) : a = b := by
  obtain ⟨h1, h2⟩ := ha.all b hb.vc
  obtain ⟨h3, h4⟩ := hb.all a ha.vc
  exact lx_total a b (h4 (by omega)) (h2 (by omega))
theorem spec_ex {w : SWork} (hv : Well w) : ∀ (p k : Nat), (ordS w)[p]? = some (k : Int) → ∃ c, BSpec w k c := by
  intro p
  induction p using Nat.strongRecOn with
  | ind p ih =>
  intro k hp
  obtain ⟨q, y, he, hy⟩ := (refOrd_eq hv.good).2 (k : Int) (List.mem_of_getElem? hp)
  have hk : k < w.items.length := by have := (List.getElem?_eq_some_iff.1 hy).1; omega
  have hl : ∀ j : Nat, (j : Int) ∈ rowN w k → ∃ c, BSpec w j c := fun j hj => by
    have hin := (topo_ord w).pre p _ hp j (by rw [Int.toNat_natCast]; exact hj)
    rw [List.mem_take_iff_getElem] at hin
    obtain ⟨q, hq, hqi⟩ := hin
    exact ih q (by omega) j (by rw [List.getElem?_eq_getElem (by omega)]; exact congrArg some hqi)
  have : ∀ n, ∃ b, BInv w (fun i => (i : Int) ∈ rowN w k) n b := by
    intro n
    induction n with
    | zero => exact ⟨[], .start⟩
    | succ n ihn =>
      obtain ⟨b, hb⟩ := ihn
      by_cases hr : (n : Int) ∈ rowN w k
      · obtain ⟨l, hl⟩ := hl n hr
        cases hc : betB w l b with
        | true => exact ⟨l, hb.take hr hl hc⟩
        | false => exact ⟨b, hb.keep hl hc⟩
      · exact ⟨b, hb.skip hr⟩
  obtain ⟨b, hb⟩ := this w.items.length
  exact ⟨_, hb.done hv hk⟩

theorem Ghost.nilsl {s : St} {t : Nat} (hr : s.reg t = .nil) : Ghost s (s.putR t (.sl [])) := by
  intro C a w hX ⟨γ, h⟩
  refine ⟨_, h.defers, h.size, fun r => ?_, h.sites, h.inj, h.base, h.below, h.top, h.kept⟩
  show Rep _ (bif Nat.beq r t then _ else s.reg r) _
  by_cases hrt : r = t
  · subst hrt
    have hv := h.regs r
    rw [hr] at hv
    rw [hv.nil_inv]
    simp only [Nat.beq_refl, cond_true]
    exact .d (.sl0 _ _)
  · rw [nbeq_ne hrt]; exact h.regs r
set_option maxRecDepth 20000 in
theorem chain_ref (w : SWork) (hw : Sane w) (hv : Well w) : ∀ (p k : Nat) (c : List Nat), (ordS w)[p]? = some (k : Int) → BSpec w k c → Ret Try.prog .shared 80 [.agg (eWork w), I k] (.tup [.sl ((c.map (nmN w)).map eS), I (wtC w c)]) := by
  intro p
  induction p using Nat.strongRecOn with
  | ind p ih =>
  intro k c hp hc
  have hn := hw.items
  have hn40 := hv.n40
  obtain ⟨q, x, he, hx⟩ := (refOrd_eq hv.good).2 (k : Int) (List.mem_of_getElem? hp)
  have : k = q := by omega
  subst this
  have hk := (List.getElem?_eq_some_iff.1 hx).1
  have hxm := List.mem_of_getElem? hx
  have hio := hv.item x hxm
  have hax := hw.after x hxm
  have hlb := leastP_bound hio
  have hml : ((w.items.map eItem).length : Int) = w.items.length := by simp
  have hl : ∀ j : Nat, (j : Int) ∈ rowN w k → ∃ l, BSpec w j l ∧ Ret Try.prog .shared 80 [.agg (eWork w), I j] (.tup [.sl ((l.map (nmN w)).map eS), I (wtC w l)]) := fun j hj => by
    have hin := (topo_ord w).pre p _ hp j (by rw [Int.toNat_natCast]; exact hj)
    rw [List.mem_take_iff_getElem] at hin
    obtain ⟨q, hq, hqi⟩ := hin
    have hqj : (ordS w)[q]? = some (j : Int) := by rw [List.getElem?_eq_getElem (by omega)]; exact congrArg some hqi
    obtain ⟨l, hl⟩ := spec_ex hv q j hqj
    exact ⟨l, hl, ih q (by omega) j l hqj hl⟩
  refine Ret.of_pwp layOk mixed Go.Proofs.Try.func80 rfl (by decide) rfl rfl ?_
  repeat (refine stp rfl ?_ ?_;·repeat' constructor)
  refine pw_ghost (Ghost.nilsl (t := 6) rfl) ?_
  refine pw_loop (fun q : Nat × List Nat => q.1 ≤ w.items.length ∧ BInv w (fun i => (i : Int) ∈ rowN w k) q.1 q.2) (fun q => [(1, I k), (2, .ptr 2 1 0 0), (6, .sl ((q.2.map (nmN w)).map eS)), (7, I (wtC w q.2)), (8, I q.1)]) (fun _ => [(2, 1, ⟨28, 9, [eWork w], 2⟩)]) (fun q => w.items.length - q.1) (0, []) ⟨Nat.zero_le _, .start⟩ ⟨rfl, rfl, rfl, rfl, rfl, rfl, trivial⟩ ?_
  rintro ⟨j, b⟩ s ⟨hj, hb⟩
  replace hj : j ≤ w.items.length := hj
  replace hb : BInv w (fun i => (i : Int) ∈ rowN w k) j b := hb
  have hblk := hb.lk
  have hbw := wt_2400 hv hblk
  have hbl := len_le_wt hv hblk
  repeat (refine stp rfl ?_ ?_;·repeat' constructor)
  refine pw_cond rfl (fun h => ?_) (fun h => ?_)
  · have hlt : j < w.items.length := by simpa using h
    clear h
    obtain ⟨y, hy⟩ := get_lt hlt
    have h73 := among_ret x.after y.name (by omega)
    have hany : x.after.any (· == y.name) = true ↔ (j : Int) ∈ rowN w k := by
      rw [after_any hv hy hxm, rowN_at hx, List.any_eq_true]
      exact ⟨fun ⟨z, hz, he⟩ => by have : z = (j : Int) := by simpa using he
                                   exact this ▸ hz, fun h => ⟨_, h, by simp⟩⟩
    cases hin : x.after.any (· == y.name) with
    | false =>
      rw [hin] at h73
      repeat (refine stp rfl ?_ ?_;·repeat' constructor)
      refine pw_draw 14 [18, 19, 20, 21, 22, 23, 24, 25, 26, 27, 28, 29, 30, 31] (by decide +kernel) ?_
      repeat (refine stp rfl ?_ ?_;·repeat' constructor)
      apply qst;exact rfl;exact rfl;exact q_idxm rfl rfl rfl rfl rfl (by omega) hx rfl
      repeat (refine stp rfl ?_ ?_;·repeat' constructor)
      apply qst;exact rfl;exact rfl;exact q_idxm rfl rfl rfl rfl rfl (by omega) hy rfl
      repeat (refine stp rfl ?_ ?_;·repeat' constructor)
      apply qst;exact rfl;exact rfl;exact q_callP rfl (h73) rfl (by repeat' constructor) rfl rfl
      repeat (refine stp rfl ?_ ?_;·repeat' constructor)
      refine ⟨(j + 1, b), ⟨hlt, hb.skip fun h => by rw [hany.2 h] at hin; cases hin⟩, by show w.items.length - (j + 1) < w.items.length - j; omega, rfl, rfl, rfl, rfl, i64_next (by omega) (by omega), rfl, trivial⟩
    | true =>
      rw [hin] at h73
      have hjr := hany.1 hin
      obtain ⟨l, hls, h80⟩ := hl j hjr
      have hllk := hls.vc.1
      have hlw := wt_2400 hv hllk
      have hll := len_le_wt hv hllk
      have h81 := before_ref w hw hv l b hllk.all hblk.all (by omega) (by omega)
      have htake := hb.take hjr hls
      have hkeep := hb.keep hls
      rw [betB] at htake hkeep
      generalize hnlw : wtC w l = nl at *
      have hnl : I nl = I (wtC w l) := by rw [hnlw]
      repeat (refine stp rfl ?_ ?_;·repeat' constructor)
      refine pw_draw 14 [18, 19, 20, 21, 22, 23, 24, 25, 26, 27, 28, 29, 30, 31] (by decide +kernel) ?_
      repeat (refine stp rfl ?_ ?_;·repeat' constructor)
      apply qst;exact rfl;exact rfl;exact q_idxm rfl rfl rfl rfl rfl (by omega) hx rfl
      repeat (refine stp rfl ?_ ?_;·repeat' constructor)
      apply qst;exact rfl;exact rfl;exact q_idxm rfl rfl rfl rfl rfl (by omega) hy rfl
      repeat (refine stp rfl ?_ ?_;·repeat' constructor)
      apply qst;exact rfl;exact rfl;exact q_callP rfl (h73) rfl (by repeat' constructor) rfl rfl
      repeat (refine stp rfl ?_ ?_;·repeat' constructor)
      apply qst;exact rfl;exact rfl;exact q_call rfl (h80) rfl (by repeat' constructor) rfl
      repeat (refine stp rfl ?_ ?_;·repeat' constructor)
      (first | refine ps_split rfl rfl (fun h => ?_) (fun h => ?_) | refine pq_split rfl rfl (fun h => ?_) (fun h => ?_) | refine p3_split rfl rfl (fun h => ?_) (fun h => ?_))
      · have hgt : wtC w b < nl := of_decide_eq_true h
        clear h
        repeat (refine stp rfl ?_ ?_;·repeat' constructor)
        refine ⟨(j + 1, l), ⟨hlt, htake (by rw [decide_eq_true hgt]; rfl)⟩, by show w.items.length - (j + 1) < w.items.length - j; omega, rfl, rfl, rfl, hnl, i64_next (by omega) (by omega), rfl, trivial⟩
      · have hgt : ¬ wtC w b < nl := of_decide_eq_false h
        clear h
        rw [decide_eq_false hgt, Bool.false_or] at htake hkeep
        repeat (refine stp rfl ?_ ?_;·repeat' constructor)
        (first | refine ps_split rfl rfl (fun h => ?_) (fun h => ?_) | refine pq_split rfl rfl (fun h => ?_) (fun h => ?_) | refine p3_split rfl rfl (fun h => ?_) (fun h => ?_))
        · have heq : nl = wtC w b := of_decide_eq_true h
          clear h
          rw [decide_eq_true heq, Bool.true_and] at htake hkeep
          cases hlx : lx l b with
          | true =>
            rw [hlx] at h81
            repeat (refine stp rfl ?_ ?_;·repeat' constructor)
            apply qst;exact rfl;exact rfl;exact q_callP rfl (h81) rfl (by repeat' constructor) rfl rfl
            repeat (refine stp rfl ?_ ?_;·repeat' constructor)
            refine ⟨(j + 1, l), ⟨hlt, htake hlx⟩, by show w.items.length - (j + 1) < w.items.length - j; omega, rfl, rfl, rfl, hnl, i64_next (by omega) (by omega), rfl, trivial⟩
          | false =>
            rw [hlx] at h81
            repeat (refine stp rfl ?_ ?_;·repeat' constructor)
            apply qst;exact rfl;exact rfl;exact q_callP rfl (h81) rfl (by repeat' constructor) rfl rfl
            repeat (refine stp rfl ?_ ?_;·repeat' constructor)
            refine ⟨(j + 1, b), ⟨hlt, hkeep hlx⟩, by show w.items.length - (j + 1) < w.items.length - j; omega, rfl, rfl, rfl, rfl, i64_next (by omega) (by omega), rfl, trivial⟩
        · have hne : ¬ nl = wtC w b := of_decide_eq_false h
          clear h
          rw [decide_eq_false hne, Bool.false_and] at hkeep
          repeat (refine stp rfl ?_ ?_;·repeat' constructor)
          refine ⟨(j + 1, b), ⟨hlt, hkeep rfl⟩, by show w.items.length - (j + 1) < w.items.length - j; omega, rfl, rfl, rfl, rfl, i64_next (by omega) (by omega), rfl, trivial⟩
  · have hge : j = w.items.length := by have : ¬ j < w.items.length := by simpa using h
                                        omega
    subst hge
    clear h
    have he := (hb.done hv hk).uniq hc
    have hnx : nmN w k = x.name := by rw [nmN, itP_at hx]
    have hlk : lst w k = leastP x := lst_at hx
    have hwt : wtC w c = wtC w b + leastP x := by rw [← he, wt_append, ← hlk]; show _ + (_ + 0) = _; omega
    have hcn : (c.map (nmN w)).map eS = (b.map (nmN w)).map eS ++ [eS x.name] := by rw [← he, List.map_append, List.map_append, ← hnx]; rfl
    rw [hcn, hwt]
    repeat (refine stp rfl ?_ ?_;·repeat' constructor)
    refine pw_draw3 [54] [0, 2, 10] (by decide +kernel) ?_
    repeat (refine stp rfl ?_ ?_;·repeat' constructor)
    refine z3e rfl rfl rfl (o_slit 0 rfl rfl rfl rfl rfl rfl rfl rfl rfl rfl rfl (by repeat' constructor) rfl ⟨offz rfl, ?_⟩)
    repeat (refine stp rfl ?_ ?_;·repeat' constructor)
    refine z3e rfl rfl rfl (o_app 1 rfl rfl rfl rfl rfl rfl rfl rfl rfl rfl rfl (by repeat' constructor) (by intro row hr; first | (simp at hr; subst hr; rfl) | (simp at hr; obtain ⟨_, _, rfl⟩ := hr; rfl) | simp at hr) rfl rfl (by simp; omega) (by simp; omega) ⟨offz rfl, ?_⟩)
    repeat (refine stp rfl ?_ ?_;·repeat' constructor)
    apply qst;exact rfl;exact rfl;exact q_idxm rfl rfl rfl rfl rfl (by omega) hx rfl
    repeat (refine stp rfl ?_ ?_;·repeat' constructor)
    apply qst;exact rfl;exact rfl;exact q_slit rfl rfl rfl rfl rfl rfl rfl rfl rfl rfl (by repeat' constructor) rfl
    repeat (refine stp rfl ?_ ?_;·repeat' constructor)
    refine z3e rfl rfl rfl (o_app 1 rfl rfl rfl rfl rfl rfl rfl rfl rfl rfl rfl (by repeat' constructor) (by intro row hr; first | (simp at hr; subst hr; rfl) | (simp at hr; obtain ⟨_, _, rfl⟩ := hr; rfl) | simp at hr) rfl rfl (by simp; omega) (by simp; omega) ⟨offz rfl, ?_⟩)
    repeat (refine stp rfl ?_ ?_;·repeat' constructor)
    apply qst;exact rfl;exact rfl;exact q_idxm rfl rfl rfl rfl rfl (by omega) hx rfl
    repeat (refine stp rfl ?_ ?_;·repeat' constructor)
    apply qst;exact rfl;exact rfl;exact q_callP rfl (least_ref x hio.modes.1 (by have := hio.modes; omega)) rfl (by repeat' constructor) rfl rfl
    repeat (refine stp rfl ?_ ?_;·repeat' constructor)
    refine endm rfl (by repeat' constructor) rfl (by repeat' constructor) ?_
    show PV.tup [.sl ([] ++ (b.map (nmN w)).map eS ++ [eS x.name]), PV.int .i64 (IntKind.i64.wrap (wtC w b + leastP x))] = _
    rw [wrap_i64 (by have := (wt_pos hv hblk).1; omega) (by omega), List.nil_append]
end Go.Pv

/- The reference's greatest bound. -/
set_option maxHeartbeats 2000000
namespace Go.Pv
attribute [local irreducible] PWP POps PQuiet PSem XThen XBlock RetPost InlPost
open Go.Proofs

theorem ord_at {w : SWork} (hv : Well w) {k : Nat} (hk : k < w.items.length) : ∃ p : Nat, (ordS w)[p]? = some (k : Int) := by
  obtain ⟨p, hp, he⟩ := List.getElem_of_mem (ord_all hv hk)
  exact ⟨p, by rw [List.getElem?_eq_getElem hp, he]⟩
theorem BInv.long {w : SWork} (hv : Well w) {b : List Nat} (h : BInv w (fun _ => True) w.items.length b) : b = longC w := by
  have hl := longC_ok hv
  have hlk := h.lk
  have h1 := wt_max hv hlk
  have h0 := wt_pos hv hlk
  have key : ∀ c', Lk w c' → c' ≠ [] → Geq w b c' := fun c' hc hne => by
    obtain ⟨k, hk⟩ := VC.has hc hne
    exact h.all k hk.inv.1 trivial c' hk
  have hw : wtC w b = maxC w := by
    have h2 := hl.wt
    by_cases hne : longC w = []
    · rw [hne] at h2
      have : wtC w [] = 0 := rfl
      omega
    · have := (key _ hl.lk hne).1
      omega
  refine LongSpec.uniq ⟨hlk, hw, fun c' hc he => ?_⟩ hl
  by_cases hne : c' = []
  · subst hne
    have : wtC w [] = 0 := rfl
    cases b with
    | nil => rfl
    | cons a r => have := h0.2 (by simp); omega
  · exact (key c' hc hne).2 (by omega)
def bestV (w : SWork) : List Nat → PV
  | [] => .nil
  | a :: r => .sl (((a :: r).map (nmN w)).map eS)
theorem bestV_ne (w : SWork) {l : List Nat} (h : l ≠ []) : bestV w l = .sl ((l.map (nmN w)).map eS) := by
  cases l with
  | nil => exact absurd rfl h
  | cons a r => rfl
theorem bestV_dn (w : SWork) (l : List Nat) : dn 4 (bestV w l) = .sl ((l.map (nmN w)).map eS) := by
  cases l with
  | nil => rfl
  | cons a r => exact dn_texts _
def longBQ (w : SWork) : Int × PV × Str := (maxC w, bestV w (longC w), [])
set_option maxRecDepth 20000 in
theorem bestBound_ref (w : SWork) (hw : Sane w) (hv : Well w) : Ret Try.prog .shared 30 [.agg (eWork w)] (.agg (eBound (bestB w))) := by
  have hn := hw.items
  have hn40 := hv.n40
  have ht6 := hv.t6
  have hml : ((w.items.map eItem).length : Int) = w.items.length := by simp
  have key : Ret Try.prog .shared 30 [.agg (eWork w)] (.agg (eBP (w.trades.foldl (bestFP w) (longBQ w)))) := by
    refine Ret.of_pwp layOk mixed Go.Proofs.Try.func30 rfl (by decide) rfl rfl ?_
    repeat (refine stp rfl ?_ ?_;·repeat' constructor)
    refine pw_loop (fun q : Nat × List Nat => q.1 ≤ w.items.length ∧ BInv w (fun _ => True) q.1 q.2) (fun q => [(1, .ptr 1 1 0 0), (2, .ptr 2 1 0 0), (3, .ptr 3 1 0 0), (4, I q.1)]) (fun q => [(1, 1, ⟨28, 9, [eWork w], 2⟩), (2, 1, ⟨60, 3, [[I 0, .nil, .str []]], 2⟩), (3, 1, ⟨60, 3, [[I (wtC w q.2), bestV w q.2, .str []]], 2⟩)]) (fun q => w.items.length - q.1) (0, []) ⟨Nat.zero_le _, .start⟩ ⟨rfl, rfl, rfl, rfl, rfl, rfl, rfl, trivial⟩ ?_
    rintro ⟨j, b⟩ s ⟨hj, hb⟩
    replace hj : j ≤ w.items.length := hj
    replace hb : BInv w (fun _ => True) j b := hb
    have hblk := hb.lk
    have hbw := wt_2400 hv hblk
    have hbl := len_le_wt hv hblk
    repeat (refine stp rfl ?_ ?_;·repeat' constructor)
    refine pw_cond rfl (fun h => ?_) (fun h => ?_)
    · have hlt : j < w.items.length := by simpa using h
      clear h
      obtain ⟨p, hp⟩ := ord_at hv hlt
      obtain ⟨l, hls⟩ := spec_ex hv p j hp
      have h80 := chain_ref w hw hv p j l hp hls
      have hllk := hls.vc.1
      have hlw := wt_2400 hv hllk
      have hll := len_le_wt hv hllk
      have hl1 := (wt_pos hv hllk).2 hls.vc.ne
      have h81 := before_ref w hw hv l b hllk.all hblk.all (by omega) (by omega)
      have htake := hb.take trivial hls
      have hkeep := hb.keep hls
      rw [betB] at htake hkeep
      have hnew : bestV w l = .sl ((l.map (nmN w)).map eS) := bestV_ne w hls.vc.ne
      generalize hnlw : wtC w l = nl at *
      have hrow : [[I nl, .sl ((l.map (nmN w)).map eS), .str []]] = [[I (wtC w l), bestV w l, .str []]] := by rw [hnlw, hnew]
      repeat (refine stp rfl ?_ ?_;·repeat' constructor)
      apply qst;exact rfl;exact rfl;exact q_call rfl (h80) rfl (by repeat' constructor) rfl
      repeat (refine stp rfl ?_ ?_;·repeat' constructor)
      (first | refine ps_split rfl rfl (fun h => ?_) (fun h => ?_) | refine pq_split rfl rfl (fun h => ?_) (fun h => ?_) | refine p3_split rfl rfl (fun h => ?_) (fun h => ?_))
      · have hgt : wtC w b < nl := of_decide_eq_true h
        clear h
        repeat (refine stp rfl ?_ ?_;·repeat' constructor)
        exact ⟨(j + 1, l), ⟨hlt, htake (by rw [decide_eq_true hgt]; rfl)⟩, by show w.items.length - (j + 1) < w.items.length - j; omega, rfl, rfl, rfl, i64_next (by omega) (by omega), rfl, rfl, congrArg (fun r => (1, some (Cont.mk 60 3 r 2))) hrow, trivial⟩
      · have hgt : ¬ wtC w b < nl := of_decide_eq_false h
        clear h
        rw [decide_eq_false hgt, Bool.false_or] at htake hkeep
        repeat (refine stp rfl ?_ ?_;·repeat' constructor)
        (first | refine ps_split rfl rfl (fun h => ?_) (fun h => ?_) | refine pq_split rfl rfl (fun h => ?_) (fun h => ?_) | refine p3_split rfl rfl (fun h => ?_) (fun h => ?_))
        · have heq : nl = wtC w b := of_decide_eq_true h
          clear h
          rw [decide_eq_true heq, Bool.true_and] at htake hkeep
          cases b with
          | nil => have : wtC w [] = 0 := rfl; omega
          | cons a r =>
          cases hlx : lx l (a :: r) with
          | true =>
            rw [hlx] at h81
            repeat (refine stp rfl ?_ ?_;·repeat' constructor)
            apply qst;exact rfl;exact rfl;exact q_callP rfl (h81) rfl (by repeat' constructor) rfl rfl
            repeat (refine stp rfl ?_ ?_;·repeat' constructor)
            exact ⟨(j + 1, l), ⟨hlt, htake hlx⟩, by show w.items.length - (j + 1) < w.items.length - j; omega, rfl, rfl, rfl, i64_next (by omega) (by omega), rfl, rfl, congrArg (fun r => (1, some (Cont.mk 60 3 r 2))) hrow, trivial⟩
          | false =>
            rw [hlx] at h81
            repeat (refine stp rfl ?_ ?_;·repeat' constructor)
            apply qst;exact rfl;exact rfl;exact q_callP rfl (h81) rfl (by repeat' constructor) rfl rfl
            repeat (refine stp rfl ?_ ?_;·repeat' constructor)
            exact ⟨(j + 1, a :: r), ⟨hlt, hkeep hlx⟩, by show w.items.length - (j + 1) < w.items.length - j; omega, rfl, rfl, rfl, i64_next (by omega) (by omega), rfl, rfl, rfl, trivial⟩
        · have hne : ¬ nl = wtC w b := of_decide_eq_false h
          clear h
          rw [decide_eq_false hne, Bool.false_and] at hkeep
          repeat (refine stp rfl ?_ ?_;·repeat' constructor)
          exact ⟨(j + 1, b), ⟨hlt, hkeep rfl⟩, by show w.items.length - (j + 1) < w.items.length - j; omega, rfl, rfl, rfl, i64_next (by omega) (by omega), rfl, rfl, rfl, trivial⟩
    · have hge : j = w.items.length := by have : ¬ j < w.items.length := by simpa using h
                                          omega
      subst hge
      clear h
      have hbe := hb.long hv
      have hbm : wtC w b = maxC w := by rw [hbe]; exact (longC_ok hv).wt
      rw [hbm, hbe]
      have htl : ((w.trades.map eTrade).length : Int) = w.trades.length := by simp
      repeat (refine stp rfl ?_ ?_;·repeat' constructor)
      refine pw_loop (fun k => k ≤ w.trades.length) (fun k => [(1, .ptr 1 1 0 0), (2, .ptr 2 1 0 0), (3, .ptr 3 1 0 0), (7, I k)]) (fun k => [(1, 1, ⟨28, 9, [eWork w], 2⟩), (2, 1, ⟨60, 3, [[I 0, .nil, .str []]], 2⟩), (3, 1, ⟨60, 3, [eBP ((w.trades.take k).foldl (bestFP w) (longBQ w))], 2⟩)]) (fun k => w.trades.length - k) 0 (Nat.zero_le _) ⟨rfl, rfl, rfl, rfl, rfl, rfl, rfl, trivial⟩ ?_
      intro k s hk
      repeat (refine stp rfl ?_ ?_;·repeat' constructor)
      refine pw_cond rfl (fun h => ?_) (fun h => ?_)
      · have hlt : k < w.trades.length := by simpa using h
        clear h
        obtain ⟨t, ht⟩ := get_lt hlt
        have h82 := trade_ref w hv ht
        have hs : (w.trades.take (k + 1)).foldl (bestFP w) (longBQ w) = bestFP w ((w.trades.take k).foldl (bestFP w) (longBQ w)) t := by rw [take_snoc ht, List.foldl_append]; rfl
        generalize (w.trades.take k).foldl (bestFP w) (longBQ w) = b at *
        obtain ⟨bd, bc, bt⟩ := b
        repeat (refine stp rfl ?_ ?_;·repeat' constructor)
        apply qst;exact rfl;exact rfl;exact q_callP rfl (h82) rfl (by repeat' constructor) rfl rfl
        repeat (refine stp rfl ?_ ?_;·repeat' constructor)
        refine pw_cond rfl (fun h => ?_) (fun h => ?_)
        · have hc : bd < tradeB w t := of_decide_eq_true h
          clear h
          repeat (refine stp rfl ?_ ?_;·repeat' constructor)
          apply qst;exact rfl;exact rfl;exact q_idxm rfl rfl rfl rfl rfl (by omega) ht rfl
          repeat (refine stp rfl ?_ ?_;·repeat' constructor)
          refine ⟨k + 1, hlt, by omega, rfl, rfl, rfl, i64_next (by omega) (by omega), rfl, rfl, ?_, trivial⟩
          rw [hs, bestFP, if_pos hc]; rfl
        · have hc : ¬ bd < tradeB w t := of_decide_eq_false h
          clear h
          repeat (refine stp rfl ?_ ?_;·repeat' constructor)
          refine ⟨k + 1, hlt, by omega, rfl, rfl, rfl, i64_next (by omega) (by omega), rfl, rfl, ?_, trivial⟩
          rw [hs, bestFP, if_neg hc]; rfl
      · have hge : k = w.trades.length := by have : ¬ k < w.trades.length := by simpa using h
                                             omega
        subst hge
        clear h
        rw [List.take_length]
        have hcp : ∃ bd bt, (w.trades.foldl (bestFP w) (longBQ w) = (bd, .nil, bt)) ∨ ∃ l : List Str, w.trades.foldl (bestFP w) (longBQ w) = (bd, .sl (l.map eS), bt) := by
          have : ∀ (l : List STrade) (c : Int × PV × Str), (∃ bd bt, c = (bd, .nil, bt) ∨ ∃ q : List Str, c = (bd, .sl (q.map eS), bt)) → ∃ bd bt, l.foldl (bestFP w) c = (bd, .nil, bt) ∨ ∃ q : List Str, l.foldl (bestFP w) c = (bd, .sl (q.map eS), bt) := by
            intro l
            induction l with
            | nil => intro c h; exact h
            | cons t l ih =>
              intro c h
              rw [List.foldl_cons]
              refine ih _ ?_
              unfold bestFP
              split
              · exact ⟨_, _, .inl rfl⟩
              · exact h
          refine this w.trades (longBQ w) ⟨maxC w, [], ?_⟩
          rw [longBQ]
          cases longC w with
          | nil => exact .inl rfl
          | cons a r => exact .inr ⟨_, rfl⟩
        obtain ⟨bd, bt, hb | ⟨q, hb⟩⟩ := hcp
        · rw [hb]
          repeat (refine stp rfl ?_ ?_;·repeat' constructor)
          exact endc rfl rfl (by repeat' constructor) rfl (by repeat' constructor) rfl
        · rw [hb]
          repeat (refine stp rfl ?_ ?_;·repeat' constructor)
          exact endc rfl rfl (by repeat' constructor) rfl (by repeat' constructor) rfl
  have := key.dn 5
  have e := bestP_dn w w.trades (longB w) (longBQ w) (by
    show [I (maxC w), dn 4 (bestV w (longC w)), .str []] = _
    rw [bestV_dn]; rfl) rfl
  rw [show dn 5 (PV.agg (eBP (w.trades.foldl (bestFP w) (longBQ w)))) = PV.agg ((eBP (w.trades.foldl (bestFP w) (longBQ w))).map (dn 4)) from rfl, e] at this
  exact this
end Go.Pv
