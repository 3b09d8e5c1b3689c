/- Texts of one hand, gathered: GzJ, GzL, SeE, GzM, SeK. -/
import Derived.Test.YtfnjhhndbgidmaaGreatLi5
/- The reference's rule. -/
set_option maxHeartbeats 2000000
namespace Go.Pv
attribute [local irreducible] PWP POps PQuiet PSem XThen XBlock RetPost InlPost
open Go.Proofs

def freeB (w : SWork) (l : List SPl) (i : Nat) (p : SPl) : Bool := decide ((breachQ w (onQ w (l.set i p))).length = 0)
def refC (w : SWork) (x : SItem) (m : Int) : Nat := (w.last - (modeAt x m).days).toNat + 1
def refI (w : SWork) (l : List SPl) (i : Nat) (x : SItem) (m : Int) : Int := idx (List.range (refC w x m)) fun d => freeB w l i ⟨m, (d : Nat), true⟩
def rserF (w : SWork) (m : List Int) (acc : Option (List SPl)) (i : Int) : Option (List SPl) := match acc with
  | none => none
  | some l => if refI w l i.toNat (itP w i) (m.getD i.toNat 0) < 0 then none else some (l.set i.toNat ⟨m.getD i.toNat 0, refI w l i.toNat (itP w i) (m.getD i.toNat 0), true⟩)
def rserK (w : SWork) (o : List Str) (m : List Int) (k : Nat) : Option (List SPl) := ((ixs w o).take k).foldl (rserF w m) (some (List.replicate w.items.length ⟨0, 0, false⟩))
def rlistsR (w : SWork) (o : List Str) (m : List Int) : PV := match rserK w o m o.length with
  | some l => .tup [.sl ((qS (onQ w l)).map eSlot), .bool true]
  | none => .tup [.nil, .bool false]
theorem ord_new {w : SWork} {o : List Str} (h : fstE o (ordF w o) = 0) {k q : Nat} (hk : (ixs w o)[k]? = some (q : Int)) : (q : Int) ∉ (ixs w o).take k := by
  intro hm
  have hkl := (List.getElem?_eq_some_iff.1 hk).1
  rw [ixs, List.length_map] at hkl
  obtain ⟨nm, hnm⟩ := get_lt hkl
  rw [ixs, List.getElem?_map, hnm] at hk
  have hk : idx w.items (·.name == nm) = (q : Int) := Option.some.inj hk
  have hord := fstE_zero h k nm hnm
  unfold ordF at hord
  rw [if_neg (by omega)] at hord
  have hkn : ∀ s ∈ o.take k, 0 ≤ idx w.items (·.name == s) := ord_known (i := k) ⟨by omega, fun j b _ hb => fstE_zero h j b hb⟩
  have hany := ixs_any hkn (a := nm) (by omega)
  have : (ixs w (o.take k)).any (· == idx w.items (·.name == nm)) = true := by
    rw [List.any_eq_true]
    exact ⟨(q : Int), by rw [ixs, List.map_take]; exact hm, by rw [hk]; simp⟩
  rw [this] at hany
  rw [← hany, if_pos rfl] at hord
  omega
theorem rser_none {w : SWork} {o : List Str} {m : List Int} {k : Nat} (h : rserK w o m k = none) (hk : k ≤ o.length) : rserK w o m o.length = none := by
  have hn : ∀ l : List Int, l.foldl (rserF w m) none = none := by
    intro l
    induction l with
    | nil => rfl
    | cons a l ih => rw [List.foldl_cons]; exact ih
  have hl : (ixs w o).length = o.length := by simp [ixs]
  unfold rserK at h ⊢
  rw [← hl, List.take_length, ← List.take_append_drop k (ixs w o), List.foldl_append, h]
  exact hn _
set_option maxRecDepth 20000 in
theorem lists_ref (w : SWork) (hw : Sane w) (hz : workE w = 0) (o : List Str) (m : List Int) (ho : o.length ≤ 1000) (hl : listsE w o m = 0) : Ret Tryz.prog .shared 22 [.agg (eWork w), .sl (o.map eS), .sl (m.map eI)] (rlistsR w o m) := by
  have hv := well_of hz
  have hn := hv.n40
  have hol : ((o.map eS).length : Int) = o.length := by simp
  have hlen : o.length = w.items.length ∧ m.length = w.items.length := by
    rw [listsE] at hl
    by_cases hc : o.length = w.items.length ∧ m.length = w.items.length
    · exact hc
    · rw [if_neg hc] at hl; omega
  rw [listsE, if_pos hlen] at hl
  have hz1 : fstE o (ordF w o) = 0 := by
    by_cases h : fstE o (ordF w o) = 0
    · exact h
    · rw [if_neg h] at hl; exact absurd hl h
  rw [if_pos hz1] at hl
  have ho1 := fstE_zero hz1
  have ho2 := fstE_zero hl
  refine Ret.of_pwp layOk mixed Go.Proofs.Tryz.func22 rfl (by decide) rfl rfl ?_
  repeat (refine stp rfl ?_ ?_;·repeat' constructor)
  refine pw_ghost (Ghost.nilreg (k := 8) (t := 8) 59 3 0 rfl rfl) ?_
  refine pw_loop (fun q : Nat × List SPl × List SSlot => q.1 ≤ o.length ∧ rserK w o m q.1 = some q.2.1 ∧ Plan w q.2.1 ∧ Rel w q.2.2 q.2.1 ∧ q.2.2.length = q.1 ∧ (∀ (n : Nat) p, q.2.1[n]? = some p → p.on = true → (n : Int) ∈ (ixs w o).take q.1))
    (fun q => [(1, .sl (o.map eS)), (2, .sl (m.map eI)), (3, .ptr 3 1 0 0), (8, .als 8 (1 + q.2.2.length) 0 (q.2.2.map eSlot).length), (9, I q.1)])
    (fun q => [(3, 1, ⟨28, 9, [eWork w], 2⟩), (8, 1 + q.2.2.length, ⟨59, 3, q.2.2.map eSlot, 0⟩)])
    (fun q => o.length - q.1) (0, List.replicate w.items.length ⟨0, 0, false⟩, []) ⟨Nat.zero_le _, rfl, plan_free w, .start w, rfl, fun n p hp hon => by
      rw [List.getElem?_replicate] at hp
      split at hp
      · have := Option.some.inj hp
        subst this
        cases hon
      · cases hp⟩ ⟨rfl, rfl, rfl, rfl, rfl, rfl, rfl, trivial⟩ ?_
  rintro ⟨k, l, s⟩ s0 ⟨hk, hser, hpl, hrel, hsk, hon⟩
  replace hk : k ≤ o.length := hk
  replace hser : rserK w o m k = some l := hser
  replace hpl : Plan w l := hpl
  replace hrel : Rel w s l := hrel
  replace hsk : s.length = k := hsk
  replace hon : ∀ (n : Nat) p, l[n]? = some p → p.on = true → (n : Int) ∈ (ixs w o).take k := hon
  repeat (refine stp rfl ?_ ?_;·repeat' constructor)
  refine pw_cond rfl (fun h => ?_) (fun h => ?_)
  · have hlt : k < o.length := by have := of_decide_eq_true h; omega
    clear h
    obtain ⟨nm, hnm⟩ := get_lt hlt
    have hord := ho1 k nm hnm
    have hq0 : 0 ≤ idx w.items (·.name == nm) := by
      unfold ordF at hord
      by_cases hneg : idx w.items (·.name == nm) < 0
      · rw [if_pos hneg] at hord; omega
      · omega
    obtain ⟨x, hx, hxn⟩ := idx_lt hq0
    have hxn : x.name = nm := by simpa using hxn
    subst hxn
    obtain ⟨q, hq⟩ : ∃ q : Nat, idx w.items (·.name == x.name) = q := ⟨_, (Int.toNat_of_nonneg hq0).symm⟩
    rw [hq, Int.toNat_natCast] at hx
    have hql := (List.getElem?_eq_some_iff.1 hx).1
    have hik : (ixs w o)[k]? = some (q : Int) := by rw [ixs, List.getElem?_map, hnm, ← hq]; rfl
    obtain ⟨mv, hmv⟩ := get_lt (show q < m.length by omega)
    have hmd : m.getD q 0 = mv := by rw [List.getD_eq_getElem?_getD, hmv]; rfl
    have h38 := itemOf_ret w x.name (by omega)
    rw [hq] at h38
    repeat (refine stp rfl ?_ ?_;·repeat' constructor)
    refine pw_draw 7 [18, 19, 20, 21, 22, 23, 10] (by decide +kernel) ?_
    repeat (refine stp rfl ?_ ?_;·repeat' constructor)
    apply qst;exact rfl;exact rfl;exact q_idxm rfl rfl rfl rfl rfl (by omega) hnm rfl
    repeat (refine stp rfl ?_ ?_;·repeat' constructor)
    apply qst;exact rfl;exact rfl;exact q_callP rfl (h38) rfl (by repeat' constructor) rfl rfl
    repeat (refine stp rfl ?_ ?_;·repeat' constructor)
    refine pw_draw3 [11] [9, 10] (by decide +kernel) ?_
    repeat (refine stp rfl ?_ ?_;·repeat' constructor)
    apply qst;exact rfl;exact rfl;exact q_idxm rfl rfl rfl rfl rfl (by omega) hnm rfl
    repeat (refine stp rfl ?_ ?_;·repeat' constructor)
    apply qst;exact rfl;exact rfl;exact q_idxm rfl rfl rfl rfl rfl (by omega) hmv rfl
    repeat (refine stp rfl ?_ ?_;·repeat' constructor)
    have hmz := ho2 q mv hmv
    have hmr : 0 ≤ mv ∧ mv ≤ (x.modes.length : Int) - 1 := by
      rw [modF, itP_at hx] at hmz
      by_cases hin : inside mv 0 ((x.modes.length : Int) - 1) = true
      · exact inside_iff.1 hin
      · rw [if_neg hin] at hmz; omega
    obtain ⟨md, hmdm⟩ := get_lt (show mv.toNat < x.modes.length by omega)
    have hma : modeAt x mv = md := by rw [modeAt, hmdm]; rfl
    have hxm := List.mem_of_getElem? hx
    have hio := (hv.item x hxm).mode md (List.mem_of_getElem? hmdm)
    have hdy := hio.1
    have hlast := hv.last
    have hok : ∀ d : Int, 0 ≤ d → d ≤ 400 → PlOk x ⟨mv, d, true⟩ := fun d h1 h2 => ⟨hmr.1, by show x.modes[mv.toNat]? = some (modeAt x mv); rw [hma]; exact hmdm, ⟨h1, h2⟩, by show 1 ≤ (modeAt x mv).days ∧ _; rw [hma]; exact hio.1, by show 0 ≤ (modeAt x mv).crew ∧ _; rw [hma]; exact hio.2.1⟩
    obtain ⟨old, hold⟩ := get_lt (show q < l.length by have := hpl.len; omega)
    have hoff : old.on = false := by
      cases hob : old.on with
      | false => rfl
      | true =>
        have h1 := hon q old hold hob
        exact absurd h1 (ord_new (hz1) hik)
    have hC : (refC w x mv : Int) = if md.days ≤ w.last then w.last - md.days + 1 else 1 := by
      rw [refC, hma]
      split <;> omega
    have hstep : rserK w o m (k + 1) = if refI w l q x mv < 0 then none else some (l.set q ⟨mv, refI w l q x mv, true⟩) := by
      rw [rserK, take_snoc hik, List.foldl_append]
      show rserF w m (rserK w o m k) q = _
      rw [hser, rserF, Int.toNat_natCast, itP_at hx, hmd]
    have hsl : ((s.map eSlot).length : Int) = s.length := by simp
    unfold refI at hstep
    generalize refC w x mv = N at *
    refine pw_loop (fun d => d < N ∧ Clear (List.range N) (fun d => freeB w l q ⟨mv, (d : Nat), true⟩) d) (fun d => [(1, .sl (o.map eS)), (2, .sl (m.map eI)), (3, .ptr 3 1 0 0), (8, .als 8 (1 + s.length) 0 (s.map eSlot).length), (9, I k), (10, I q), (11, .ptr 11 ((s0.own 11).1 + 1) 0 0)])
      (fun d => [(3, 1, ⟨28, 9, [eWork w], 2⟩), (8, 1 + s.length, ⟨59, 3, s.map eSlot, 0⟩), (11, (s0.own 11).1 + 1, ⟨59, 3, [eSlot ⟨x.name, mv, (d : Nat)⟩], 2⟩)])
      (fun d => N - d) 0 ⟨by split at hC <;> omega, .zero⟩ ⟨rfl, rfl, rfl, rfl, rfl, rfl, rfl, rfl, rfl, rfl, trivial⟩ ?_
    generalize (s0.own 11).1 + 1 = g11
    clear s0
    rintro d s1 ⟨hdN, hcl⟩
    have hd400 : (d : Int) ≤ 400 ∧ (d : Int) + 1 ≤ 400 := by split at hC <;> omega
    have hpk := hok d (by omega) hd400.1
    have hpl2 := hpl.set hx hpk
    have hrel2 := hrel.add hv hx (p := ⟨mv, (d : Nat), true⟩) hold hoff rfl
    have hsrt := sorted_ref w (by omega) (s ++ [slOf (x, ⟨mv, (d : Nat), true⟩)]) (by simp; omega)
    rw [sort_on hrel2] at hsrt
    have hbr := breaches_refF w hw hv hz _ (onQ w (l.set q ⟨mv, (d : Nat), true⟩)) (onQ_ok hpl2 (by omega)) hsrt
    have hfb : freeB w l q ⟨mv, (d : Nat), true⟩ = decide ((breachQ w (onQ w (l.set q ⟨mv, (d : Nat), true⟩))).length = 0) := rfl
    rw [List.map_append] at hbr
    have hrd : (List.range N)[d]? = some d := List.getElem?_range hdN
    generalize breachQ w (onQ w (l.set q ⟨mv, (d : Nat), true⟩)) = B at *
    have hBl : ((B.map eBr).length : Int) = B.length := by simp
    repeat (refine stp rfl ?_ ?_;·repeat' constructor)
    refine pw_draw3 [34] [1, 3, 6, 7] (by decide +kernel) ?_
    repeat (refine stp rfl ?_ ?_;·repeat' constructor)
    refine z3e rfl rfl rfl (o_slit 0 rfl rfl rfl rfl rfl rfl rfl rfl rfl rfl rfl (by repeat' constructor) rfl ⟨offz rfl, ?_⟩)
    repeat (refine stp rfl ?_ ?_;·repeat' constructor)
    refine z3e rfl rfl rfl (o_app 0 rfl rfl rfl rfl rfl rfl rfl rfl rfl rfl rfl (by repeat' constructor) (by intro row hr; first | (simp at hr; subst hr; rfl) | (simp at hr; obtain ⟨_, _, rfl⟩ := hr; rfl) | simp at hr) rfl rfl (by simp; omega) (by simp; omega) ⟨offz rfl, ?_⟩)
    repeat (refine stp rfl ?_ ?_;·repeat' constructor)
    apply qst;exact rfl;exact rfl;exact q_slit rfl rfl rfl rfl rfl rfl rfl rfl rfl rfl (by repeat' constructor) rfl
    repeat (refine stp rfl ?_ ?_;·repeat' constructor)
    refine z3e rfl rfl rfl (o_app 0 rfl rfl rfl rfl rfl rfl rfl rfl rfl rfl rfl (by repeat' constructor) (by intro row hr; first | (simp at hr; subst hr; rfl) | (simp at hr; obtain ⟨_, _, rfl⟩ := hr; rfl) | simp at hr) rfl rfl (by simp; omega) (by simp; omega) ⟨offz rfl, ?_⟩)
    repeat (refine stp rfl ?_ ?_;·repeat' constructor)
    apply qst;exact rfl;exact rfl;exact q_callF rfl (hbr) rfl (by repeat' constructor) rfl
    repeat (refine stp rfl ?_ ?_;·repeat' constructor)
    refine pw_cond rfl (fun h => ?_) (fun h => ?_)
    · have hne : ¬ B.length = 0 := by have := of_decide_eq_true h; omega
      clear h
      rw [decide_eq_false hne] at hfb
      have hsa : SlotAt w ⟨x.name, mv, (d : Nat) + 1⟩ x (modeAt x mv) := slotAt_it hv hxm (hok ((d : Nat) + 1) (by omega) hd400.2)
      have hend := end_ref w hw _ hsa
      rw [hma] at hend
      repeat (refine stp rfl ?_ ?_;·repeat' constructor)
      have hw1 : IntKind.i64.wrap ((d : Int) + 1) = (d : Int) + 1 := wrap_i64 (by omega) (by omega)
      rw [← hw1] at hend
      refine pw_draw 6 [47, 48, 49, 50, 51, 52] (by decide +kernel) ?_
      repeat (refine stp rfl ?_ ?_;·repeat' constructor)
      apply qst;exact rfl;exact rfl;exact q_callP rfl (hend) rfl (by repeat' constructor) rfl rfl
      repeat (refine stp rfl ?_ ?_;·repeat' constructor)
      refine pw_cond rfl (fun h => ?_) (fun h => ?_)
      · have hgt : w.last < IntKind.i64.wrap ((d : Int) + 1) + md.days := of_decide_eq_true h
        clear h
        rw [hw1] at hgt
        have hcl2 := hcl.succ hrd hfb
        rw [hcl2.none (by rw [List.length_range]; split at hC <;> omega), if_pos (by omega)] at hstep
        rw [rlistsR, rser_none hstep (by omega)]
        repeat (refine stp rfl ?_ ?_;·repeat' constructor)
        exact endm rfl (by repeat' constructor) rfl (by repeat' constructor) rfl
      · have hle : ¬ w.last < IntKind.i64.wrap ((d : Int) + 1) + md.days := of_decide_eq_false h
        clear h
        rw [hw1] at hle
        repeat (refine stp rfl ?_ ?_;·repeat' constructor)
        refine ⟨d + 1, ⟨by split at hC <;> omega, hcl.succ hrd hfb⟩, by omega, rfl, rfl, rfl, rfl, rfl, rfl, rfl, rfl, rfl, ?_, trivial⟩
        refine Eq.trans (b := (g11, some (Cont.mk 59 3 [[.str x.name, I mv, I (IntKind.i64.wrap ((d : Int) + 1))]] 2))) rfl ?_
        rw [hw1]; rfl
    · have h0 : B.length = 0 := by have := of_decide_eq_false h; omega
      clear h
      rw [decide_eq_true h0] at hfb
      rw [hcl.found hrd hfb, if_neg (by omega)] at hstep
      repeat (refine stp rfl ?_ ?_;·repeat' constructor)
      apply qst;exact rfl;exact rfl;exact q_slit rfl rfl rfl rfl rfl rfl rfl rfl rfl rfl (by repeat' constructor) rfl
      repeat (refine stp rfl ?_ ?_;·repeat' constructor)
      refine ps_run (o_app 0 rfl rfl rfl rfl rfl rfl rfl rfl rfl rfl rfl (by repeat' constructor) (by intro row hr; first | (simp at hr; subst hr; rfl) | simp at hr) rfl rfl (by simp; omega) (by simp; omega) ?_)
      repeat (refine stp rfl ?_ ?_;·repeat' constructor)
      refine ⟨(k + 1, l.set q ⟨mv, (d : Nat), true⟩, s ++ [slOf (x, ⟨mv, (d : Nat), true⟩)]), ⟨hlt, hstep, hpl2, hrel2, by simp [hsk], ?_⟩, by show o.length - (k + 1) < o.length - k; omega, rfl, rfl, rfl, ?_, i64_next (by omega) (by omega), rfl, ?_, trivial⟩
      · intro n p hp hpon
        show (n : Int) ∈ (ixs w o).take (k + 1)
        rw [take_snoc hik, List.mem_append, List.mem_singleton]
        by_cases hn : n = q
        · right; omega
        · left
          rw [List.getElem?_set_ne (Ne.symm hn)] at hp
          exact hon n p hp hpon
      · exact als_snoc eSlot 8 1 s (slOf (x, ⟨mv, (d : Nat), true⟩))
      · exact cont_snoc eSlot 1 59 3 0 s (slOf (x, ⟨mv, (d : Nat), true⟩))
  · have hge : k = o.length := by have := of_decide_eq_false h; omega
    subst hge
    clear h
    have h56 := sorted_ref w (by omega) s (by omega)
    rw [sort_on hrel] at h56
    rw [rlistsR, hser]
    repeat (first | refine pw_exit ?_ | refine pw_skip ?_ | refine x_norm ?_ | refine x_exit ?_ | refine xb_norm ?_ | refine xb_here ?_ | refine xb_away rfl ?_)
    refine pw_ghost (Ghost.give (k := 8) (t := 8) rfl rfl rfl rfl) ?_
    repeat (refine stp rfl ?_ ?_;·repeat' constructor)
    apply qst;exact rfl;exact rfl;exact q_call rfl (h56) rfl (by repeat' constructor) rfl
    repeat (refine stp rfl ?_ ?_;·repeat' constructor)
    exact endm rfl (by repeat' constructor) rfl (by repeat' constructor) rfl
end Go.Pv

/- The reference's rule and the program's place the items alike; what they place is a plan. -/
set_option maxHeartbeats 2000000
namespace Go.Pv
attribute [local irreducible] PWP POps PQuiet PSem XThen XBlock RetPost InlPost
open Go.Proofs

theorem idx_congr {α : Type} {l : List α} {p q : α → Bool} (h : ∀ x ∈ l, p x = q x) : idx l p = idx l q := by
  unfold idx
  have : l.findIdx? p = l.findIdx? q := by
    induction l with
    | nil => rfl
    | cons a l ih =>
      rw [List.findIdx?_cons, List.findIdx?_cons, h a (by simp), ih fun x hx => h x (by simp [hx])]
  rw [this]
theorem free_b {w : SWork} (hv : Well w) {l : List SPl} {i : Nat} {p : SPl} (hp : Plan w (l.set i p)) : freeB w l i p = true ↔ Free w (l.set i p) := by
  rw [freeB, decide_eq_true_eq, List.length_eq_zero_iff]
  exact free_iff hv hp
theorem pl_ok {w : SWork} (hv : Well w) {x : SItem} (hx : x ∈ w.items) {m : Int} (h0 : 0 ≤ m) {md : SMode} (hm : x.modes[m.toNat]? = some md) {d : Int} (h1 : 0 ≤ d) (h2 : d ≤ 400) : PlOk x ⟨m, d, true⟩ := by
  have hma : modeAt x m = md := by rw [modeAt, hm]; rfl
  have hio := (hv.item x hx).mode md (List.mem_of_getElem? hm)
  exact ⟨h0, by show x.modes[m.toNat]? = some (modeAt x m); rw [hma]; exact hm, ⟨h1, h2⟩, by show 1 ≤ (modeAt x m).days ∧ _; rw [hma]; exact hio.1, by show 0 ≤ (modeAt x m).crew ∧ _; rw [hma]; exact hio.2.1⟩
theorem zeros_get (w : SWork) (i : Nat) : (zeros w).getD i 0 = 0 := by
  rw [zeros, List.getD_eq_getElem?_getD, List.getElem?_replicate]
  split <;> rfl
theorem free_fit {w : SWork} (hv : Well w) (hns : NoSelf w) {l : List SPl} (hp : Plan w l) (hf : Free w l) {i : Nat} {x : SItem} {o : SPl} (hx : w.items[i]? = some x) (ho : l[i]? = some o) (hoff : o.on = false) {m : Int} (h0 : 0 ≤ m) {md : SMode} (hm : x.modes[m.toNat]? = some md) {d : Int} (h1 : 0 ≤ d) (h2 : d ≤ 400) :
    freeB w l i ⟨m, d, true⟩ = fitP w (zeros w) l i x ⟨m, d, true⟩ := by
  have hok := pl_ok hv (List.mem_of_getElem? hx) h0 hm h1 h2
  rw [Bool.eq_iff_iff, free_b hv (hp.set hx hok)]
  exact fit_free hv hns hp hf hx ho hoff hok rfl (by rw [zeros_get]; exact h1)
theorem refI_eq {w : SWork} (hv : Well w) (hns : NoSelf w) {l : List SPl} (hp : Plan w l) (hf : Free w l) {i : Nat} {x : SItem} {o : SPl} (hx : w.items[i]? = some x) (ho : l[i]? = some o) (hoff : o.on = false) {m : Int} (h0 : 0 ≤ m) {md : SMode} (hm : x.modes[m.toNat]? = some md) :
    refI w l i x m = earlI w (zeros w) l i x m := by
  have hlast := hv.last
  have hma : modeAt x m = md := by rw [modeAt, hm]; rfl
  have hio := (hv.item x (List.mem_of_getElem? hx)).mode md (List.mem_of_getElem? hm)
  have hdy := hio.1
  rw [refI, earlI, zeros_get]
  by_cases hle : md.days ≤ w.last
  · have hc : earlC w 0 x m = refC w x m := by rw [earlC, refC, hma]; omega
    rw [hc]
    refine idx_congr fun d hd => ?_
    rw [List.mem_range, refC, hma] at hd
    rw [Int.zero_add]
    exact free_fit hv hns hp hf hx ho hoff h0 hm (by omega) (by omega)
  · have hc : earlC w 0 x m = 0 := by rw [earlC, hma]; omega
    have hc2 : refC w x m = 1 := by rw [refC, hma]; omega
    rw [hc, hc2]
    show idx [0] _ = -1
    refine idx_none fun j b hb => ?_
    cases j with
    | succ j => simp at hb
    | zero =>
      have hb : 0 = b := by simpa using hb
      subst hb
      rw [free_fit hv hns hp hf hx ho hoff h0 hm (by omega) (by omega), fitP]
      have : decide (w.last < endP x ⟨m, ((0 : Nat) : Int), true⟩) = true := decide_eq_true (by show w.last < ((0 : Nat) : Int) + (modeAt x m).days; rw [hma]; omega)
      rw [this]; simp
theorem free_start {w : SWork} (hv : Well w) : Free w (List.replicate w.items.length ⟨0, 0, false⟩) := by
  have hno : ∀ {k x p}, ¬ On w (List.replicate w.items.length ⟨0, 0, false⟩) k x p := fun {k x p} h => by
    have h1 := h.pl
    have h2 := h.on
    rw [List.getElem?_replicate] at h1
    split at h1
    · cases h1; cases h2
    · cases h1
  refine ⟨fun k m x p y q h => absurd h hno, fun t ht d => ?_, fun k m x p y q h => absurd h hno, fun k x p h => absurd h hno, fun k x p h => absurd h hno⟩
  rw [← crewS_onQ]
  have : onQ w (List.replicate w.items.length ⟨0, 0, false⟩) = [] := by
    rw [List.eq_nil_iff_forall_not_mem]
    rintro ⟨x, p⟩ h
    obtain ⟨k, hk⟩ := mem_onQ.1 h
    exact hno hk
  rw [this]
  exact (hv.trade t ht).1.1

/-- What the rule has placed. -/
structure Laid (w : SWork) (o : List Str) (k : Nat) (l : List SPl) : Prop where
  plan : Plan w l
  free : Free w l
  on : ∀ (n : Nat) p, l[n]? = some p → (p.on = true ↔ (n : Int) ∈ (ixs w o).take k)
theorem ixs_len (w : SWork) (o : List Str) : (ixs w o).length = o.length := by simp [ixs]
theorem laid_start {w : SWork} (hv : Well w) (o : List Str) : Laid w o 0 (List.replicate w.items.length ⟨0, 0, false⟩) := ⟨plan_free w, free_start hv, fun n p hp => by
  rw [List.getElem?_replicate] at hp
  split at hp
  · cases hp; simp
  · cases hp⟩
theorem lists_parts {w : SWork} {o : List Str} {m : List Int} (h : listsE w o m = 0) : (o.length = w.items.length ∧ m.length = w.items.length) ∧ fstE o (ordF w o) = 0 ∧ fstE m (modF w) = 0 := by
  rw [listsE] at h
  by_cases hc : o.length = w.items.length ∧ m.length = w.items.length
  · rw [if_pos hc] at h
    by_cases hz : fstE o (ordF w o) = 0
    · rw [if_pos hz] at h; exact ⟨hc, hz, h⟩
    · rw [if_neg hz] at h; exact absurd h hz
  · rw [if_neg hc] at h; omega
theorem ord_at {w : SWork} {o : List Str} (h : fstE o (ordF w o) = 0) {k : Nat} (hk : k < o.length) : ∃ (q : Nat) (x : SItem), (ixs w o)[k]? = some (q : Int) ∧ o[k]? = some x.name ∧ w.items[q]? = some x ∧ (q : Int) ∉ (ixs w o).take k := by
  obtain ⟨nm, hnm⟩ := get_lt hk
  have hord := fstE_zero h k nm hnm
  unfold ordF at hord
  by_cases hneg : idx w.items (·.name == nm) < 0
  · rw [if_pos hneg] at hord; omega
  rw [if_neg hneg] at hord
  have hq0 := Int.not_lt.1 hneg
  obtain ⟨x, hx, hxn⟩ := idx_lt hq0
  have hxn : x.name = nm := by simpa using hxn
  obtain ⟨q, hq⟩ : ∃ q : Nat, idx w.items (·.name == nm) = q := ⟨_, (Int.toNat_of_nonneg hq0).symm⟩
  have hkn : ∀ s ∈ o.take k, 0 ≤ idx w.items (·.name == s) := ord_known (i := k) ⟨by omega, fun j b _ hb => fstE_zero h j b hb⟩
  have hany := ixs_any hkn hq0
  by_cases hdup : (o.take k).any (· == nm) = true
  · rw [if_pos hdup] at hord; omega
  rw [Bool.not_eq_true] at hdup
  rw [hdup, hq] at hany
  refine ⟨q, x, by rw [ixs, List.getElem?_map, hnm, ← hq]; rfl, by rw [hxn]; exact hnm, by rw [hq, Int.toNat_natCast] at hx; exact hx, fun hm => ?_⟩
  rw [List.any_eq_false] at hany
  rw [ixs, ← List.map_take] at hm
  exact hany _ hm (by simp)
theorem mode_at {w : SWork} (hv : Well w) {m : List Int} (h : fstE m (modF w) = 0) (hl : m.length = w.items.length) {q : Nat} {x : SItem} (hx : w.items[q]? = some x) : 0 ≤ m.getD q 0 ∧ ∃ md, x.modes[(m.getD q 0).toNat]? = some md := by
  have hql := (List.getElem?_eq_some_iff.1 hx).1
  obtain ⟨mv, hmv⟩ := get_lt (show q < m.length by omega)
  have hmd : m.getD q 0 = mv := by rw [List.getD_eq_getElem?_getD, hmv]; rfl
  have hmz := fstE_zero h q mv hmv
  rw [modF, itP_at hx] at hmz
  rw [hmd]
  by_cases hin : inside mv 0 ((x.modes.length : Int) - 1) = true
  · have := inside_iff.1 hin
    exact ⟨this.1, get_lt (by omega)⟩
  · rw [if_neg hin] at hmz; omega
theorem serK_step {w : SWork} {o : List Str} {m : List Int} {k : Nat} {q : Nat} (h : (ixs w o)[k]? = some (q : Int)) : serK w o m (k + 1) = serF w m (serK w o m k) q := by
  rw [serK, take_snoc h, List.foldl_append]; rfl
theorem rserK_step {w : SWork} {o : List Str} {m : List Int} {k : Nat} {q : Nat} (h : (ixs w o)[k]? = some (q : Int)) : rserK w o m (k + 1) = rserF w m (rserK w o m k) q := by
  rw [rserK, take_snoc h, List.foldl_append]; rfl
theorem laid_both {w : SWork} (hv : Well w) (hns : NoSelf w) {o : List Str} {m : List Int} (hl : listsE w o m = 0) : ∀ k, k ≤ o.length → rserK w o m k = serK w o m k ∧ ∀ l, serK w o m k = some l → Laid w o k l
  | 0, _ => ⟨rfl, fun l h => by cases h; exact laid_start hv o⟩
  | k + 1, hk => by
    obtain ⟨ih1, ih2⟩ := laid_both hv hns hl k (by omega)
    obtain ⟨⟨hl1, hl2⟩, hz1, hz2⟩ := lists_parts hl
    obtain ⟨q, x, hik, _, hx, hnew⟩ := ord_at hz1 (k := k) (by omega)
    obtain ⟨hm0, md, hmd⟩ := mode_at hv hz2 hl2 hx
    have hql := (List.getElem?_eq_some_iff.1 hx).1
    rw [serK_step hik, rserK_step hik, ih1]
    cases hs : serK w o m k with
    | none => exact ⟨rfl, fun l h => by cases h⟩
    | some l =>
      have hlaid := ih2 l hs
      obtain ⟨old, hold⟩ := get_lt (show q < l.length by have := hlaid.plan.len; omega)
      have hoff : old.on = false := by
        cases ho : old.on with
        | false => rfl
        | true => exact absurd ((hlaid.on q old hold).1 ho) hnew
      have hI := refI_eq hv hns hlaid.plan hlaid.free hx hold hoff hm0 hmd
      have hzl : (zeros w).length = w.items.length := by simp [zeros]
      have hzb : ∀ v ∈ zeros w, 0 ≤ v ∧ v ≤ 1000 := fun v hv => by rw [List.eq_of_mem_replicate hv]; omega
      rw [rserF, serF, Int.toNat_natCast, itP_at hx, hI]
      by_cases hneg : earlI w (zeros w) l q x (m.getD q 0) < 0
      · rw [if_pos hneg, earlR, if_pos hneg]
        exact ⟨rfl, fun l h => by cases h⟩
      · have hr : earlR w (zeros w) l q x (m.getD q 0) = (⟨m.getD q 0, earlI w (zeros w) l q x (m.getD q 0), true⟩, true) := by rw [earlR, if_neg hneg, zeros_get, Int.zero_add]
        have hok := earl_ok hv (fi := zeros w) (fun v hv => hzb v hv) hzl hx hm0 hmd (l := l) (by rw [hr])
        rw [hr] at hok
        rw [if_neg hneg, hr]
        refine ⟨rfl, fun l' h => ?_⟩
        have h : l.set q ⟨m.getD q 0, earlI w (zeros w) l q x (m.getD q 0), true⟩ = l' := Option.some.inj h
        subst h
        obtain ⟨d, hd, hfit⟩ := idx_lt (Int.not_lt.1 hneg)
        have hd2 : (earlI w (zeros w) l q x (m.getD q 0)) = d := by
          have : (List.range (earlC w ((zeros w).getD q 0) x (m.getD q 0)))[(earlI w (zeros w) l q x (m.getD q 0)).toNat]? = some d := hd
          have h2 := List.getElem?_eq_some_iff.1 this
          obtain ⟨h3, h4⟩ := h2
          rw [List.getElem_range] at h4
          omega
        rw [zeros_get, Int.zero_add] at hfit
        rw [hd2] at hok ⊢
        refine ⟨hlaid.plan.set hx hok.1, ?_, fun n p hp => ?_⟩
        · exact (fit_free hv hns hlaid.plan hlaid.free hx hold hoff hok.1 rfl (by rw [zeros_get]; show (0 : Int) ≤ (d : Int); omega)).2 hfit
        · rw [take_snoc hik, List.mem_append, List.mem_singleton]
          by_cases hn : n = q
          · subst hn
            rw [List.getElem?_set_self (by have := hlaid.plan.len; omega)] at hp
            cases hp
            simp
          · rw [List.getElem?_set_ne (Ne.symm hn)] at hp
            rw [hlaid.on n p hp]
            constructor
            · exact .inl
            · rintro (h | h)
              · exact h
              · omega
theorem laid_full {w : SWork} (hv : Well w) {o : List Str} {m : List Int} (hl : listsE w o m = 0) {l : List SPl} (h : Laid w o o.length l) : Full w l := by
  obtain ⟨⟨hl1, hl2⟩, hz1, hz2⟩ := lists_parts hl
  refine ⟨h.plan, fun n p hp => (h.on n p hp).2 ?_⟩
  have hnd : (ixs w o).Nodup := by
    rw [List.nodup_iff_pairwise_ne, List.pairwise_iff_getElem]
    intro i j hi hj hij he
    rw [ixs_len] at hi hj
    obtain ⟨q, x, hjq, _, _, hnew⟩ := ord_at hz1 hj
    have h1 : (ixs w o)[j]'(by rw [ixs_len]; exact hj) = (q : Int) := (List.getElem?_eq_some_iff.1 hjq).2
    rw [← h1, ← he] at hnew
    refine hnew ?_
    rw [List.mem_take_iff_getElem]
    exact ⟨i, by rw [ixs_len]; omega, rfl⟩
  have hsub : ∀ a ∈ ixs w o, a ∈ (List.range w.items.length).map fun n : Nat => (n : Int) := fun a ha => by
    obtain ⟨j, hj, rfl⟩ := List.getElem_of_mem ha
    rw [ixs_len] at hj
    obtain ⟨q, x, hjq, _, hx, _⟩ := ord_at hz1 hj
    rw [List.mem_map]
    exact ⟨q, List.mem_range.2 (List.getElem?_eq_some_iff.1 hx).1, ((List.getElem?_eq_some_iff.1 hjq).2).symm⟩
  have hperm := perm_cover (ixs w o) _ hnd hsub (by simp [ixs_len, hl1])
  have hn : n < w.items.length := by have := (List.getElem?_eq_some_iff.1 hp).1; have := h.plan.len; omega
  rw [List.take_of_length_le (by rw [ixs_len]; omega)]
  exact hperm.mem_iff.2 (List.mem_map.2 ⟨n, List.mem_range.2 hn, rfl⟩)
theorem onQ_full {w : SWork} {l : List SPl} (hf : Full w l) : onQ w l = prs w l := by
  rw [onQ, List.filter_eq_self]
  rintro ⟨x, p⟩ h
  obtain ⟨k, hk, he⟩ := List.getElem_of_mem h
  have hz : (prs w l)[k]? = some (x, p) := by rw [List.getElem?_eq_getElem hk, he]
  obtain ⟨_, h2⟩ := prs_get hz
  exact hf.on k p h2
theorem srt_item {w : SWork} {l : List SPl} (hl : l.length = w.items.length) : (srt w l).map (·.item) = w.items.map (·.name) := by
  rw [srt, List.map_map]
  apply List.ext_getElem?
  intro k
  rw [List.getElem?_map, List.getElem?_map]
  by_cases hk : k < w.items.length
  · obtain ⟨x, hx⟩ := get_lt hk
    obtain ⟨p, hp⟩ := get_lt (show k < l.length by omega)
    rw [prs_at hx hp, hx]; rfl
  · rw [List.getElem?_eq_none (by rw [prs, List.length_zip]; omega), List.getElem?_eq_none (by omega)]; rfl
theorem placed_srt {w : SWork} (hv : Well w) {l : List SPl} (hf : Full w l) : placed w (srt w l) = l := by
  apply List.ext_getElem?
  intro k
  rw [placed, List.getElem?_map]
  by_cases hk : k < w.items.length
  · obtain ⟨x, hx⟩ := get_lt hk
    obtain ⟨p, hp⟩ := get_lt (show k < l.length by have := hf.len; omega)
    rw [hx, hp]
    show some (pl (srt w l) x.name) = some p
    have hfind : (srt w l).find? (·.item == x.name) = some ⟨x.name, p.mode, p.day⟩ := by
      rw [List.find?_eq_some_iff_getElem]
      refine ⟨by simp, k, by rw [srt_len hf.toPlan]; exact hk, ?_, fun j hj => ?_⟩
      · have := srt_at hx hp
        exact (List.getElem?_eq_some_iff.1 this).2
      · have hjl : j < w.items.length := by omega
        obtain ⟨y, hy⟩ := get_lt hjl
        obtain ⟨r, hr⟩ := get_lt (show j < l.length by have := hf.len; omega)
        have := (List.getElem?_eq_some_iff.1 (srt_at hy hr)).2
        rw [this]
        show (!(y.name == x.name)) = true
        have hne : ¬ y.name = x.name := fun e => by
          have h1 := hv.good.uniq j y hy
          have h2 := hv.good.uniq k x hx
          rw [e, h2] at h1
          omega
        simp [hne]
    rw [pl, hfind]
    have hon := hf.on k p hp
    obtain ⟨pm, pd, po⟩ := p
    cases hon
    rfl
  · rw [List.getElem?_eq_none (by omega), List.getElem?_eq_none (by have := hf.len; omega)]; rfl
theorem slots_srt {w : SWork} (hv : Well w) {l : List SPl} (hf : Full w l) : slotsE w (srt w l) = 0 := by
  rw [slotsE, if_pos (srt_len hf.toPlan)]
  refine fstE_none fun k sl hk => ?_
  have hkl : k < w.items.length := by have := (List.getElem?_eq_some_iff.1 hk).1; rw [srt_len hf.toPlan] at this; exact this
  obtain ⟨x, hx⟩ := get_lt hkl
  obtain ⟨p, hp⟩ := get_lt (show k < l.length by have := hf.len; omega)
  rw [srt_at hx hp] at hk
  cases hk
  have hok := hf.at_ hx hp
  have hu := hv.good.uniq k x hx
  have hml := (List.getElem?_eq_some_iff.1 hok.mode).1
  have hlo := hok.lo
  unfold slotE modesOf
  show (if idx w.items (·.name == x.name) < 0 then _ else _) = 0
  rw [if_neg (by omega)]
  show (if ((srt w l).take k).any (fun z => z.item == x.name) = true then _ else _) = 0
  rw [if_neg, hu, Int.toNat_natCast, hx]
  · show (if inside p.mode 0 ((x.modes.length : Int) - 1) && inside p.day 0 400 then (0 : Int) else 2) = 0
    rw [if_pos]
    rw [Bool.and_eq_true, inside_iff, inside_iff]
    exact ⟨⟨hlo, by omega⟩, hok.day⟩
  · rw [Bool.not_eq_true, List.any_eq_false]
    intro z hz he
    obtain ⟨j, hj, rfl⟩ := List.mem_take_iff_getElem.1 hz
    have hjl : j < w.items.length := by omega
    obtain ⟨y, hy⟩ := get_lt hjl
    obtain ⟨r, hr⟩ := get_lt (show j < l.length by have := hf.len; omega)
    rw [(List.getElem?_eq_some_iff.1 (srt_at hy hr)).2] at he
    have he : y.name = x.name := by simpa using he
    have h1 := hv.good.uniq j y hy
    rw [he, hu] at h1
    omega
theorem plan_srt {w : SWork} (hz : workE w = 0) (hv : Well w) {l : List SPl} (hf : Full w l) (hfr : Free w l) : planE w (srt w l) = 0 := by
  have h0 : slE w (srt w l) = 0 := by rw [slE, if_pos hz]; exact slots_srt hv hf
  rw [planE, if_pos h0, placed_srt hv hf, ← breachQ_prs hv hf, ← onQ_full hf, (free_iff hv hf.toPlan).2 hfr]; rfl
end Go.Pv

/- Plain work. -/
set_option maxHeartbeats 2000000
namespace Go.Pv
attribute [local irreducible] PWP POps PQuiet PSem XThen XBlock RetPost InlPost
open Go.Proofs

def longS (s : Str) : Bool := decide (40 < s.length)
def badT (t : STrade) : Bool := longS t.name
def badS (x : SSpace) : Bool := longS x.name || decide (20 < x.next.length) || x.next.any longS
def badI (x : SItem) : Bool := longS x.name || longS x.trade || longS x.space || decide (6 < x.modes.length) || decide (12 < x.after.length) || x.after.any longS
def badW (w : SWork) (most : Int) : Bool := decide (8 < w.trades.length) || decide (14 < w.spaces.length) || decide (32 < w.excls.length) || decide (22 < w.outs.length) || (decide (most < w.items.length) && decide (w.items.length ≤ 40)) || decide (45 < w.items.length)
def plainB (w : SWork) (most : Int) : Bool := !(badW w most || w.trades.any badT || w.spaces.any badS || w.items.any badI)

theorem int_lt {a b : Nat} : decide ((a : Int) < (b : Int)) = decide (a < b) := by
  by_cases h : a < b
  · rw [decide_eq_true h, decide_eq_true (by omega)]
  · rw [decide_eq_false h, decide_eq_false (by omega)]

theorem plain_ret (w : SWork) (most : Int) : Ret Tryz.prog .shared 6 [.agg (eWork w), I most] (.bool (plainB w most)) := by
  have e1 : (w.trades.map eTrade).length = w.trades.length := by simp
  have e2 : (w.spaces.map eSpace).length = w.spaces.length := by simp
  have e3 : (w.excls.map eExcl).length = w.excls.length := by simp
  have e4 : (w.outs.map eOut).length = w.outs.length := by simp
  have e5 : (w.items.map eItem).length = w.items.length := by simp
  refine Ret.of_pwp layOk mixed Go.Proofs.Tryz.func6 rfl (by decide) rfl rfl ?_
  repeat (refine stp rfl ?_ ?_;·repeat' constructor)
  refine ps_cut 100 [(2, .ptr 2 1 0 0), (49, .bool (badW w most))] [(2, 1, ⟨28, 9, [eWork w], 2⟩)] ?_ ?_
  · repeat' (first|(refine stp rfl ?_ ?_;·repeat' constructor)|refine ps_split rfl rfl (fun h => ?_) (fun h => ?_)|refine pq_split rfl rfl (fun h => ?_) (fun h => ?_)|refine p3_split rfl rfl (fun h => ?_) (fun h => ?_))
    all_goals
      refine ⟨rfl, congrArg PV.bool ?_, rfl, trivial⟩
      simp only [e1, e2, e3, e4, e5] at *
      rw [Bool.eq_iff_iff]
      simp only [badW, Bool.or_eq_true, Bool.and_eq_true, decide_eq_true_eq, decide_eq_false_iff_not, true_iff, iff_true, Bool.false_eq_true, false_iff] at *
      omega
  intro s
  repeat (refine stp rfl ?_ ?_;·repeat' constructor)
  refine pw_cond rfl (fun h => ?_) (fun h => ?_)
  · have hb : badW w most = true := h
    repeat (refine stp rfl ?_ ?_;·repeat' constructor)
    exact end1b rfl rfl (by rw [plainB, hb]; rfl)
  have hb : badW w most = false := h
  have hsm : w.trades.length ≤ 8 ∧ w.spaces.length ≤ 14 ∧ w.items.length ≤ 45 := by
    simp only [badW, Bool.or_eq_false_iff, decide_eq_false_iff_not] at hb
    omega
  clear h
  repeat (refine stp rfl ?_ ?_;·repeat' constructor)
  refine pw_loop (Clear w.trades badT) (fun k => [(2, .ptr 2 1 0 0), (5, I k)]) (fun _ => [(2, 1, ⟨28, 9, [eWork w], 2⟩)]) (fun k => w.trades.length - k) 0 .zero ⟨rfl, rfl, rfl, trivial⟩ ?_
  intro k s hk
  repeat (refine stp rfl ?_ ?_;·repeat' constructor)
  refine pw_cond rfl (fun h => ?_) (fun h => ?_)
  · have hlt : k < w.trades.length := by simpa using h
    obtain ⟨t, ht⟩ := get_lt hlt
    clear h
    repeat (refine stp rfl ?_ ?_;·repeat' constructor)
    apply qst;exact rfl;exact rfl;exact q_idxm rfl rfl rfl rfl rfl (by omega) ht rfl
    repeat (refine stp rfl ?_ ?_;·repeat' constructor)
    refine pw_cond rfl (fun h => ?_) (fun h => ?_)
    · have hbad : badT t = true := by have := of_decide_eq_true h; simp [badT, longS]; omega
      repeat (refine stp rfl ?_ ?_;·repeat' constructor)
      exact end1b rfl rfl (by rw [plainB, any_of ht hbad]; simp)
    · have hok : badT t = false := by have := of_decide_eq_false h; simp [badT, longS]; omega
      repeat (refine stp rfl ?_ ?_;·repeat' constructor)
      refine ⟨k + 1, hk.succ ht hok, by omega, rfl, ?_, rfl, trivial⟩
      exact i64_next (by omega) (by omega)
  have ht := hk.any (by simpa using h)
  clear h hk
  repeat (refine stp rfl ?_ ?_;·repeat' constructor)
  refine pw_loop (Clear w.spaces badS) (fun k => [(2, .ptr 2 1 0 0), (6, I k)]) (fun _ => [(2, 1, ⟨28, 9, [eWork w], 2⟩)]) (fun k => w.spaces.length - k) 0 .zero ⟨rfl, rfl, rfl, trivial⟩ ?_
  intro k s hk
  repeat (refine stp rfl ?_ ?_;·repeat' constructor)
  refine pw_cond rfl (fun h => ?_) (fun h => ?_)
  · have hlt : k < w.spaces.length := by simpa using h
    obtain ⟨x, hx⟩ := get_lt hlt
    clear h
    have yes : badS x = true → PV.bool false = .bool (plainB w most) := fun h => by rw [plainB, any_of hx h]; simp
    repeat (refine stp rfl ?_ ?_;·repeat' constructor)
    apply qst;exact rfl;exact rfl;exact q_idxm rfl rfl rfl rfl rfl (by omega) hx rfl
    repeat (refine stp rfl ?_ ?_;·repeat' constructor)
    (first | refine ps_split rfl rfl (fun h => ?_) (fun h => ?_) | refine pq_split rfl rfl (fun h => ?_) (fun h => ?_) | refine p3_split rfl rfl (fun h => ?_) (fun h => ?_))
    · have h1 : longS x.name = true := by have := of_decide_eq_true h; simp [longS]; omega
      repeat (refine stp rfl ?_ ?_;·repeat' constructor)
      exact end1b rfl rfl (yes (by rw [badS, h1]; rfl))
    have h1 : longS x.name = false := by have := of_decide_eq_false h; simp [longS]; omega
    clear h
    repeat (refine stp rfl ?_ ?_;·repeat' constructor)
    apply qst;exact rfl;exact rfl;exact q_idxm rfl rfl rfl rfl rfl (by omega) hx rfl
    repeat (refine stp rfl ?_ ?_;·repeat' constructor)
    (first | refine ps_split rfl rfl (fun h => ?_) (fun h => ?_) | refine pq_split rfl rfl (fun h => ?_) (fun h => ?_) | refine p3_split rfl rfl (fun h => ?_) (fun h => ?_))
    · have h2 : decide (20 < x.next.length) = true := by have := of_decide_eq_true h; rw [List.length_map] at this; simp; omega
      repeat (refine stp rfl ?_ ?_;·repeat' constructor)
      exact end1b rfl rfl (yes (by rw [badS, h1, h2]; rfl))
    have h2 : decide (20 < x.next.length) = false := by have := of_decide_eq_false h; rw [List.length_map] at this; simp; omega
    have hl2 := of_decide_eq_false h2
    clear h
    repeat (refine stp rfl ?_ ?_;·repeat' constructor)
    apply qst;exact rfl;exact rfl;exact q_idxm rfl rfl rfl rfl rfl (by omega) hx rfl
    repeat (refine stp rfl ?_ ?_;·repeat' constructor)
    apply qst;exact rfl;exact rfl;exact q_callP rfl (texts_ret x.next (by omega)) rfl (by repeat' constructor) rfl rfl
    repeat (refine stp rfl ?_ ?_;·repeat' constructor)
    refine pw_cond rfl (fun h => ?_) (fun h => ?_)
    · have h3 : x.next.any longS = true := by simpa [longS] using h
      repeat (refine stp rfl ?_ ?_;·repeat' constructor)
      exact end1b rfl rfl (yes (by rw [badS, h1, h2, h3]; rfl))
    · have h3 : x.next.any longS = false := by
        have : (!(!x.next.any fun s => decide (40 < s.length))) = false := h
        simpa [longS] using this
      repeat (refine stp rfl ?_ ?_;·repeat' constructor)
      refine ⟨k + 1, hk.succ hx (by rw [badS, h1, h2, h3]; rfl), by omega, rfl, ?_, rfl, trivial⟩
      exact i64_next (by omega) (by omega)
  have hs := hk.any (by simpa using h)
  clear h hk
  repeat (refine stp rfl ?_ ?_;·repeat' constructor)
  refine pw_loop (Clear w.items badI) (fun k => [(2, .ptr 2 1 0 0), (7, I k)]) (fun _ => [(2, 1, ⟨28, 9, [eWork w], 2⟩)]) (fun k => w.items.length - k) 0 .zero ⟨rfl, rfl, rfl, trivial⟩ ?_
  intro k s hk
  repeat (refine stp rfl ?_ ?_;·repeat' constructor)
  refine pw_cond rfl (fun h => ?_) (fun h => ?_)
  · have hlt : k < w.items.length := by simpa using h
    obtain ⟨x, hx⟩ := get_lt hlt
    clear h
    have yes : badI x = true → PV.bool false = .bool (plainB w most) := fun h => by rw [plainB, any_of hx h]; simp
    repeat (refine stp rfl ?_ ?_;·repeat' constructor)
    apply qst;exact rfl;exact rfl;exact q_idxm rfl rfl rfl rfl rfl (by omega) hx rfl
    repeat (refine stp rfl ?_ ?_;·repeat' constructor)
    (first | refine ps_split rfl rfl (fun h => ?_) (fun h => ?_) | refine pq_split rfl rfl (fun h => ?_) (fun h => ?_) | refine p3_split rfl rfl (fun h => ?_) (fun h => ?_))
    · have h1 : longS x.name = true := by have := of_decide_eq_true h; simp [longS]; omega
      repeat (refine stp rfl ?_ ?_;·repeat' constructor)
      exact end1b rfl rfl (yes (by rw [badI, h1]; rfl))
    have h1 : longS x.name = false := by have := of_decide_eq_false h; simp [longS]; omega
    clear h
    repeat (refine stp rfl ?_ ?_;·repeat' constructor)
    (first | refine ps_split rfl rfl (fun h => ?_) (fun h => ?_) | refine pq_split rfl rfl (fun h => ?_) (fun h => ?_) | refine p3_split rfl rfl (fun h => ?_) (fun h => ?_))
    · have h2 : longS x.trade = true := by have := of_decide_eq_true h; simp [longS]; omega
      repeat (refine stp rfl ?_ ?_;·repeat' constructor)
      exact end1b rfl rfl (yes (by rw [badI, h1, h2]; rfl))
    have h2 : longS x.trade = false := by have := of_decide_eq_false h; simp [longS]; omega
    clear h
    repeat (refine stp rfl ?_ ?_;·repeat' constructor)
    (first | refine ps_split rfl rfl (fun h => ?_) (fun h => ?_) | refine pq_split rfl rfl (fun h => ?_) (fun h => ?_) | refine p3_split rfl rfl (fun h => ?_) (fun h => ?_))
    · have h3 : longS x.space = true := by have := of_decide_eq_true h; simp [longS]; omega
      repeat (refine stp rfl ?_ ?_;·repeat' constructor)
      exact end1b rfl rfl (yes (by rw [badI, h1, h2, h3]; rfl))
    have h3 : longS x.space = false := by have := of_decide_eq_false h; simp [longS]; omega
    clear h
    repeat (refine stp rfl ?_ ?_;·repeat' constructor)
    (first | refine ps_split rfl rfl (fun h => ?_) (fun h => ?_) | refine pq_split rfl rfl (fun h => ?_) (fun h => ?_) | refine p3_split rfl rfl (fun h => ?_) (fun h => ?_))
    · have h4 : decide (6 < x.modes.length) = true := by have := of_decide_eq_true h; rw [List.length_map] at this; simp; omega
      repeat (refine stp rfl ?_ ?_;·repeat' constructor)
      exact end1b rfl rfl (yes (by rw [badI, h1, h2, h3, h4]; rfl))
    have h4 : decide (6 < x.modes.length) = false := by have := of_decide_eq_false h; rw [List.length_map] at this; simp; omega
    clear h
    repeat (refine stp rfl ?_ ?_;·repeat' constructor)
    (first | refine ps_split rfl rfl (fun h => ?_) (fun h => ?_) | refine pq_split rfl rfl (fun h => ?_) (fun h => ?_) | refine p3_split rfl rfl (fun h => ?_) (fun h => ?_))
    · have h5 : decide (12 < x.after.length) = true := by have := of_decide_eq_true h; rw [List.length_map] at this; simp; omega
      repeat (refine stp rfl ?_ ?_;·repeat' constructor)
      exact end1b rfl rfl (yes (by rw [badI, h1, h2, h3, h4, h5]; rfl))
    have h5 : decide (12 < x.after.length) = false := by have := of_decide_eq_false h; rw [List.length_map] at this; simp; omega
    have hl5 := of_decide_eq_false h5
    clear h
    repeat (refine stp rfl ?_ ?_;·repeat' constructor)
    apply qst;exact rfl;exact rfl;exact q_callP rfl (texts_ret x.after (by omega)) rfl (by repeat' constructor) rfl rfl
    repeat (refine stp rfl ?_ ?_;·repeat' constructor)
    refine pw_cond rfl (fun h => ?_) (fun h => ?_)
    · have h6 : x.after.any longS = true := by simpa [longS] using h
      repeat (refine stp rfl ?_ ?_;·repeat' constructor)
      exact end1b rfl rfl (yes (by rw [badI, h1, h2, h3, h4, h5, h6]; rfl))
    · have h6 : x.after.any longS = false := by
        have : (!(!x.after.any fun s => decide (40 < s.length))) = false := h
        simpa [longS] using this
      repeat (refine stp rfl ?_ ?_;·repeat' constructor)
      refine ⟨k + 1, hk.succ hx (by rw [badI, h1, h2, h3, h4, h5, h6]; rfl), by omega, rfl, ?_, rfl, trivial⟩
      exact i64_next (by omega) (by omega)
  have hi := hk.any (by simpa using h)
  repeat (refine stp rfl ?_ ?_;·repeat' constructor)
  exact end1b rfl rfl (by rw [plainB, hb, ht, hs, hi]; rfl)
theorem sane_of {w : SWork} {most : Int} (h : plainB w most = true) : Sane w := by
  simp only [plainB, Bool.not_eq_true', Bool.or_eq_false_iff] at h
  obtain ⟨⟨⟨hb, ht⟩, hs⟩, hi⟩ := h
  simp only [badW, Bool.or_eq_false_iff, decide_eq_false_iff_not] at hb
  rw [List.any_eq_false] at hs hi
  refine ⟨by omega, by omega, by omega, by omega, by omega, fun x hx => ?_, fun x hx => ?_⟩
  · have := hs x hx
    simp only [badS, Bool.or_eq_true, decide_eq_true_eq, not_or] at this
    omega
  · have := hi x hx
    simp only [badI, Bool.or_eq_true, decide_eq_true_eq, not_or] at this
    omega
end Go.Pv

/- The law of lists. -/
set_option maxHeartbeats 2000000
namespace Go.Pv
attribute [local irreducible] PWP POps PQuiet PSem XThen XBlock RetPost InlPost
open Go.Proofs

theorem dec_ints {n : Nat} {cs : List PV} (h : tyP lay.get (n + 2) 36 cs) : ∃ l : List Int, cs = [.sl (l.map eI)] := by
  obtain ⟨rows, rfl, hr⟩ := tyP_sl h rfl
  obtain ⟨l, rfl⟩ := rows_map (f := eI) fun row hrow => by
    obtain ⟨m, rfl⟩ := tyP_int (hr row hrow) rfl
    exact ⟨m, rfl⟩
  exact ⟨l, rfl⟩
set_option maxRecDepth 20000 in
theorem lists_law (aw : Ret Tryz.prog .shared 5 [] (.bool true)) (w : SWork) (o : List Str) (m : List Int) : Ret Tryz.prog .shared 4 [.agg (eWork w), .sl (o.map eS), .sl (m.map eI)] (.bool true) := by
  have h6 := plain_ret w 8
  have hol : ((o.map eS).length : Int) = o.length := by simp
  have hml : ((m.map eI).length : Int) = m.length := by simp
  cases hp : plainB w 8 with
  | false =>
    rw [hp] at h6
    refine Ret.of_pwp layOk mixed Go.Proofs.Tryz.func4 rfl (by decide) rfl rfl ?_
    repeat (refine stp rfl ?_ ?_;·repeat' constructor)
    apply qst;exact rfl;exact rfl;exact q_callP rfl (aw) rfl (by repeat' constructor) rfl rfl
    repeat (refine stp rfl ?_ ?_;·repeat' constructor)
    apply qst;exact rfl;exact rfl;exact q_callP rfl (h6) rfl (by repeat' constructor) rfl rfl
    repeat (refine stp rfl ?_ ?_;·repeat' constructor)
    exact end1b rfl rfl rfl
  | true =>
    rw [hp] at h6
    have hw := sane_of hp
    by_cases ho : (50 : Int) < o.length
    · refine Ret.of_pwp layOk mixed Go.Proofs.Tryz.func4 rfl (by decide) rfl rfl ?_
      repeat (refine stp rfl ?_ ?_;·repeat' constructor)
      apply qst;exact rfl;exact rfl;exact q_callP rfl (aw) rfl (by repeat' constructor) rfl rfl
      repeat (refine stp rfl ?_ ?_;·repeat' constructor)
      apply qst;exact rfl;exact rfl;exact q_callP rfl (h6) rfl (by repeat' constructor) rfl rfl
      repeat (refine stp rfl ?_ ?_;·repeat' constructor)
      (first | refine ps_split rfl rfl (fun h => ?_) (fun h => ?_) | refine pq_split rfl rfl (fun h => ?_) (fun h => ?_) | refine p3_split rfl rfl (fun h => ?_) (fun h => ?_))
      · repeat (refine stp rfl ?_ ?_;·repeat' constructor)
        exact end1b rfl rfl rfl
      · exact absurd ho (by have := of_decide_eq_false h; omega)
    by_cases hm : (50 : Int) < m.length
    · refine Ret.of_pwp layOk mixed Go.Proofs.Tryz.func4 rfl (by decide) rfl rfl ?_
      repeat (refine stp rfl ?_ ?_;·repeat' constructor)
      apply qst;exact rfl;exact rfl;exact q_callP rfl (aw) rfl (by repeat' constructor) rfl rfl
      repeat (refine stp rfl ?_ ?_;·repeat' constructor)
      apply qst;exact rfl;exact rfl;exact q_callP rfl (h6) rfl (by repeat' constructor) rfl rfl
      repeat (refine stp rfl ?_ ?_;·repeat' constructor)
      (first | refine ps_split rfl rfl (fun h => ?_) (fun h => ?_) | refine pq_split rfl rfl (fun h => ?_) (fun h => ?_) | refine p3_split rfl rfl (fun h => ?_) (fun h => ?_))
      · exact absurd (of_decide_eq_true h) (by omega)
      clear h
      repeat (refine stp rfl ?_ ?_;·repeat' constructor)
      (first | refine ps_split rfl rfl (fun h => ?_) (fun h => ?_) | refine pq_split rfl rfl (fun h => ?_) (fun h => ?_) | refine p3_split rfl rfl (fun h => ?_) (fun h => ?_))
      · repeat (refine stp rfl ?_ ?_;·repeat' constructor)
        exact end1b rfl rfl rfl
      · exact absurd hm (by have := of_decide_eq_false h; omega)
    have h7 := texts_ret o (by omega)
    cases ht : (o.any fun s => decide (40 < s.length)) with
    | true =>
      rw [ht] at h7
      refine Ret.of_pwp layOk mixed Go.Proofs.Tryz.func4 rfl (by decide) rfl rfl ?_
      repeat (refine stp rfl ?_ ?_;·repeat' constructor)
      apply qst;exact rfl;exact rfl;exact q_callP rfl (aw) rfl (by repeat' constructor) rfl rfl
      repeat (refine stp rfl ?_ ?_;·repeat' constructor)
      apply qst;exact rfl;exact rfl;exact q_callP rfl (h6) rfl (by repeat' constructor) rfl rfl
      repeat (refine stp rfl ?_ ?_;·repeat' constructor)
      (first | refine ps_split rfl rfl (fun h => ?_) (fun h => ?_) | refine pq_split rfl rfl (fun h => ?_) (fun h => ?_) | refine p3_split rfl rfl (fun h => ?_) (fun h => ?_))
      · exact absurd (of_decide_eq_true h) (by omega)
      clear h
      repeat (refine stp rfl ?_ ?_;·repeat' constructor)
      (first | refine ps_split rfl rfl (fun h => ?_) (fun h => ?_) | refine pq_split rfl rfl (fun h => ?_) (fun h => ?_) | refine p3_split rfl rfl (fun h => ?_) (fun h => ?_))
      · exact absurd (of_decide_eq_true h) (by omega)
      clear h
      repeat (refine stp rfl ?_ ?_;·repeat' constructor)
      apply qst;exact rfl;exact rfl;exact q_callP rfl (h7) rfl (by repeat' constructor) rfl rfl
      repeat (refine stp rfl ?_ ?_;·repeat' constructor)
      exact end1b rfl rfl rfl
    | false =>
      rw [ht] at h7
      have hL := lists_ret w hw o m (by omega) (by omega)
      have h15 := refCheckWork_ret w hw
      rw [listsR] at hL
      by_cases hz : workE w = 0
      · rw [if_pos hz] at hL
        have hv := well_of hz
        have hc := checkLists_ref w hw hv o m
        rw [hz] at h15
        by_cases hl : listsE w o m = 0
        · rw [if_pos hl] at hL
          rw [hl] at hc
          have hR := lists_ref w hw hz o m (by omega) hl
          obtain ⟨hb1, hb2⟩ := laid_both hv (noSelf_of hz) hl o.length (Nat.le_refl _)
          have hser : serS w o m = serK w o m o.length := by rw [serK, ← ixs_len w o, List.take_length]; rfl
          rw [hser] at hL
          rw [rlistsR, hb1] at hR
          cases hs : serK w o m o.length with
          | none =>
            rw [hs] at hL hR
            replace hR : Ret Tryz.prog .shared 22 [.agg (eWork w), .sl (o.map eS), .sl (m.map eI)] (.tup [.nil, .bool false]) := hR
            replace hL : Ret Tryz.prog .shared 20 [.agg (eWork w), .sl (o.map eS), .sl (m.map eI)] (.tup [.nil, I 29]) := hL
            refine Ret.of_pwp layOk mixed Go.Proofs.Tryz.func4 rfl (by decide) rfl rfl ?_
            repeat (refine stp rfl ?_ ?_;·repeat' constructor)
            apply qst;exact rfl;exact rfl;exact q_callP rfl (aw) rfl (by repeat' constructor) rfl rfl
            repeat (refine stp rfl ?_ ?_;·repeat' constructor)
            apply qst;exact rfl;exact rfl;exact q_callP rfl (h6) rfl (by repeat' constructor) rfl rfl
            repeat (refine stp rfl ?_ ?_;·repeat' constructor)
            (first | refine ps_split rfl rfl (fun h => ?_) (fun h => ?_) | refine pq_split rfl rfl (fun h => ?_) (fun h => ?_) | refine p3_split rfl rfl (fun h => ?_) (fun h => ?_))
            · exact absurd (of_decide_eq_true h) (by omega)
            clear h
            repeat (refine stp rfl ?_ ?_;·repeat' constructor)
            (first | refine ps_split rfl rfl (fun h => ?_) (fun h => ?_) | refine pq_split rfl rfl (fun h => ?_) (fun h => ?_) | refine p3_split rfl rfl (fun h => ?_) (fun h => ?_))
            · exact absurd (of_decide_eq_true h) (by omega)
            clear h
            repeat (refine stp rfl ?_ ?_;·repeat' constructor)
            apply qst;exact rfl;exact rfl;exact q_callP rfl (h7) rfl (by repeat' constructor) rfl rfl
            repeat (refine stp rfl ?_ ?_;·repeat' constructor)
            apply qst;exact rfl;exact rfl;exact q_call rfl (hL) rfl (by repeat' constructor) rfl
            repeat (refine stp rfl ?_ ?_;·repeat' constructor)
            apply qst;exact rfl;exact rfl;exact q_callP rfl (h15) rfl (by repeat' constructor) rfl rfl
            repeat (refine stp rfl ?_ ?_;·repeat' constructor)
            apply qst;exact rfl;exact rfl;exact q_callP rfl (hc) rfl (by repeat' constructor) rfl rfl
            repeat (refine stp rfl ?_ ?_;·repeat' constructor)
            apply qst;exact rfl;exact rfl;exact q_call rfl (hR) rfl (by repeat' constructor) rfl
            repeat (refine stp rfl ?_ ?_;·repeat' constructor)
            exact end1b rfl rfl rfl
          | some l =>
            rw [hs] at hL hR
            have hlaid := hb2 l hs
            have hfull := laid_full hv hl hlaid
            have hpe := plan_srt hz hv hfull hlaid.free
            replace hR : Ret Tryz.prog .shared 22 [.agg (eWork w), .sl (o.map eS), .sl (m.map eI)] (.tup [.sl ((qS (onQ w l)).map eSlot), .bool true]) := hR
            replace hL : Ret Tryz.prog .shared 20 [.agg (eWork w), .sl (o.map eS), .sl (m.map eI)] (.tup [.sl ((srt w l).map eSlot), I 0]) := hL
            rw [onQ_full hfull, show qS (prs w l) = srt w l from rfl] at hR
            have h23 := sameSlots_ret (srt w l) (srt w l) (by rw [srt_len hfull.toPlan]; have := hv.n40; omega)
            rw [decide_eq_true rfl] at h23
            have h24 := checkPlan_ret w hw (srt w l)
            rw [hpe] at h24
            refine Ret.of_pwp layOk mixed Go.Proofs.Tryz.func4 rfl (by decide) rfl rfl ?_
            repeat (refine stp rfl ?_ ?_;·repeat' constructor)
            apply qst;exact rfl;exact rfl;exact q_callP rfl (aw) rfl (by repeat' constructor) rfl rfl
            repeat (refine stp rfl ?_ ?_;·repeat' constructor)
            apply qst;exact rfl;exact rfl;exact q_callP rfl (h6) rfl (by repeat' constructor) rfl rfl
            repeat (refine stp rfl ?_ ?_;·repeat' constructor)
            (first | refine ps_split rfl rfl (fun h => ?_) (fun h => ?_) | refine pq_split rfl rfl (fun h => ?_) (fun h => ?_) | refine p3_split rfl rfl (fun h => ?_) (fun h => ?_))
            · exact absurd (of_decide_eq_true h) (by omega)
            clear h
            repeat (refine stp rfl ?_ ?_;·repeat' constructor)
            (first | refine ps_split rfl rfl (fun h => ?_) (fun h => ?_) | refine pq_split rfl rfl (fun h => ?_) (fun h => ?_) | refine p3_split rfl rfl (fun h => ?_) (fun h => ?_))
            · exact absurd (of_decide_eq_true h) (by omega)
            clear h
            repeat (refine stp rfl ?_ ?_;·repeat' constructor)
            apply qst;exact rfl;exact rfl;exact q_callP rfl (h7) rfl (by repeat' constructor) rfl rfl
            repeat (refine stp rfl ?_ ?_;·repeat' constructor)
            apply qst;exact rfl;exact rfl;exact q_call rfl (hL) rfl (by repeat' constructor) rfl
            repeat (refine stp rfl ?_ ?_;·repeat' constructor)
            apply qst;exact rfl;exact rfl;exact q_callP rfl (h15) rfl (by repeat' constructor) rfl rfl
            repeat (refine stp rfl ?_ ?_;·repeat' constructor)
            apply qst;exact rfl;exact rfl;exact q_callP rfl (hc) rfl (by repeat' constructor) rfl rfl
            repeat (refine stp rfl ?_ ?_;·repeat' constructor)
            apply qst;exact rfl;exact rfl;exact q_call rfl (hR) rfl (by repeat' constructor) rfl
            repeat (refine stp rfl ?_ ?_;·repeat' constructor)
            apply qst;exact rfl;exact rfl;exact q_callP rfl (h23) rfl (by repeat' constructor) rfl rfl
            repeat (refine stp rfl ?_ ?_;·repeat' constructor)
            apply qst;exact rfl;exact rfl;exact q_callP rfl (h24) rfl (by repeat' constructor) rfl rfl
            repeat (refine stp rfl ?_ ?_;·repeat' constructor)
            exact end1b rfl rfl rfl
        · rw [if_neg hl] at hL
          generalize listsE w o m = e at *
          refine Ret.of_pwp layOk mixed Go.Proofs.Tryz.func4 rfl (by decide) rfl rfl ?_
          repeat (refine stp rfl ?_ ?_;·repeat' constructor)
          apply qst;exact rfl;exact rfl;exact q_callP rfl (aw) rfl (by repeat' constructor) rfl rfl
          repeat (refine stp rfl ?_ ?_;·repeat' constructor)
          apply qst;exact rfl;exact rfl;exact q_callP rfl (h6) rfl (by repeat' constructor) rfl rfl
          repeat (refine stp rfl ?_ ?_;·repeat' constructor)
          (first | refine ps_split rfl rfl (fun h => ?_) (fun h => ?_) | refine pq_split rfl rfl (fun h => ?_) (fun h => ?_) | refine p3_split rfl rfl (fun h => ?_) (fun h => ?_))
          · exact absurd (of_decide_eq_true h) (by omega)
          clear h
          repeat (refine stp rfl ?_ ?_;·repeat' constructor)
          (first | refine ps_split rfl rfl (fun h => ?_) (fun h => ?_) | refine pq_split rfl rfl (fun h => ?_) (fun h => ?_) | refine p3_split rfl rfl (fun h => ?_) (fun h => ?_))
          · exact absurd (of_decide_eq_true h) (by omega)
          clear h
          repeat (refine stp rfl ?_ ?_;·repeat' constructor)
          apply qst;exact rfl;exact rfl;exact q_callP rfl (h7) rfl (by repeat' constructor) rfl rfl
          repeat (refine stp rfl ?_ ?_;·repeat' constructor)
          apply qst;exact rfl;exact rfl;exact q_call rfl (hL) rfl (by repeat' constructor) rfl
          repeat (refine stp rfl ?_ ?_;·repeat' constructor)
          apply qst;exact rfl;exact rfl;exact q_callP rfl (h15) rfl (by repeat' constructor) rfl rfl
          repeat (refine stp rfl ?_ ?_;·repeat' constructor)
          apply qst;exact rfl;exact rfl;exact q_callP rfl (hc) rfl (by repeat' constructor) rfl rfl
          repeat (refine stp rfl ?_ ?_;·repeat' constructor)
          refine pw_cond rfl (fun h => ?_) (fun h => ?_)
          · repeat (refine stp rfl ?_ ?_;·repeat' constructor)
            (first | refine ps_split rfl rfl (fun h => ?_) (fun h => ?_) | refine pq_split rfl rfl (fun h => ?_) (fun h => ?_) | refine p3_split rfl rfl (fun h => ?_) (fun h => ?_))
            · repeat (refine stp rfl ?_ ?_;·repeat' constructor)
              exact end1b rfl rfl rfl
            · simp at h
          · exact absurd (by simpa using h) hl
      · rw [if_neg hz] at hL
        generalize workE w = e at *
        refine Ret.of_pwp layOk mixed Go.Proofs.Tryz.func4 rfl (by decide) rfl rfl ?_
        repeat (refine stp rfl ?_ ?_;·repeat' constructor)
        apply qst;exact rfl;exact rfl;exact q_callP rfl (aw) rfl (by repeat' constructor) rfl rfl
        repeat (refine stp rfl ?_ ?_;·repeat' constructor)
        apply qst;exact rfl;exact rfl;exact q_callP rfl (h6) rfl (by repeat' constructor) rfl rfl
        repeat (refine stp rfl ?_ ?_;·repeat' constructor)
        (first | refine ps_split rfl rfl (fun h => ?_) (fun h => ?_) | refine pq_split rfl rfl (fun h => ?_) (fun h => ?_) | refine p3_split rfl rfl (fun h => ?_) (fun h => ?_))
        · exact absurd (of_decide_eq_true h) (by omega)
        clear h
        repeat (refine stp rfl ?_ ?_;·repeat' constructor)
        (first | refine ps_split rfl rfl (fun h => ?_) (fun h => ?_) | refine pq_split rfl rfl (fun h => ?_) (fun h => ?_) | refine p3_split rfl rfl (fun h => ?_) (fun h => ?_))
        · exact absurd (of_decide_eq_true h) (by omega)
        clear h
        repeat (refine stp rfl ?_ ?_;·repeat' constructor)
        apply qst;exact rfl;exact rfl;exact q_callP rfl (h7) rfl (by repeat' constructor) rfl rfl
        repeat (refine stp rfl ?_ ?_;·repeat' constructor)
        apply qst;exact rfl;exact rfl;exact q_call rfl (hL) rfl (by repeat' constructor) rfl
        repeat (refine stp rfl ?_ ?_;·repeat' constructor)
        apply qst;exact rfl;exact rfl;exact q_callP rfl (h15) rfl (by repeat' constructor) rfl rfl
        repeat (refine stp rfl ?_ ?_;·repeat' constructor)
        refine pw_cond rfl (fun h => ?_) (fun h => ?_)
        · exact absurd (by simpa using h) hz
        clear h
        repeat (refine stp rfl ?_ ?_;·repeat' constructor)
        refine pw_cond rfl (fun h => ?_) (fun h => ?_)
        · repeat (refine stp rfl ?_ ?_;·repeat' constructor)
          (first | refine ps_split rfl rfl (fun h => ?_) (fun h => ?_) | refine pq_split rfl rfl (fun h => ?_) (fun h => ?_) | refine p3_split rfl rfl (fun h => ?_) (fun h => ?_))
          · repeat (refine stp rfl ?_ ?_;·repeat' constructor)
            exact end1b rfl rfl rfl
          · simp at h
        · exact absurd (by simpa using h) hz
end Go.Pv

/- The example's bound; the laws are awake. -/
set_option maxHeartbeats 2000000
namespace Go.Pv
attribute [local irreducible] PWP POps PQuiet PSem XThen XBlock RetPost InlPost
open Go.Proofs

set_option maxRecDepth 20000 in
theorem pair_best : Ret Tryz.prog .shared 26 [.agg (eWork pairW)] (.tup [.agg [I 2, .sl [[.str [97]]], .str []], I 0]) := by
  have h20 := checkWork_ret pairW pair_sane
  rw [pair_work] at h20
  have h78 := tradeBound_ret pairW pair_well tradeW (by decide) (by decide)
  rw [show tradeB pairW tradeW = 2 by decide +kernel] at h78
  refine Ret.of_pwp layOk mixed Go.Proofs.Tryz.func26 rfl (by decide) rfl rfl ?_
  repeat (refine stp rfl ?_ ?_;·repeat' constructor)
  apply qst;exact rfl;exact rfl;exact q_callP rfl (h20) rfl (by repeat' constructor) rfl rfl
  repeat (refine stp rfl ?_ ?_;·repeat' constructor)
  apply qst;exact rfl;exact rfl;exact q_call rfl (pair_longest) rfl (by repeat' constructor) rfl
  repeat (refine stp rfl ?_ ?_;·repeat' constructor)
  refine pw_loop (fun (k : Nat) => k ≤ 1) (fun k => [(1, .ptr 1 1 0 0), (2, .ptr 2 1 0 0), (5, .ptr 5 1 0 0), (18, .sl (pairW.trades.map eTrade)), (19, I 1), (20, I k)])
    (fun _ => [(1, 1, ⟨28, 9, [eWork pairW], 2⟩), (2, 1, ⟨61, 3, [[I 0, .nil, .str []]], 2⟩), (5, 1, ⟨61, 3, [[I 2, .sl [[.str [97]]], .str []]], 2⟩)]) (fun k => 1 - k) 0 (by omega) ⟨rfl, rfl, rfl, rfl, rfl, rfl, rfl, rfl, rfl, trivial⟩ ?_
  intro k s hk
  obtain rfl | rfl : k = 0 ∨ k = 1 := by omega
  · repeat (refine stp rfl ?_ ?_;·repeat' constructor)
    refine zsq rfl (q_idx rfl rfl rfl rfl rfl (by decide) rfl rfl) ?_
    repeat (refine stp rfl ?_ ?_;·repeat' constructor)
    apply qst;exact rfl;exact rfl;exact q_callP rfl (h78) rfl (by repeat' constructor) rfl rfl
    repeat (refine stp rfl ?_ ?_;·repeat' constructor)
    exact ⟨1, by omega, by omega, rfl, rfl, rfl, rfl, rfl, rfl, rfl, rfl, rfl, trivial⟩
  · repeat (refine stp rfl ?_ ?_;·repeat' constructor)
    exact endm rfl (by repeat' constructor) rfl (by repeat' constructor) rfl

set_option maxRecDepth 20000 in
theorem awake_ret : Ret Tryz.prog .shared 5 [] (.bool true) := by
  have h21 := texts2_ret [[97]] [[97]] (by decide)
  rw [decide_eq_true rfl] at h21
  refine Ret.of_pwp layOk mixed Go.Proofs.Tryz.func5 rfl (by decide) rfl rfl ?_
  repeat (refine stp rfl ?_ ?_;·repeat' constructor)
  apply qst;exact rfl;exact rfl;exact q_call rfl (pair_ret) rfl (by repeat' constructor) rfl
  repeat (refine stp rfl ?_ ?_;·repeat' constructor)
  apply qst;exact rfl;exact rfl;exact q_slit rfl rfl rfl rfl rfl rfl rfl rfl rfl rfl (by repeat' constructor) rfl
  repeat (refine stp rfl ?_ ?_;·repeat' constructor)
  apply qst;exact rfl;exact rfl;exact q_callP rfl (pair_cost) rfl (by repeat' constructor) rfl rfl
  repeat (refine stp rfl ?_ ?_;·repeat' constructor)
  apply qst;exact rfl;exact rfl;exact q_call rfl (pair_ret) rfl (by repeat' constructor) rfl
  repeat (refine stp rfl ?_ ?_;·repeat' constructor)
  apply qst;exact rfl;exact rfl;exact q_call rfl (pair_best) rfl (by repeat' constructor) rfl
  repeat (refine stp rfl ?_ ?_;·repeat' constructor)
  apply qst;exact rfl;exact rfl;exact q_slit rfl rfl rfl rfl rfl rfl rfl rfl rfl rfl (by repeat' constructor) rfl
  repeat (refine stp rfl ?_ ?_;·repeat' constructor)
  apply qst;exact rfl;exact rfl;exact q_callP rfl (h21) rfl (by repeat' constructor) rfl rfl
  repeat (refine stp rfl ?_ ?_;·repeat' constructor)
  exact end1b rfl rfl rfl
end Go.Pv
