/- Texts of one hand, gathered: PvQ, PvK, PvL, PvR, PvS, PvU, PvW3, PvM, PvN, PvT. -/
import Derived.Test.YtfnjhhndbgidmaaGreatLi1
import Derived.Test.YtfnjhhndbgidmaaGreatProg
import Derived.KernelRfl
/- The operations that yield a value and leave alone what there is: 'QOp'. -/
namespace Go.Pv
open Go.RowKit

/-- What an operation yields that changes nothing that there is. -/
inductive QOp (P : Program) (L : Lay) (s : St) (o : Oper) : PV → Prop
  | v {pv : PV} {Cd : Prop} (hq : qv L s o.op = some (pv, Cd)) (hc : Cd) : QOp P L s o pv
  | idx {T e : TypeId} {x ix : Operand} {r re : LRow} {rows : List (List PV)} {row : List PV} {k : IntKind} {n : Int} (ho : o.op = .indexAddr T x ix) (hr : L T = some r) (hs : r.sh = .sl e) (hre : L e = some re)
      (hx : s.ev x = .sl rows ∨ s.ev x = .fsl rows) (hix : s.ev ix = .int k n) (h0 : 0 ≤ n) (hrow : rows[n.toNat]? = some row) (hlen : row.length = re.size) : QOp P L s o (.dref row 0)
  | idxA {T e : TypeId} {x ix : Operand} {r re : LRow} {k : IntKind} {n : Int} {st g i m : Nat} {c : Cont} (ho : o.op = .indexAddr T x ix) (hr : L T = some r) (hs : r.sh = .sl e) (hre : L e = some re)
      (hx : s.ev x = .als st g i m) (hown : s.own st = (g, some c)) (hsz : c.sz = re.size) (hix : s.ev ix = .int k n) (h0 : 0 ≤ n) (hlt : n < m) : QOp P L s o (.ptr st g (i + n.toNat) 0)
  | ldp {T : TypeId} {x : Operand} {r : LRow} {st g i j : Nat} {c : Cont} {row : List PV} {pv : PV} (ho : o.op = .load T x) (hr : L T = some r) (hx : s.ev x = .ptr st g i j) (hown : s.own st = (g, some c))
      (hrow : c.rows[i]? = some row) (hp : part r row j = some pv) : QOp P L s o pv
  | slc {T e : TypeId} {x lo : Operand} {r re : LRow} {rows : List (List PV)} {k : IntKind} {n : Int} (ho : o.op = .slice T x (some lo) none none) (hr : L T = some r) (hs : r.sh = .sl e) (hre : L e = some re)
      (hx : s.ev x = .sl rows) (hix : s.ev lo = .int k n) (h0 : 0 ≤ n) (hle : n ≤ rows.length) (hlen : ∀ row ∈ rows, row.length = re.size) : QOp P L s o (.sl (rows.drop n.toNat))
  | slh {T e : TypeId} {x hi : Operand} {r re : LRow} {rows : List (List PV)} {k : IntKind} {n : Int} (ho : o.op = .slice T x none (some hi) none) (hr : L T = some r) (hs : r.sh = .sl e) (hre : L e = some re)
      (hx : s.ev x = .sl rows) (hix : s.ev hi = .int k n) (h0 : 0 ≤ n) (hle : n ≤ rows.length) (hlen : ∀ row ∈ rows, row.length = re.size) : QOp P L s o (.sl (rows.take n.toNat))
  | call {fop : Operand} {args : Array Operand} {tys : Array TypeId} {f : FuncId} {caps pargs : List PV} {Cd : Prop} {b : Fl} {r : PV} (ho : o.op = .call ⟨.value fop, args, tys⟩) (hf : s.ev fop = .clo f caps)
      (hres : resL (res s 4) (args.toList.map s.ev ++ caps) = some (pargs, Cd, b)) (hc : Cd) (hb : b.cl = true) (hret : Ret P .shared f pargs r) : QOp P L s o r
  | callF {fop : Operand} {args : Array Operand} {tys : Array TypeId} {f : FuncId} {caps pargs : List PV} {Cd : Prop} {b : Fl} {r : PV} (ho : o.op = .call ⟨.value fop, args, tys⟩) (hf : s.ev fop = .clo f caps)
      (hres : resL (res s 4) (args.toList.map s.ev ++ caps) = some (pargs, Cd, b)) (hc : Cd) (hret : Ret P .fresh f pargs r) : QOp P L s o r.frs
  | slit {T e : TypeId} {r re : LRow} {n : Nat} {parts : Array (Nat × Operand)} {Pr : Prop} (ho : o.op = .buildSlice T n parts) (hr : L T = some r) (hs : r.sh = .sl e) (hre : L e = some re) (hz : re.zero.isSome = true) (hsz : 0 < re.size)
      (hn : parts.toList.map (·.1) = List.range n) (hN : n * re.size ≤ 16777216) (hcells : ∀ p ∈ parts.toList, (s.ev p.2).cells.length = re.size)
      (h1 : oneL s (parts.toList.flatMap fun p => (s.ev p.2).cells) = some Pr) (h2 : Pr) (hkd : (parts.toList.flatMap fun p => (s.ev p.2).cells).all (kOk 0) = true) : QOp P L s o (.fsl (parts.toList.map fun p => (s.ev p.2).cells.map (nrm 0)))
  | mks {T e : TypeId} {r re : LRow} {l c : Operand} {kl kc : IntKind} {n : Int} {z : List PV} (ho : o.op = .makeSlice T l c) (hr : L T = some r) (hs : r.sh = .sl e) (hre : L e = some re) (hz : re.zero = some z) (hsz : 0 < re.size)
      (hl : s.ev l = .int kl n) (hc : s.ev c = .int kc n) (h0 : 0 ≤ n) (hb : (re.bytes : Int) * n ≤ 140737488355328) (h63 : n ≤ 9223372036854775807) : QOp P L s o (.fsl (List.replicate n.toNat z))
  | look {T K V : TypeId} {r rk rv : LRow} {x y : Operand} {k g : Nat} {c : Cont} {z : PV} {ok : Bool} (ho : o.op = .lookup T x y ok) (hr : L T = some r) (hs : r.sh = .map K V) (hrk : L K = some rk) (hrv : L V = some rv) (hz : rv.zero = some [z]) (hz1 : zone P V = true) (hx : s.ev x = .mp k g) (hown : s.own k = (g, some c)) (hk3 : c.kind < 3)
      (hky : rk.sh.key (s.ev y) = true) (hkeys : keyed rk.sh c.rows = true) : QOp P L s o (bif ok then .tup [mval z (s.ev y) c.rows, .bool (mix (s.ev y) c.rows).isSome] else mval z (s.ev y) c.rows)
  | entry {x : Operand} {k g : Nat} {c : Cont} {ck cv : PV} {rem : List PV} (ho : o.op = .entry x) (hx : s.ev x = .mi k g) (hown : s.own k = (g, some c)) (hk3 : c.kind = 3) (hrows : c.rows = [.agg [ck, cv] :: rem]) : QOp P L s o (.tup [ck, cv])

  | seq {T : TypeId} {x y : Operand} {T' : TypeId} {ks : List Sh} {us vs : List PV} {r neg : Bool} (ho : o.op = .binOp (bif neg then .neq else .eql) T x y T') (hT : eqT P T ks = true) (hx : s.ev x = .agg us) (hy : s.ev y = .agg vs) (hl : leqs ks us vs = some r) : QOp P L s o (.bool (bif neg then !r else r))

/-- What the machine does at such an operation. -/
def Gives (P : Program) (C : Ctx) (γ : Nat → Option Nat) (s : St) (a : Act) (w : World) (o : Oper) (pv : PV) : Prop :=
  (∃ v, (execOp a.eval o).run P w = .ok (.value v) w ∧ Rep (envOf C γ s w) pv v) ∨
  (∃ v w', (execOp a.eval o).run P w = .ok (.value v) w' ∧ Below w.heap.size w w' ∧ Rep (envOf C γ s w') pv v) ∨
  (∃ f args, (execOp a.eval o).run P w = .ok (.enter f args) w ∧ Calls P f args w fun e w' => ∃ v, e = .returned v ∧ Below w.heap.size w w' ∧ Rep (envOf C γ s w') pv v)

section
variable {P : Program} {L : Lay} {C : Ctx} {γ : Nat → Option Nat} {s : St} {a : Act} {w : World}

theorem QOp.sound (hL : LOk P L) (hX : ∀ b, C.X b → b < C.B) (h : Sim C γ s a w) {o : Oper} {pv : PV} (hq : QOp P L s o pv) : Gives P C γ s a w o pv := by
  have wrapv : ∀ {m : Sem Value} {v : Value}, m.run P w = .ok v w → (do pure (Next.value (← m)) : Sem Next).run P w = .ok (.value v) w := fun hm => by simp [hm]
  cases hq with
  | v hq hc => exact .inl (qv_sound hL h hq hc)
  | seq ho hT hx hy hl =>
    rename_i T x y T' ks us vs r neg
    have hxr := h.ev x
    rw [hx] at hxr
    have hyr := h.ev y
    rw [hy] at hyr
    obtain ⟨e1, e2⟩ := run_eqs (P := P) (w := w) (x := x) (y := y) hT hl hxr hyr
    cases neg
    · refine .inl ⟨.bool r, ?_, .d (.bool r)⟩
      simp only [execOp, ho, cond_false]
      exact wrapv e1
    · refine .inl ⟨.bool (!r), ?_, .d (.bool _)⟩
      simp only [execOp, ho, cond_true]
      exact wrapv e2
  | look ho hr hs hrk hrv hz hz1 hx hown hk3 hky hkeys =>
    rename_i T K V r rk rv x y k g c z ok
    have hxr := h.ev x
    rw [hx] at hxr
    obtain ⟨hsz, b, hb, hxv⟩ := h.mp_at hxr hown
    obtain ⟨es, f1, f2, f3, f4, f5, f6⟩ := (h.sites k c (by rw [hown])).mp b hb hsz hk3
    obtain ⟨u, e1, e2⟩ := run_look (E := envOf C γ s w) (P := P) (ok := ok) hL hr hs hrk hrv hz hz1 f1 f2 f3 (fun i row c e e1 e2 e3 => (f5 i row c e e1 e2 e3).rep envOf_okfok) (fun i row c e e1 e2 e3 => (f6 i row c e e1 e2 e3).rep envOf_okfok) hky (h.ev y) hkeys
    refine .inl ⟨u, ?_, e2⟩
    simp only [execOp, ho, hxv]
    exact wrapv e1
  | entry ho hx hown hk3 hrows =>
    obtain ⟨u, e1, e2⟩ := snd_entry (P := P) h hx hown hk3 hrows
    refine .inl ⟨u, ?_, e2⟩
    simp only [execOp, ho]
    exact wrapv e1
  | slit ho hr hs hre hz hsz hn hN hcells h1 h2 hkd =>
    rename_i T e r re n parts Pr
    obtain ⟨cur, g1, g2, g3⟩ := slit_core (P := P) hL h 0 ho hr hs hre hz hsz hn hN hcells h1 h2 hkd
    have hb : Below w.heap.size w (w.alloc (.cells cur e)) := ⟨rfl, rfl, rfl, by simp, fun b hb => Below.heap_alloc w _ b hb⟩
    have hle := envLe_ext (C := C) (γ := γ) (s := s) hb h.base
    refine .inr (.inl ⟨_, _, g3, hb, .fsl ?_⟩)
    have hf := g1.mono hle
    have hblk : (w.alloc (.cells cur e)).heap[w.heap.size]? = some (.cells cur e (0, 0)) := heap_alloc_at _ _
    refine .sl _ w.heap.size 0 _ re.size (fun i j => cur.getD (i * re.size + j) undef) ⟨h.top, by simp, fun hx => ?_, fun k c hc hk => ?_⟩ hsz (Nat.le_refl _) hf.row_ (fun i j row pv e1 e2 => ?_) (fun i j row pv e1 e2 => ?_)
    · have := hX _ hx; have := h.top; omega
    · have := (h.base k c _ hc hk).2; omega
    · obtain ⟨v, f1, f2, f3⟩ := hf.at_ i j row pv e1 e2
      rw [Array.getElem?_toList] at f1
      show (w.alloc (.cells cur e)).cell? _ = _ ∧ _
      rw [cell_of_cells hblk, Nat.zero_add, f1]
      simp [f1, f2]
    · obtain ⟨v, f1, f2, f3⟩ := hf.at_ i j row pv e1 e2
      rw [Array.getElem?_toList] at f1
      have : cur.getD (i * re.size + j) undef = v := by simp [f1]
      simp only [this]
      exact f3
  | mks ho hr hs hre hz hsz hl hc h0 hb h63 =>
    rename_i T e r re l c kl kc n z
    obtain ⟨i, dd, hi, hud, hisz, hiby, _, hzero⟩ := LRow.spec (hL e re hre)
    obtain ⟨zv, z1, z2, z3, z4⟩ := hzero z hz
    have hu := und_sl (hL T r hr) hs
    have hlr := h.ev l
    rw [hl] at hlr
    have hcr := h.ev c
    rw [hc] at hcr
    have hrun := run_make (P := P) w T e i zv hu hi z1 kl kc n n h0 (Int.le_refl _) (by rw [hiby]; omega) h63
    have hflat : FlatRep (envOf C γ s w) 0 re.size (List.replicate n.toNat z) (madeCells zv.cells (n.toNat * i.size)).toList := by
      refine ⟨by simp [size_madeCells, hisz], fun row hr => ?_, fun i' j row pv e1 e2 => ?_⟩
      · rw [List.eq_of_mem_replicate hr, z3, z2]
      · have hi' : i' < n.toNat := by have := (List.getElem?_eq_some_iff.1 e1).1; simpa using this
        have hrow : row = z := by rw [List.getElem?_replicate, if_pos hi'] at e1; simpa using e1.symm
        subst hrow
        have hj : j < re.size := by have := (List.getElem?_eq_some_iff.1 e2).1; rw [z3, z2] at this; exact this
        have hmul : (i' + 1) * re.size ≤ n.toNat * re.size := Nat.mul_le_mul_right _ hi'
        rw [Nat.add_mul, Nat.one_mul] at hmul
        have hjz : j < zv.cells.size := by rw [z2]; exact hj
        have hz4 := zeq_spec (z4 j pv zv.cells[j] e2 (Array.getElem?_eq_getElem hjz)) w (envOf C γ s w).okf
        refine ⟨zv.cells[j], ?_, hz4.2, hz4.1⟩
        have hm : (i' * re.size + j) % zv.cells.size = j := by rw [z2, Nat.mul_comm, Nat.mul_add_mod, Nat.mod_eq_of_lt hj]
        simp only [madeCells, Array.toList_map, List.getElem?_map]
        rw [Array.toList_range, List.getElem?_range (by rw [hisz]; omega)]
        simp [hm, hjz]
    generalize madeCells zv.cells (n.toNat * i.size) = cur at *
    have hbel : Below w.heap.size w (w.alloc (.cells cur e)) := ⟨rfl, rfl, rfl, by simp, fun b hb => Below.heap_alloc w _ b hb⟩
    have hle := envLe_ext (C := C) (γ := γ) (s := s) hbel h.base
    refine .inr (.inl ⟨.slice (some ⟨w.heap.size, 0, none⟩) (List.replicate n.toNat z).length (List.replicate n.toNat z).length, w.alloc (.cells cur e), ?_, hbel, .fsl ?_⟩)
    · simp only [execOp, ho, hlr.int_inv, hcr.int_inv]
      simp [hrun]
    have hf := hflat.mono hle
    have hblk : (w.alloc (.cells cur e)).heap[w.heap.size]? = some (.cells cur e (0, 0)) := heap_alloc_at _ _
    refine .sl _ w.heap.size 0 _ re.size (fun i j => cur.getD (i * re.size + j) undef) ⟨h.top, by simp, fun hx => ?_, fun k c hc hk => ?_⟩ hsz (Nat.le_refl _) hf.row_ (fun i j row pv e1 e2 => ?_) (fun i j row pv e1 e2 => ?_)
    · have := hX _ hx; have := h.top; omega
    · have := (h.base k c _ hc hk).2; omega
    · obtain ⟨v, f1, f2, f3⟩ := hf.at_ i j row pv e1 e2
      rw [Array.getElem?_toList] at f1
      show (w.alloc (.cells cur e)).cell? _ = _ ∧ _
      rw [cell_of_cells hblk, Nat.zero_add, f1]
      simp [f1, f2]
    · obtain ⟨v, f1, f2, f3⟩ := hf.at_ i j row pv e1 e2
      rw [Array.getElem?_toList] at f1
      have : cur.getD (i * re.size + j) undef = v := by simp [f1]
      simp only [this]
      exact f3
  | idx ho hr hs hre hx hix h0 hrow hlen =>
    rename_i T e x ix r re rows row k n
    have hi := h.ev ix
    rw [hix] at hi
    have hxr := h.ev x
    obtain ⟨ok, hok, hd⟩ : ∃ ok : Nat → Prop, (∀ b, ok b → okOf C γ s w b) ∧ DRep w ok (.sl rows) (a.eval x) := by
      rcases hx with hx | hx
      · rw [hx] at hxr; cases hxr with | d hd => exact ⟨_, fun b hb => hb, hd⟩
      · rw [hx] at hxr; cases hxr with
        | d hd => cases hd
        | fsl hd => exact ⟨_, fun b hb => hb.2, hd⟩
    have hlt : n.toNat < rows.length := (List.getElem?_eq_some_iff.1 hrow).1
    rcases sl_inv (E := envOf C γ s w) hd with ⟨rfl, _⟩ | ⟨b, off, cap, sz, vals, hv, h1, h2, h3, h4, h5, h6⟩
    · simp at hrow
    · have hsz : sz = re.size := by rw [← hlen]; exact (h4 row (List.mem_of_getElem? hrow)).symm
      refine .inl ⟨.pointer (some ⟨b, (off + n.toNat * sz) + 0, none⟩), ?_, .d (.dref row 0 b (off + n.toNat * sz) (fun j => vals n.toNat j) (hok b h1) (fun j c e => h5 _ _ _ _ hrow e) (fun j c e => (h6 _ _ _ _ hrow e).weaken hok))⟩
      simp only [execOp, ho, hv, hi.int_inv]
      refine wrapv ?_
      rw [snd_idx hL hr hs hre h0 (by omega), Addr.add_mk, hsz]
      rfl
  | idxA ho hr hs hre hx hown hsz hix h0 hlt =>
    rename_i T e x ix r re k n st g i m c
    have hi := h.ev ix
    rw [hix] at hi
    have hxr := h.ev x
    rw [hx] at hxr
    rcases h.als_at hxr hown with ⟨_, _, h3, _⟩ | ⟨b, cap, cur, h1, hv, h3, h4, h5, h6, h7⟩
    · omega
    · obtain ⟨cur', g1, g2, _⟩ := h.site_at hown h1 (h.cells_sz hown h1 h3)
      refine .inl ⟨.pointer (some ⟨b, (i + n.toNat) * c.sz + 0, none⟩), ?_, .ptr (by simp [envOf, hown]) fun _ l hl => ?_⟩
      · simp only [execOp, ho, hv, hi.int_inv]
        refine wrapv ?_
        rw [snd_idx hL hr hs hre h0 hlt, Addr.add_mk, hsz, Nat.add_mul]
        rfl
      · simp [envOf, hown] at hl
        subst hl
        exact ⟨b, h1, rfl, by simp only at h7 ⊢; omega, g2⟩
  | ldp ho hr hx hown hrow hp =>
    rename_i T x r st g i j c row
    have hxr := h.ev x
    rw [hx] at hxr
    obtain ⟨b, hb, hv, hi, hj⟩ := h.ptr_at hxr hown
    obtain ⟨cur, hh, hsz, hle, hrows, hcell⟩ := h.site_at hown hb (by omega)
    obtain ⟨v, e1, e2⟩ := rep_part (E := envOf C γ s w) (P := P) (hL T r hr) (b := b) (off := i * c.sz) (fun i' => cur.getD (i * c.sz + i') undef) (fun i' c' e => by
      obtain ⟨u, e1, _, _⟩ := hcell i i' row c' hrow e
      show w.cell? _ = _
      rw [cell_of_cells hh, e1]; simp [e1]) (fun i' c' e => by
      obtain ⟨u, e1, _, e2⟩ := hcell i i' row c' hrow e
      have : cur.getD (i * c.sz + i') undef = u := by simp [e1]
      rw [this]
      exact e2.rep envOf_okfok) hp
    refine .inl ⟨v, ?_, e2⟩
    simp only [execOp, ho, hv]
    refine wrapv ?_
    simp only [Instr.loadAt, Instr.sureAddr, Sem.run_bind, Sem.run_pure, Result.andThen_ok]
    exact e1
  | slc ho hr hs hre hx hix h0 hle hlen =>
    rename_i T e x lo r re rows k n
    have hi := h.ev lo
    rw [hix] at hi
    have hxr := h.ev x
    rw [hx] at hxr
    cases hxr with | d hd =>
    obtain ⟨u1, u2, u3⟩ := run_sizes (P := P) (w := w) hL hr hs hre
    have run : ∀ (ad : Option Addr) (len cap : Nat), a.eval x = .slice ad len cap → n ≤ len → (execOp a.eval o).run P w = .ok (.value (sliced ad n.toNat len cap re.size)) w := by
      intro ad len cap hv hn
      simp only [execOp, ho, hv, hi.int_inv, Option.map_some, Option.map_none]
      refine wrapv ?_
      rw [run_sliceAt_slice w T _ _ _ _ u1, run_slice_l w T ad len cap u1 k n h0 hn, u3]
      rfl
    rcases sl_inv (E := envOf C γ s w) hd with ⟨rfl, ad, cap, hv⟩ | ⟨b, off, cap, sz, vals, hv, h1, h2, h3, h4, h5, h6⟩
    · have hn0 : n = 0 := by simp at hle; omega
      subst hn0
      refine .inl ⟨_, run ad 0 cap hv (by omega), ?_⟩
      simp only [sliced, Int.toNat_zero, Nat.sub_zero, List.drop_nil]
      exact .d (.sl0 _ _)
    · refine .inl ⟨_, run _ _ cap hv hle, .d ?_⟩
      have hlt : n.toNat ≤ rows.length := by omega
      unfold sliced
      by_cases hnil : rows.drop n.toNat = []
      · have : rows.length - n.toNat = 0 := by have := congrArg List.length hnil; simpa using this
        rw [hnil, this]
        exact .sl0 _ _
      · have hlt' : n.toNat < rows.length := by
          rcases Nat.lt_or_ge n.toNat rows.length with h' | h'
          · exact h'
          · exact absurd (List.drop_eq_nil_of_le h') hnil
        rw [if_neg (by omega)]
        have hsz : sz = re.size := by
          have h' := hlen rows[n.toNat] (by simp)
          rw [← h']; exact (h4 _ (by simp)).symm
        simp only [Option.map_some, Addr.add_mk]
        rw [← hsz]
        have := DRep.sl (w := w) (ok := (envOf C γ s w).ok) (rows.drop n.toNat) b (off + n.toNat * sz) (cap - n.toNat) sz (fun i j => vals (n.toNat + i) j) h1 h2 (by simp; omega) (fun row hr => h4 row (List.mem_of_mem_drop hr))
          (fun i j row c e1 e2 => by
            rw [List.getElem?_drop] at e1
            have := h5 _ _ _ _ e1 e2
            rwa [show off + (n.toNat + i) * sz + j = off + n.toNat * sz + i * sz + j by rw [Nat.add_mul]; omega] at this)
          (fun i j row c e1 e2 => by
            rw [List.getElem?_drop] at e1
            exact h6 _ _ _ _ e1 e2)
        rwa [List.length_drop] at this
  | slh ho hr hs hre hx hix h0 hle hlen =>
    rename_i T e x hi' r re rows k n
    have hi := h.ev hi'
    rw [hix] at hi
    have hxr := h.ev x
    rw [hx] at hxr
    cases hxr with | d hd =>
    obtain ⟨u1, u2, u3⟩ := run_sizes (P := P) (w := w) hL hr hs hre
    have run : ∀ (ad : Option Addr) (len cap : Nat), a.eval x = .slice ad len cap → n ≤ cap → (execOp a.eval o).run P w = .ok (.value (sliced ad 0 n.toNat cap re.size)) w := by
      intro ad len cap hv hn
      simp only [execOp, ho, hv, hi.int_inv, Option.map_some, Option.map_none]
      refine wrapv ?_
      rw [run_sliceAt_slice w T _ _ _ _ u1, run_slice_h w T ad len cap u1 k n h0 hn, u3]
      rfl
    rcases sl_inv (E := envOf C γ s w) hd with ⟨rfl, ad, cap, hv⟩ | ⟨b, off, cap, sz, vals, hv, h1, h2, h3, h4, h5, h6⟩
    · have hn0 : n = 0 := by simp at hle; omega
      subst hn0
      refine .inl ⟨_, run ad 0 cap hv (by omega), ?_⟩
      simp only [sliced, Int.toNat_zero, Nat.sub_zero, List.take_nil]
      exact .d (.sl0 _ _)
    · refine .inl ⟨_, run _ _ cap hv (by omega), .d ?_⟩
      have hlt : n.toNat ≤ rows.length := by omega
      unfold sliced
      have hz : (if cap = 0 then some (⟨b, off, none⟩ : Addr) else (some (⟨b, off, none⟩ : Addr)).map fun x => x.add (0 * re.size)) = some ⟨b, off, none⟩ := by
        split
        · rfl
        · simp [Addr.add]
      rw [hz, Nat.sub_zero, Nat.sub_zero]
      have hlen' : (rows.take n.toNat).length = n.toNat := by simp; omega
      have := DRep.sl (w := w) (ok := (envOf C γ s w).ok) (rows.take n.toNat) b off cap sz vals h1 h2 (by omega) (fun row hr => h4 row (List.mem_of_mem_take hr))
        (fun i j row c e1 e2 => by
          rw [List.getElem?_take] at e1
          split at e1
          · exact h5 _ _ _ _ e1 e2
          · cases e1)
        (fun i j row c e1 e2 => by
          rw [List.getElem?_take] at e1
          split at e1
          · exact h6 _ _ _ _ e1 e2
          · cases e1)
      rwa [hlen'] at this
  | call ho hf hres hc hb hret =>
    rename_i fop args tys f caps pargs Cd b
    have hfv := h.ev fop
    rw [hf] at hfv
    obtain ⟨vs, hv, hl, hd⟩ := hfv.clo_inv
    have hspec := resL_spec (S := Rep (envOf C γ s w)) (R := fun b => DRep w (okArg C γ s w b)) (fun b1 b2 c v => ⟨fun hd => hd.weaken fun k => okArg_and.1, fun hd => hd.weaken fun k => okArg_and.2⟩) (fun c d Cd b v e1 e2 e3 => res_spec hX h 4 c d Cd b v e1 e2 e3) (args.toList.map s.ev ++ caps) pargs Cd b (args.toList.map a.eval ++ vs) hres hc (by simp [hl]) (fun i c v e1 e2 => by
      rw [List.getElem?_append] at e1 e2
      simp only [List.length_map] at e1 e2
      split at e1
      · rename_i hlt
        rw [if_pos hlt] at e2
        rw [List.getElem?_map] at e1 e2
        cases hx : args.toList[i]? with
        | none => rw [hx] at e1; simp at e1
        | some x => rw [hx] at e1 e2; simp at e1 e2; subst e1; subst e2; exact h.ev x
      · rename_i hlt
        rw [if_neg hlt] at e2
        exact hd _ c v e1 e2)
    refine .inr (.inr ⟨f, _, run_call ho hv hret.1, ?_⟩)
    refine (hret.2 w (fun k => k < w.heap.size ∧ ¬ okArg C γ s w b k) _ (fun _ hb => hb.1) hspec.1 (fun i c v e1 e2 => (hspec.2 i c v e1 e2).weaken fun k hk => ⟨hk.1, fun hn => hn.2 hk⟩)).mono ?_
    rintro e w' ⟨v, rfl, hbel, hdr⟩
    exact ⟨v, rfl, hbel, .d (hdr.weaken fun k hk => ctxX (b := b) (m := .shared) hX h hbel k hk hb)⟩
  | callF ho hf hres hc hret =>
    rename_i fop args tys f caps pargs Cd b r
    have hfv := h.ev fop
    rw [hf] at hfv
    obtain ⟨vs, hv, hl, hd⟩ := hfv.clo_inv
    have hspec := resL_spec (S := Rep (envOf C γ s w)) (R := fun b => DRep w (okArg C γ s w b)) (fun b1 b2 c v => ⟨fun hd => hd.weaken fun k => okArg_and.1, fun hd => hd.weaken fun k => okArg_and.2⟩) (fun c d Cd b v e1 e2 e3 => res_spec hX h 4 c d Cd b v e1 e2 e3) (args.toList.map s.ev ++ caps) pargs Cd b (args.toList.map a.eval ++ vs) hres hc (by simp [hl]) (fun i c v e1 e2 => by
      rw [List.getElem?_append] at e1 e2
      simp only [List.length_map] at e1 e2
      split at e1
      · rename_i hlt
        rw [if_pos hlt] at e2
        rw [List.getElem?_map] at e1 e2
        cases hx : args.toList[i]? with
        | none => rw [hx] at e1; simp at e1
        | some x => rw [hx] at e1 e2; simp at e1 e2; subst e1; subst e2; exact h.ev x
      · rename_i hlt
        rw [if_neg hlt] at e2
        exact hd _ c v e1 e2)
    refine .inr (.inr ⟨f, _, run_call ho hv hret.1, ?_⟩)
    refine (hret.2 w (fun k => k < w.heap.size ∧ ¬ okArg C γ s w b k) _ (fun _ hb => hb.1) hspec.1 (fun i c v e1 e2 => (hspec.2 i c v e1 e2).weaken fun k hk => ⟨hk.1, fun hn => hn.2 hk⟩)).mono ?_
    rintro e w' ⟨v, rfl, hbel, hdr⟩
    refine ⟨v, rfl, hbel, Rep.frs envOf_okfok ?_⟩
    exact hdr.weaken fun k hk => ctxX (b := b) (m := .fresh) hX h hbel k hk

end
end Go.Pv

/- Lists of operations, regions, code, functions. -/
namespace Go.Pv
open Go.RowKit

/-- Whether an operation's guard lets it run. -/
inductive Wants (ops : Array Oper) (s : St) (o : Oper) : Bool → Prop
  | none (h : o.guard = none) : Wants ops s o true
  | yes {j d : Nat} {want : Bool} (h : o.guard = some (j, want)) (hd : (ops[j]?).bind (·.dst) = some d) (hr : s.reg d = .bool want) : Wants ops s o true
  | no {j d : Nat} {want b : Bool} (h : o.guard = some (j, want)) (hd : (ops[j]?).bind (·.dst) = some d) (hr : s.reg d = .bool b) (hne : b ≠ want) : Wants ops s o false
  | junk {j d : Nat} {want : Bool} (h : o.guard = some (j, want)) (hd : (ops[j]?).bind (·.dst) = some d) (hr : s.reg d = .raw undef) : Wants ops s o false

section
variable {P : Program} {L : Lay} {C : Ctx} {s : St} {a : Act} {w w' : World} {ops : Array Oper}

theorem Wants.spec (h : SimE C s a w) {o : Oper} {b : Bool} (hw : Wants ops s o b) : Region.wanted o (yielded ops a.tmps) = b := by
  obtain ⟨γ, h⟩ := h
  have key : ∀ {d : Nat} {t : Bool}, s.reg d = .bool t → a.tmps[d]? = some (.bool t) := by
    intro d t hr
    have h1 := h.regs d
    rw [hr] at h1
    have h2 := h1.bool_inv
    rcases Nat.lt_or_ge d a.tmps.size with hlt | hge
    · rw [Array.getElem?_eq_getElem hlt]
      simpa [hlt] using h2
    · rw [show a.tmps.getD d undef = undef by simp [Array.getElem?_eq_none hge]] at h2
      cases h2
  cases hw with
  | none h => simp [Region.wanted, h]
  | yes h hd hr => simp [Region.wanted, h, yielded, hd, key hr]
  | no h hd hr hne =>
    rename_i j d want b
    simp only [Region.wanted, h, yielded, hd, Option.bind_some, key hr]
    cases b <;> cases want <;> simp_all
  | junk h hd hr =>
    rename_i j d want
    have h1 := ‹Sim C γ s a w›.regs d
    rw [hr] at h1
    have h2 := h1.raw_inv
    simp only [Region.wanted, h, yielded, hd, Option.bind_some]
    rcases Nat.lt_or_ge d a.tmps.size with hlt | hge
    · have h3 : a.tmps[d]? = some undef := by rw [Array.getElem?_eq_getElem hlt]; simpa [hlt] using h2
      rw [h3]; rfl
    · rw [Array.getElem?_eq_none hge]; rfl

def POp (P : Program) (L : Lay) (s : St) (o : Oper) (K : St → Prop) : Prop := (∃ pv, QOp P L s o pv ∧ K (s.put o.dst pv)) ∨ (∃ s', Eff P L s o s' ∧ K s') ∨ Dem P L s o K

def POps (P : Program) (L : Lay) (ops : Array Oper) (K : St → Prop) : List Oper → St → Prop
  | [], s => K s
  | o :: rest, s => (Wants ops s o true ∧ POp P L s o (POps P L ops K rest)) ∨ (Wants ops s o false ∧ POps P L ops K rest (s.put o.dst (.raw undef)))

/-- What is given of the program and of the call. -/
structure Good (P : Program) (L : Lay) (C : Ctx) : Prop where
  lay : LOk P L
  x : ∀ b, C.X b → b < C.B
  mixed : P.follows .mixedOrders = true

theorem QOp.wp (hG : Good P L C) (h : SimE C s a w) {o : Oper} (hN : dstLt C.N o.dst = true) {pv : PV} (hq : QOp P L s o pv) {K : Act → World → Prop} {Q : Exit → Act → World → Prop} (hK : ∀ a' w', SimE C (s.put o.dst pv) a' w' → K a' w') : o.wp P a w K Q := by
  obtain ⟨γ, h⟩ := h
  unfold Oper.wp
  rcases hq.sound hG.lay hG.x h with ⟨v, h1, h2⟩ | ⟨v, w', h1, hb, h2⟩ | ⟨f, args, h1, h2⟩
  · rw [h1, Oper.upon_value]
    exact hK _ _ ⟨γ, h.put hN h2⟩
  · rw [h1, Oper.upon_value]
    exact hK _ _ ⟨γ, (h.ext hb).put hN h2⟩
  · rw [h1, Oper.upon_enter]
    refine h2.mono ?_
    rintro e w' ⟨v, rfl, hb, hr⟩
    exact hK _ _ ⟨γ, (h.ext hb).put hN hr⟩

theorem POp.wp (hG : Good P L C) (h : SimE C s a w) {o : Oper} (hN : dstLt C.N o.dst = true) {K' : St → Prop} (hq : POp P L s o K') {K : Act → World → Prop} {Q : Exit → Act → World → Prop} (hK : ∀ s' a' w', SimE C s' a' w' → K' s' → K a' w') : o.wp P a w K Q := by
  rcases hq with ⟨pv, h1, h2⟩ | ⟨s', h1, h2⟩ | h1
  · exact h1.wp hG h hN fun a' w' h' => hK _ a' w' h' h2
  · exact h1.sound hG.lay h hN fun a' w' h' => hK _ a' w' h' h2
  · exact h1.sound h hN hK

theorem SimE.put (h : SimE C s a w) {d : Option Nat} (hd : dstLt C.N d = true) (v : Value) : SimE C (s.put d (.raw v)) (a.put d v) w :=
  let ⟨γ, h⟩ := h
  ⟨γ, h.put hd (.d (.raw v))⟩

theorem POps.sound (hG : Good P L C) {K' : St → Prop} {Q : Exit → Act → World → Prop} (hK : ∀ s' a' w', SimE C s' a' w' → K' s' → Q .normal a' w') :
    ∀ (l : List Oper) (s : St) (a : Act) (w : World), (∀ o ∈ l, dstLt C.N o.dst = true) → SimE C s a w → POps P L ops K' l s → wpList P ops Q l a w
  | [], s, a, w, _, h, hp => hK s a w h hp
  | o :: l, s, a, w, hN, h, hp => by
    unfold wpList
    rcases hp with ⟨hw, hp⟩ | ⟨hw, hp⟩
    · rw [if_pos (hw.spec h)]
      exact .inl (hp.wp hG h (hN o (by simp)) fun s' a' w' h' hp' => POps.sound hG hK l s' a' w' (fun o' ho' => hN o' (by simp [ho'])) h' hp')
    · rw [if_neg (by rw [hw.spec h]; simp)]
      exact POps.sound hG hK l _ _ w (fun o' ho' => hN o' (by simp [ho'])) (h.put (hN o (by simp)) undef) hp

/-- An operation told by what the machine does. -/
def Sm (P : Program) (L : Lay) (s : St) (o : Oper) (K : St → Prop) : Prop := ∀ (C : Ctx) (a : Act) (w : World) (Q : Exit → Act → World → Prop), Good P L C → SimE C s a w → dstLt C.N o.dst = true → o.wp P a w (fun a' w' => ∃ s', SimE C s' a' w' ∧ K s') Q
/-- Operations in the order of the text, some of them told by what the machine does. -/
def PSem (P : Program) (L : Lay) (ops : Array Oper) (K : St → Prop) : List Oper → St → Prop
  | [], s => K s
  | o :: rest, s => (Wants ops s o true ∧ (POp P L s o (PSem P L ops K rest) ∨ Sm P L s o (PSem P L ops K rest))) ∨ (Wants ops s o false ∧ PSem P L ops K rest (s.put o.dst (.raw undef)))
theorem PSem.sound (hG : Good P L C) {K' : St → Prop} {Q : Exit → Act → World → Prop} (hK : ∀ s' a' w', SimE C s' a' w' → K' s' → Q .normal a' w') :
    ∀ (l : List Oper) (s : St) (a : Act) (w : World), (∀ o ∈ l, dstLt C.N o.dst = true) → SimE C s a w → PSem P L ops K' l s → wpList P ops Q l a w
  | [], s, a, w, _, h, hp => hK s a w h hp
  | o :: l, s, a, w, hN, h, hp => by
    unfold wpList
    rcases hp with ⟨hw, hp⟩ | ⟨hw, hp⟩
    · rw [if_pos (hw.spec h)]
      rcases hp with hp | hp
      · exact .inl (hp.wp hG h (hN o (by simp)) fun s' a' w' h' hp' => PSem.sound hG hK l s' a' w' (fun o' ho' => hN o' (by simp [ho'])) h' hp')
      · exact .inl (Oper.wp_mono (fun a' w' ⟨s', h', hp'⟩ => PSem.sound hG hK l s' a' w' (fun o' ho' => hN o' (by simp [ho'])) h' hp') (hp C a w _ hG h (hN o (by simp))))
    · rw [if_neg (by rw [hw.spec h]; simp)]
      exact PSem.sound hG hK l _ _ w (fun o' ho' => hN o' (by simp [ho'])) (h.put (hN o (by simp)) undef) hp

/-! ### A region that draws its order: the first operations leave all as it is but for their own temporary; the rest stands in one order -/
def PQuiet (P : Program) (L : Lay) (ops : Array Oper) (K : St → Prop) : List Oper → St → Prop
  | [], s => K s
  | o :: rest, s => (Wants ops s o true ∧ ∃ pv, QOp P L s o pv ∧ PQuiet P L ops K rest (s.put o.dst pv)) ∨ (Wants ops s o false ∧ PQuiet P L ops K rest (s.put o.dst (.raw undef)))

/-- What operation 'o' leaves in its temporary, in state 's'. -/
def Yld (P : Program) (L : Lay) (ops : Array Oper) (s : St) (o : Oper) (v : PV) : Prop := (Wants ops s o true ∧ QOp P L s o v) ∨ (Wants ops s o false ∧ v = .raw undef)

theorem res_own {s s' : St} (ho : s.own = s'.own) : ∀ (n : Nat) (c : PV), res s n c = res s' n c
  | 0, _ => rfl
  | n + 1, c => by
    have hf : res s n = res s' n := funext (res_own ho n)
    cases c <;> simp only [res, ho, hf]

theorem qv_congr {s s' : St} (ho : s.own = s'.own) {op : Op} (he : ∀ x ∈ op.operands, s.ev x = s'.ev x) : qv L s op = qv L s' op := by
  have hplen : plen s = plen s' := by funext v; cases v <;> simp only [plen, ho]
  have hone : oneC s = oneC s' := by funext v; cases v <;> simp only [oneC, ho]
  have hfill : ∀ fs l cs C, fillP L s fs l cs C = fillP L s' fs l cs C := by
    intro fs l
    induction l with
    | nil => intro cs C; rfl
    | cons p l ih =>
      intro cs C
      obtain ⟨i, x⟩ := p
      simp only [fillP, hone, ih]
  cases op <;> simp only [Op.operands] at he
  case move x => simp only [qv, he x (by simp)]
  case assign x => simp only [qv, he x (by simp)]
  case pick c x y => simp only [qv, he c (by simp), he x (by simp), he y (by simp)]
  case nilCheck x => simp only [qv, he x (by simp), ho]
  case binOp op T x y T' => simp only [qv, he x (by simp), he y (by simp)]
  case unOp op T x => simp only [qv, he x (by simp)]
  case convert src dst x => simp only [qv, he x (by simp)]
  case makeFunc fn first caps =>
    obtain ⟨caps⟩ := caps
    obtain ⟨first⟩ := first
    cases fn <;> cases first <;> simp only [qv]
    rw [List.map_congr_left (fun x hx => he x (by simp [hx]))]
  case fieldAddr T x f => simp only [qv, he x (by simp), ho]
  case field T x f => simp only [qv, he x (by simp)]
  case load T x => simp only [qv, he x (by simp), ho]
  case extract x i => simp only [qv, he x (by simp)]
  case index T x ix => simp only [qv, he x (by simp), he ix (by simp)]
  case build T parts =>
    have : (parts.toList.map fun p => (p.1, s.ev p.2)) = parts.toList.map fun p => (p.1, s'.ev p.2) := by
      apply List.map_congr_left
      intro p hp
      rw [he p.2 (by simp; exact ⟨p.1, by simpa using hp⟩)]
    simp only [qv, this, hfill]
  case call c =>
    unfold qv
    split
    any_goals (rename_i heq; cases heq; done)
    · rename_i x T heq
      cases heq
      have h1 := he x (by simp [Call.operands])
      simp only [h1, hplen]
    · rename_i x y tys heq
      cases heq
      simp only [he x (by simp [Call.operands]), he y (by simp [Call.operands])]
    · rename_i x y tys heq
      cases heq
      simp only [he x (by simp [Call.operands]), he y (by simp [Call.operands])]
    · rfl
  all_goals rfl

theorem oneL_own {s s' : St} (ho : s.own = s'.own) : ∀ l, oneL s l = oneL s' l
  | [] => rfl
  | c :: l => by
    have h1 : oneC s c = oneC s' c := by cases c <;> simp only [oneC, ho]
    simp only [oneL, h1, oneL_own ho l]
theorem QOp.congr {s s' : St} (ho : s.own = s'.own) {o : Oper} (he : ∀ x ∈ o.op.operands, s.ev x = s'.ev x) {v : PV} (h : QOp P L s o v) : QOp P L s' o v := by
  have hres : res s 4 = res s' 4 := funext (res_own ho 4)
  cases h with
  | v hq hc => exact .v (by rw [← qv_congr ho he]; exact hq) hc
  | seq h1 hT hx hy hl =>
    rw [h1] at he
    simp only [Op.operands] at he
    rename_i T x y T' ks us vs r neg
    exact .seq h1 hT (by rw [← he x (by simp)]; exact hx) (by rw [← he y (by simp)]; exact hy) hl
  | idx h1 hr hs hre hx hix h0 hrow hlen =>
    rw [h1] at he
    simp only [Op.operands] at he
    rename_i T e x ix r re rows row k n
    exact .idx h1 hr hs hre (by rw [← he x (by simp)]; exact hx) (by rw [← he ix (by simp)]; exact hix) h0 hrow hlen
  | idxA h1 hr hs hre hx hown hsz hix h0 hlt =>
    rw [h1] at he
    simp only [Op.operands] at he
    rename_i T e x ix r re k n st g i m c
    exact .idxA h1 hr hs hre (by rw [← he x (by simp)]; exact hx) (by rw [← ho]; exact hown) hsz (by rw [← he ix (by simp)]; exact hix) h0 hlt
  | ldp h1 hr hx hown hrow hp =>
    rw [h1] at he
    simp only [Op.operands] at he
    rename_i T x r st g i j c row
    exact .ldp h1 hr (by rw [← he x (by simp)]; exact hx) (by rw [← ho]; exact hown) hrow hp
  | slc h1 hr hs hre hx hix h0 hle hlen =>
    rw [h1] at he
    simp only [Op.operands] at he
    rename_i T e x lo r re rows k n
    exact .slc h1 hr hs hre (by rw [← he x (by simp)]; exact hx) (by rw [← he lo (by simp)]; exact hix) h0 hle hlen
  | slh h1 hr hs hre hx hix h0 hle hlen =>
    rw [h1] at he
    simp only [Op.operands] at he
    rename_i T e x hi r re rows k n
    exact .slh h1 hr hs hre (by rw [← he x (by simp)]; exact hx) (by rw [← he hi (by simp)]; exact hix) h0 hle hlen
  | call h1 hf hr hc hb hret =>
    rw [h1] at he
    simp only [Op.operands, Call.operands] at he
    rename_i fop args tys f caps pargs Cd b
    have hm : args.toList.map s.ev = args.toList.map s'.ev := List.map_congr_left fun x hx => he x (by simp; exact .inr (by simpa using hx))
    exact .call h1 (by rw [← he fop (by simp)]; exact hf) (by rw [← hm, ← hres]; exact hr) hc hb hret
  | callF h1 hf hr hc hret =>
    rw [h1] at he
    simp only [Op.operands, Call.operands] at he
    rename_i fop args tys f caps pargs Cd b r
    have hm : args.toList.map s.ev = args.toList.map s'.ev := List.map_congr_left fun x hx => he x (by simp; exact .inr (by simpa using hx))
    exact .callF h1 (by rw [← he fop (by simp)]; exact hf) (by rw [← hm, ← hres]; exact hr) hc hret
  | look h1 hr hs hrk hrv hz hz1 hx hown hk3 hky hkeys =>
    rename_i T K V r rk rv x y k g c z ok
    rw [h1] at he
    simp only [Op.operands] at he
    have hy := he y (by simp)
    rw [hy]
    exact .look h1 hr hs hrk hrv hz hz1 (by rw [← he x (by simp)]; exact hx) (by rw [← ho]; exact hown) hk3 (by rw [← hy]; exact hky) hkeys
  | entry h1 hx hown hk3 hrows =>
    rename_i x k g c ck cv rem
    rw [h1] at he
    simp only [Op.operands] at he
    exact .entry h1 (by rw [← he x (by simp)]; exact hx) (by rw [← ho]; exact hown) hk3 hrows
  | mks h1 hr hs hre hz hsz hl hc h0 hb h63 =>
    rw [h1] at he
    simp only [Op.operands] at he
    exact .mks h1 hr hs hre hz hsz (by rw [← he _ (by simp)]; exact hl) (by rw [← he _ (by simp)]; exact hc) h0 hb h63
  | slit h1 hr hs hre hz hsz hn hN hcells hp1 hp2 hkd =>
    rw [h1] at he
    simp only [Op.operands] at he
    rename_i T e r re n parts Pr
    have hp : ∀ p ∈ parts.toList, s.ev p.2 = s'.ev p.2 := fun p hp => he p.2 (by simp; exact ⟨p.1, by simpa using hp⟩)
    have hm : (parts.toList.map fun p => (s.ev p.2).cells.map (nrm 0)) = parts.toList.map fun p => (s'.ev p.2).cells.map (nrm 0) := List.map_congr_left fun p h => by rw [hp p h]
    have hf : (parts.toList.flatMap fun p => (s.ev p.2).cells) = parts.toList.flatMap fun p => (s'.ev p.2).cells := by
      rw [List.flatMap_def, List.flatMap_def]
      congr 1
      exact List.map_congr_left fun p h => by rw [hp p h]
    rw [hm]
    exact .slit h1 hr hs hre hz hsz hn hN (fun p h => by rw [← hp p h]; exact hcells p h) (by rw [← hf, ← oneL_own ho]; exact hp1) hp2 (by rw [← hf]; exact hkd)

theorem Wants.congr {s s' : St} {o : Oper} (he : ∀ t ∈ o.looksAt ops, s.reg t = s'.reg t) {b : Bool} (h : Wants ops s o b) : Wants ops s' o b := by
  have key : ∀ {j d : Nat} {want : Bool}, o.guard = some (j, want) → (ops[j]?).bind (·.dst) = some d → s.reg d = s'.reg d := by
    intro j d want hg hd
    exact he d (by simp [Oper.looksAt, hg, hd])
  cases h with
  | none h => exact .none h
  | yes h hd hr => exact .yes h hd (by rw [← key h hd]; exact hr)
  | no h hd hr hne => exact .no h hd (by rw [← key h hd]; exact hr) hne
  | junk h hd hr => exact .junk h hd (by rw [← key h hd]; exact hr)

theorem Yld.congr {s s' : St} (ho : s.own = s'.own) {o : Oper} (he : ∀ t ∈ o.looksAt ops, s.reg t = s'.reg t) {v : PV} (h : Yld P L ops s o v) : Yld P L ops s' o v := by
  have hev : ∀ x ∈ o.op.operands, s.ev x = s'.ev x := by
    intro x hx
    cases x with
    | tmp t => exact he t (List.mem_append_left _ (List.mem_filterMap.2 ⟨.tmp t, by simpa using hx, rfl⟩))
    | _ => rfl
  rcases h with ⟨h1, h2⟩ | ⟨h1, h2⟩
  · exact .inl ⟨h1.congr he, h2.congr ho hev⟩
  · exact .inr ⟨h1.congr he, h2⟩

/-- The puts of the first operations. -/
def puts : List (Nat × PV) → St → St
  | [], s => s
  | (d, v) :: l, s => puts l (s.putR d v)

theorem puts_own : ∀ (l : List (Nat × PV)) (s : St), (puts l s).own = s.own
  | [], _ => rfl
  | (d, v) :: l, s => by rw [puts, puts_own l]; rfl

theorem puts_miss : ∀ (l : List (Nat × PV)) (s : St) (t : Nat), (∀ p ∈ l, p.1 ≠ t) → (puts l s).reg t = s.reg t
  | [], _, _, _ => rfl
  | (d, v) :: l, s, t, h => by
    rw [puts, puts_miss l _ t (fun p hp => h p (by simp [hp]))]
    show (bif Nat.beq t d then v else s.reg t) = _
    have : t ≠ d := fun e => h (d, v) (by simp) e.symm
    rw [nbeq_ne this]; rfl

theorem puts_hit : ∀ (l : List (Nat × PV)) (s : St) (j t : Nat) (v : PV), l[j]? = some (t, v) → (l.map (·.1)).Nodup → (puts l s).reg t = v
  | [], _, _, _, _, h, _ => by simp at h
  | (d, u) :: l, s, j, t, v, h, hn => by
    rw [puts]
    simp only [List.map_cons, List.nodup_cons] at hn
    cases j with
    | zero =>
      simp at h
      obtain ⟨rfl, rfl⟩ := h
      rw [puts_miss l _ d (fun p hp e => hn.1 (List.mem_map.2 ⟨p, hp, e⟩))]
      simp [St.putR]
    | succ j => exact puts_hit l _ j t v (by simpa using h) hn.2

theorem PQuiet.ylds {K : St → Prop} : ∀ (l : List Oper) (ds : List Nat) (s : St), l.map (·.dst) = ds.map some → PQuiet P L ops K l s →
    ∃ vs : List PV, vs.length = ds.length ∧ (∀ (k : Nat) (o : Oper) (v : PV), l[k]? = some o → vs[k]? = some v → Yld P L ops (puts ((ds.zip vs).take k) s) o v) ∧ K (puts (ds.zip vs) s)
  | [], ds, s, hd, h => by
    have : ds = [] := by simpa using hd.symm
    subst this
    exact ⟨[], rfl, fun k o v h => by simp at h, h⟩
  | o :: l, ds, s, hd, h => by
    cases ds with
    | nil => simp at hd
    | cons d ds =>
      simp only [List.map_cons, List.cons.injEq] at hd
      have main : ∀ v, Yld P L ops s o v → PQuiet P L ops K l (s.put o.dst v) → ∃ vs : List PV, vs.length = (d :: ds).length ∧ (∀ (k : Nat) (o' : Oper) (v : PV), (o :: l)[k]? = some o' → vs[k]? = some v → Yld P L ops (puts (((d :: ds).zip vs).take k) s) o' v) ∧ K (puts ((d :: ds).zip vs) s) := by
        intro v hy hq
        rw [hd.1] at hq
        obtain ⟨vs, h1, h2, h3⟩ := PQuiet.ylds l ds _ hd.2 hq
        refine ⟨v :: vs, by simp [h1], fun k o' v' e1 e2 => ?_, h3⟩
        cases k with
        | zero => simp at e1 e2; subst e1; subst e2; exact hy
        | succ k => exact h2 k o' v' (by simpa using e1) (by simpa using e2)
      rcases h with ⟨hw, pv, hq, hr⟩ | ⟨hw, hr⟩
      · exact main pv (.inl ⟨hw, hq⟩) hr
      · exact main (.raw undef) (.inr ⟨hw, rfl⟩) hr

/-- The looks at the text that make one walk do for every order. -/
def drawOk (ops : Array Oper) (n : Nat) (ds : List Nat) : Bool :=
  decide (n ≤ ops.size) && ((ops.toList.take n).map (·.dst) == ds.map some) && decide ds.Nodup &&
  ((List.range n).all fun i => match ops[i]? with
    | some o => (o.looksAt ops).all fun t => (List.range n).all fun j => !(ds[j]? == some t) || (decide (j < i) && o.after.any fun e => Region.binds .any e && e.on == j)
    | none => false) &&
  ((List.range ops.size).all fun i => match ops[i]? with
    | some o => o.after.all fun e => !Region.binds .any e || decide (e.on < i)
    | none => false) &&
  (decide (n = ops.size) || (Region.sinkB .any ops n && Region.chainB .any ops n)) &&
  Region.seqB .any ops (ops.size - n) n ((List.replicate n true ++ List.replicate (ops.size - n) false).toArray)

end
end Go.Pv

/- A region in a drawn order: one walk does for every order. -/
namespace Go.Pv
open Go.RowKit

section
variable {P : Program} {L : Lay} {C : Ctx} {s : St} {a : Act} {w w' : World} {ops : Array Oper}

structure DrawOk (ops : Array Oper) (n : Nat) (ds : List Nat) : Prop where
  le : n ≤ ops.size
  dst : (ops.toList.take n).map (·.dst) = ds.map some
  nodup : ds.Nodup
  looks : ∀ i o, i < n → ops[i]? = some o → ∀ t ∈ o.looksAt ops, ∀ j, j < n → ds[j]? = some t → j < i ∧ ∃ e ∈ o.after, Region.binds .any e = true ∧ e.on = j
  lex : ∀ i o, ops[i]? = some o → ∀ e ∈ o.after, Region.binds .any e = true → e.on < i
  tail : n = ops.size ∨ (Region.sinkB .any ops n = true ∧ Region.chainB .any ops n = true)
  seq : Region.seqB .any ops (ops.size - n) n ((List.replicate n true ++ List.replicate (ops.size - n) false).toArray) = true

theorem drawOk_spec {n : Nat} {ds : List Nat} (h : drawOk ops n ds = true) : DrawOk ops n ds := by
  simp only [drawOk, Bool.and_eq_true, decide_eq_true_eq, beq_iff_eq, Bool.or_eq_true] at h
  obtain ⟨⟨⟨⟨⟨⟨h1, h2⟩, h3⟩, h4⟩, h5⟩, h6⟩, h7⟩ := h
  refine ⟨h1, h2, h3, fun i o hi ho t ht j hj hd => ?_, fun i o ho e he hb => ?_, h6, h7⟩
  · have e1 := List.all_eq_true.1 h4 i (List.mem_range.2 hi)
    rw [ho] at e1
    have e2 := List.all_eq_true.1 e1 t ht
    have e3 := List.all_eq_true.1 e2 j (List.mem_range.2 hj)
    simp only [hd, beq_self_eq_true, Bool.not_true, Bool.false_or, Bool.and_eq_true, decide_eq_true_eq] at e3
    obtain ⟨e, he, hb⟩ := Array.any_eq_true'.1 e3.2
    simp only [Bool.and_eq_true, beq_iff_eq] at hb
    exact ⟨e3.1, e, he, hb.1, hb.2⟩
  · have hi : i < ops.size := (Array.getElem?_eq_some_iff.1 ho).1
    have e1 := List.all_eq_true.1 h5 i (List.mem_range.2 hi)
    rw [ho] at e1
    have e2 := Array.all_eq_true_iff_forall_mem.1 e1 e he
    simpa [hb] using e2

/-- The state behind some of the first operations. -/
structure Agr (ds : List Nat) (vs : List PV) (n : Nat) (listed : Array Bool) (s0 s : St) : Prop where
  own : s.own = s0.own
  hit : ∀ t j, j < n → listed.getD j false = true → ds[j]? = some t → vs[j]? = some (s.reg t)
  miss : ∀ t, (∀ j, j < n → listed.getD j false = true → ds[j]? ≠ some t) → s.reg t = s0.reg t

theorem St.ext' {s s' : St} (h1 : s.reg = s'.reg) (h2 : s.own = s'.own) : s = s' := by
  cases s; cases s'; simp_all

theorem zip_get {ds : List Nat} {vs : List PV} (_hl : vs.length = ds.length) {j t : Nat} {v : PV} (h1 : ds[j]? = some t) (h2 : vs[j]? = some v) : (ds.zip vs)[j]? = some (t, v) := by
  rw [List.getElem?_zip_eq_some]; exact ⟨h1, h2⟩

theorem draw_any (hG : Good P L C) {n : Nat} {ds : List Nat} (hd : DrawOk ops n ds) {K' : St → Prop} {Q : Exit → Act → World → Prop} (hK : ∀ s' a' w', SimE C s' a' w' → K' s' → Q .normal a' w')
    (hN : ∀ o ∈ ops.toList, dstLt C.N o.dst = true) {s0 : St} {vs : List PV} (hvl : vs.length = ds.length)
    (hy : ∀ (k : Nat) (o : Oper) (v : PV), (ops.toList.take n)[k]? = some o → vs[k]? = some v → Yld P L ops (puts ((ds.zip vs).take k) s0) o v)
    (hend : POps P L ops K' (ops.toList.drop n) (puts (ds.zip vs) s0)) :
    ∀ (m : Nat) (U : List Nat) (listed : Array Bool) (s : St) (a : Act) (w : World), U.length = m → U.Nodup → (∀ i, i ∈ U ↔ i < n ∧ listed.getD i true = false) → HeadInv .any ops n listed → Agr ds vs n listed s0 s → SimE C s a w →
      wpAny P .any ops Q (m + (ops.size - n)) listed a w := by
  have hdl : ds.length = n := by
    have := congrArg List.length hd.dst
    simp at this
    have h1 := hd.le
    omega
  have hdi : ∀ i o, i < n → ops[i]? = some o → ∃ d, ds[i]? = some d ∧ o.dst = some d := by
    intro i o hi ho
    have h1 : i < ds.length := by omega
    refine ⟨ds[i], List.getElem?_eq_getElem h1, ?_⟩
    have h2 : ((ops.toList.take n).map (·.dst))[i]? = (ds.map some)[i]? := by rw [hd.dst]
    rw [List.getElem?_map, List.getElem?_map, List.getElem?_take, if_pos hi, List.getElem?_eq_getElem h1] at h2
    have h3 : ops.toList[i]? = some o := by simpa using ho
    rw [h3] at h2
    simpa using h2
  have hzn : (ds.zip vs).map (·.1) = ds := by rw [List.map_fst_zip (by omega)]
  have hinj : ∀ (i j t : Nat), ds[i]? = some t → ds[j]? = some t → i = j := by
    intro i j t h1 h2
    have hi := (List.getElem?_eq_some_iff.1 h1).1
    have hj := (List.getElem?_eq_some_iff.1 h2).1
    have e1 := (List.getElem?_eq_some_iff.1 h1).2
    have e2 := (List.getElem?_eq_some_iff.1 h2).2
    exact (List.getElem_inj hd.nodup).1 (e1.trans e2.symm)
  intro m
  induction m with
  | zero =>
    intro U listed s a w hU _ hmem inv agr h
    have hU0 : U = [] := List.eq_nil_of_length_eq_zero hU
    subst hU0
    have hall : ∀ i, i < n → listed.getD i true = true := fun i hi => by
      cases hb : listed.getD i true with
      | true => rfl
      | false => have := (hmem i).2 ⟨hi, hb⟩; cases this
    have hle := hd.le
    have hlist : listed = (List.replicate n true ++ List.replicate (ops.size - n) false).toArray := by
      apply Array.ext
      · rw [inv.size]; simp; omega
      · intro i h1 h2
        have hi : i < ops.size := by rw [← inv.size]; exact h1
        by_cases hlt : i < n
        · have := hall i hlt
          simp [h1] at this
          simp [this, hlt]
        · have := inv.tail i (by omega) hi
          simp [h1] at this
          simp [this, List.getElem_append, hlt]
    have hs : s = puts (ds.zip vs) s0 := by
      refine St.ext' (funext fun t => ?_) (by rw [puts_own]; exact agr.own)
      by_cases ht : ∃ j : Nat, ds[j]? = some t
      · obtain ⟨j, hj⟩ := ht
        have hjn : j < n := by rw [← hdl]; exact (List.getElem?_eq_some_iff.1 hj).1
        have hl : listed.getD j false = true := by
          have h1 := hall j hjn
          have h2 : j < listed.size := by rw [inv.size]; omega
          simp [h2] at h1 ⊢; exact h1
        have hv := agr.hit t j hjn hl hj
        exact (puts_hit _ s0 j t _ (zip_get hvl hj hv) (by rw [hzn]; exact hd.nodup)).symm
      · rw [agr.miss t (fun j _ _ hj => ht ⟨j, hj⟩), puts_miss]
        intro p hp e
        obtain ⟨j, hj, rfl⟩ := List.getElem_of_mem hp
        refine ht ⟨j, ?_⟩
        have : ((ds.zip vs).map (·.1))[j]? = some t := by rw [List.getElem?_map, List.getElem?_eq_getElem hj]; simp [← e]
        rwa [hzn] at this
    rw [Nat.zero_add]
    have hlen : (ops.toList.drop n).length = ops.size - n := by simp
    have := wpAny_of_seq (P := P) (ops := ops) (md := .any) (Q' := Q) (ops.toList.drop n) n listed a w (fun j => by rw [List.getElem?_drop]; simp) (by rw [hlen, hlist]; exact hd.seq)
      (POps.sound hG hK _ s a w (fun o ho => hN o (List.mem_of_mem_drop ho)) h (by rw [hs]; exact hend))
    rwa [hlen] at this
  | succ m ih =>
    intro U listed s a w hU hnd hmem inv agr h
    have hlt_in : ∀ i, i ∈ Region.ready .any ops listed → i < n := by
      intro i hi
      have hisz : i < ops.size := by
        obtain ⟨_, o, ho, _⟩ := mem_ready.1 hi
        exact (Array.getElem?_eq_some_iff.1 ho).1
      rcases hd.tail with ht | ⟨ht1, ht2⟩
      · omega
      · rcases Nat.lt_or_ge i n with h1 | h1
        · exact h1
        · cases hUU : U with
          | nil => rw [hUU] at hU; simp at hU
          | cons u U' =>
            have hu := (hmem u).1 (by rw [hUU]; simp)
            exact absurd hi (tail_waits ht1 ht2 (by omega) inv _ u rfl hu.1 hu.2 i h1)
    rw [show m + 1 + (ops.size - n) = (m + (ops.size - n)) + 1 by omega]
    refine ⟨fun hnil => ?_, fun i hi => ?_⟩
    · exfalso
      -- the least one that has not come up is ready
      obtain ⟨i0, hi0, hmin⟩ : ∃ i ∈ U, ∀ j ∈ U, i ≤ j := by
        have hne : ∃ i, i ∈ U := by
          cases hUU : U with
          | nil => rw [hUU] at hU; simp at hU
          | cons u U' => exact ⟨u, by simp⟩
        have hd' : ∀ k, (∃ i, i ∈ U ∧ i ≤ k) → ∃ i ∈ U, ∀ j ∈ U, i ≤ j := by
          intro k
          induction k with
          | zero => rintro ⟨i, hi, h0⟩; exact ⟨i, hi, fun j _ => by omega⟩
          | succ k ihk =>
            rintro ⟨i, hi, hk⟩
            by_cases hex : ∃ j, j ∈ U ∧ j ≤ k
            · exact ihk hex
            · refine ⟨i, hi, fun j hj => ?_⟩
              rcases Nat.lt_or_ge j i with h1 | h1
              · exact absurd ⟨j, hj, by omega⟩ hex
              · exact h1
        obtain ⟨i, hi⟩ := hne
        exact hd' i ⟨i, hi, Nat.le_refl _⟩
      have hu := (hmem i0).1 hi0
      have hsz : i0 < ops.size := by have := hd.le; omega
      have hr : i0 ∈ Region.ready .any ops listed := by
        refine mem_ready.2 ⟨hu.2, ops[i0], Array.getElem?_eq_getElem hsz, fun e he hb => ?_⟩
        have hlt := hd.lex i0 _ (Array.getElem?_eq_getElem hsz) e he hb
        cases hl : listed.getD e.on true with
        | false =>
          have := hmin e.on ((hmem e.on).2 ⟨by omega, hl⟩)
          omega
        | true =>
          have h2 : e.on < listed.size := by rw [inv.size]; omega
          simp [h2] at hl ⊢; exact hl
      rw [hnil] at hr
      cases hr
    · have hin := hlt_in i hi
      obtain ⟨hun, o, ho, hall⟩ := mem_ready.1 hi
      obtain ⟨d, hdd, hod⟩ := hdi i o hin ho
      have hiv : i < vs.length := by omega
      have hyi := hy i o vs[i] (by rw [List.getElem?_take, if_pos hin]; simpa using ho) (List.getElem?_eq_getElem hiv)
      have hisz : i < listed.size := by rw [inv.size]; exact (Array.getElem?_eq_some_iff.1 ho).1
      -- what it looks at reads as it does in the order of the text
      have hsame : ∀ t ∈ o.looksAt ops, (puts ((ds.zip vs).take i) s0).reg t = s.reg t := by
        intro t ht
        by_cases hx : ∃ j : Nat, j < n ∧ ds[j]? = some t
        · obtain ⟨j, hjn, hj⟩ := hx
          obtain ⟨hji, e, he, hb, hon⟩ := hd.looks i o hin ho t ht j hjn hj
          have hl : listed.getD j false = true := by rw [← hon]; exact hall e he hb
          have hv := agr.hit t j hjn hl hj
          refine puts_hit _ s0 j t _ ?_ ?_
          · rw [List.getElem?_take, if_pos hji]; exact zip_get hvl hj hv
          · rw [List.map_take, hzn]; exact hd.nodup.sublist (List.take_sublist _ _)
        · rw [agr.miss t (fun j hj _ hdj => hx ⟨j, hj, hdj⟩), puts_miss]
          intro p hp e
          have hp' := List.mem_of_mem_take hp
          obtain ⟨j, hj, rfl⟩ := List.getElem_of_mem hp'
          refine hx ⟨j, by simp at hj; omega, ?_⟩
          have : ((ds.zip vs).map (·.1))[j]? = some t := by rw [List.getElem?_map, List.getElem?_eq_getElem hj]; simp [← e]
          rwa [hzn] at this
      have hyl : Yld P L ops s o vs[i] := hyi.congr (by rw [puts_own]; exact agr.own.symm) hsame
      have hnext : ∀ a' w', SimE C (s.put o.dst vs[i]) a' w' → wpAny P .any ops Q (m + (ops.size - n)) (listed.setIfInBounds i true) a' w' := by
        intro a' w' h'
        have hUi : i ∈ U := (hmem i).2 ⟨hin, hun⟩
        refine ih (U.erase i) _ _ a' w' (by rw [List.length_erase_of_mem hUi]; omega) (hnd.erase i) (fun k => ?_) (inv.set hi hin) ?_ h'
        · rw [hnd.mem_erase_iff, hmem k]
          by_cases hki : k = i
          · subst hki
            simp [hisz]
          · rw [getD_set_ne true (Ne.symm hki)]
            exact ⟨fun x => x.2, fun x => ⟨hki, x⟩⟩
        · have hreg : ∀ t, (s.put o.dst vs[i]).reg t = if t = d then vs[i] else s.reg t := by
            intro t
            rw [hod]
            show (bif Nat.beq t d then vs[i] else s.reg t) = _
            by_cases htd : t = d
            · subst htd; simp
            · rw [nbeq_ne htd, if_neg htd]; rfl
          refine ⟨by rw [hod]; exact agr.own, fun t j hjn hl hj => ?_, fun t hm => ?_⟩
          · rw [hreg]
            by_cases htd : t = d
            · subst htd
              rw [if_pos rfl, hinj j i t hj hdd]
              exact List.getElem?_eq_getElem hiv
            · rw [if_neg htd]
              have hji : j ≠ i := by
                intro e; subst e
                rw [hdd] at hj
                exact htd (Option.some.inj hj).symm
              rw [getD_set_ne false (Ne.symm hji)] at hl
              exact agr.hit t j hjn hl hj
          · rw [hreg]
            have hli : (listed.setIfInBounds i true).getD i false = true := by simp [hisz]
            have htd : t ≠ d := by
              intro e; subst e
              exact hm i hin hli hdd
            rw [if_neg htd]
            refine agr.miss t fun j hjn hl hj => ?_
            by_cases hji : j = i
            · subst hji; exact hm j hjn hli hj
            · exact hm j hjn (by rw [getD_set_ne false (Ne.symm hji)]; exact hl) hj
      have hNo : dstLt C.N o.dst = true := hN o (by have := Array.mem_of_getElem? ho; simpa using this)
      unfold wpOp
      rw [ho]
      simp only
      rcases hyl with ⟨hw, hq⟩ | ⟨hw, hq⟩
      · rw [if_pos (hw.spec h)]
        exact .inl (hq.wp hG h hNo hnext)
      · rw [if_neg (by rw [hw.spec h]; simp)]
        refine hnext _ _ ?_
        rw [hq]
        exact h.put hNo undef

def PDraw (P : Program) (L : Lay) (ops : Array Oper) (K : St → Prop) (s : St) : Prop :=
  ∃ n ds, drawOk ops n ds = true ∧ PQuiet P L ops (fun s' => POps P L ops K (ops.toList.drop n) s') (ops.toList.take n) s

theorem PDraw.sound (hG : Good P L C) {K' : St → Prop} {Q : Exit → Act → World → Prop} (hK : ∀ s' a' w', SimE C s' a' w' → K' s' → Q .normal a' w') (hN : ∀ o ∈ ops.toList, dstLt C.N o.dst = true) {id : Nat}
    (h : SimE C s a w) (hq : PDraw P L ops K' s) : (Code.region id ops true).wp P Q a w := by
  obtain ⟨n, ds, hok, hq⟩ := hq
  have hd := drawOk_spec hok
  obtain ⟨vs, h1, h2, h3⟩ := PQuiet.ylds _ ds s hd.dst hq
  refine wp_region_any hG.mixed ?_
  have hle := hd.le
  obtain ⟨γ, h⟩ := h
  have hget : ∀ (j : Nat) (d : Bool), (Array.replicate ops.size false).getD j d = if j < ops.size then false else d := by
    intro j d
    by_cases hj : j < ops.size
    · simp [hj]
    · simp [hj]
  have := draw_any hG hd (Q := Q) hK hN h1 h2 h3 n (List.range n) (Array.replicate ops.size false) s a _ (by simp) List.nodup_range (fun i => by
      rw [List.mem_range, hget]
      constructor
      · intro hi; exact ⟨hi, by rw [if_pos (by omega)]⟩
      · exact fun x => x.1)
    ⟨by simp, (fun j oj _ hl => by rw [hget] at hl; split at hl <;> cases hl), fun t ht1 ht2 => by rw [hget, if_pos ht2]⟩
    ⟨rfl, (fun t j _ hl => by rw [hget] at hl; split at hl <;> cases hl), fun _ _ => rfl⟩ ⟨γ, h.ext (below_drew w)⟩
  rwa [show n + (ops.size - n) = ops.size by omega] at this

end
end Go.Pv

/- What operations yield where more memory is owned, and where only registers matter. -/
namespace Go.Pv
open Go.RowKit

/-- More is owned: what was owned is as it was. -/
def OwnLe (s s' : St) : Prop := ∀ k, s'.own k = s.own k ∨ (s.own k).2 = none
theorem OwnLe.some {s s' : St} (h : OwnLe s s') {k : Nat} {c : Cont} (hc : (s.own k).2 = some c) : s'.own k = s.own k := by
  rcases h k with h | h
  · exact h
  · rw [hc] at h; cases h

section
variable {P : Program} {L : Lay} {s s' : St}

theorem plen_le (h : OwnLe s s') {v : PV} {r : PV × Prop} (hq : plen s v = some r) : plen s' v = some r := by
  cases v <;> simp only [plen] at hq ⊢ <;> try exact hq
  split at hq
  · rename_i c hc
    rw [h.some hc, hc]; exact hq
  · cases hq
theorem oneC_le (h : OwnLe s s') {v : PV} {r : Prop} (hq : oneC s v = some r) : oneC s' v = some r := by
  cases v <;> simp only [oneC] at hq ⊢ <;> try exact hq
  all_goals
    split at hq
    · rename_i c hc
      rw [h.some hc, hc]; exact hq
    · cases hq
theorem oneL_le (h : OwnLe s s') : ∀ {l : List PV} {r : Prop}, oneL s l = some r → oneL s' l = some r
  | [], _, hq => hq
  | c :: l, r, hq => by
    simp only [oneL] at hq ⊢
    split at hq
    · rename_i A hA
      rw [oneC_le h hA]
      split at hq
      · rename_i B hB
        rw [oneL_le h hB]; exact hq
      · cases hq
    · cases hq
theorem fillP_le (h : OwnLe s s') {fs : List (Nat × TypeId)} : ∀ {l : List (Nat × PV)} {cs : List PV} {C : Prop} {r : List PV × Prop}, fillP L s fs l cs C = some r → fillP L s' fs l cs C = some r
  | [], _, _, _, hq => hq
  | (i, x) :: l, cs, C, r, hq => by
    simp only [fillP] at hq ⊢
    split at hq
    · rename_i off ft hf
      split at hq
      · rename_i rr hr
        split at hq
        · rename_i ds
          cases hb : (Nat.beq ds.length rr.size && Nat.ble (off + ds.length) cs.length) with
          | true => rw [hb] at hq; simp only [cond_true] at hq ⊢; exact fillP_le h hq
          | false => rw [hb] at hq; simp at hq
        · rename_i x' hx'
          split at hq
          · rename_i Pr hPr
            have := oneC_le h hPr
            cases x <;> simp only [this] <;> first
              | (cases hb : (Nat.beq 1 rr.size && Nat.ble (off + 1) cs.length) with
                 | true => rw [hb] at hq; simp only [cond_true] at hq ⊢; exact fillP_le h hq
                 | false => rw [hb] at hq; simp at hq)
              | exact absurd rfl (hx' _)
          · cases hq
      · cases hq
    · cases hq
theorem resL_le {f f' : PV → Option (PV × Prop × Fl)} (hf : ∀ c r, f c = some r → f' c = some r) : ∀ {l : List PV} {r}, resL f l = some r → resL f' l = some r
  | [], _, hq => hq
  | c :: l, r, hq => by
    simp only [resL] at hq ⊢
    split at hq
    · rename_i d C1 b1 h1
      rw [hf c _ h1]
      split at hq
      · rename_i ds C2 b2 h2
        simp only [resL_le hf h2]; exact hq
      · cases hq
    · cases hq
theorem res_le (h : OwnLe s s') : ∀ (n : Nat) (c : PV) (r : PV × Prop × Fl), res s n c = some r → res s' n c = some r
  | 0, _, _, hq => by simp [res] at hq
  | n + 1, c, r, hq => by
    have ih := res_le h n
    cases c <;> simp only [res] at hq ⊢ <;> try exact hq
    case als k g i m =>
      split at hq
      · rename_i c hc
        rw [h.some hc, hc]; exact hq
      · cases hq
    case mp k g =>
      split at hq
      · rename_i c hc
        rw [h.some hc, hc]; exact hq
      · cases hq
    case ptr k g i j =>
      split at hq
      · rename_i c hc
        rw [h.some hc, hc]
        simp only
        split at hq
        · rename_i row hrow
          cases hb : Nat.ble c.kind 1 with
          | true => rw [hb] at hq; exact hq
          | false =>
            rw [hb] at hq
            simp only [cond_false] at hq ⊢
            split at hq
            · rename_i row' C1 b1 h1
              rw [resL_le ih h1]; exact hq
            · cases hq
        · cases hq
      · cases hq
    all_goals
      split at hq
      · rename_i ds C1 b1 h1
        rw [resL_le ih h1]; exact hq
      · cases hq
theorem ev_eq (hr : s'.reg = s.reg) (x : Operand) : s'.ev x = s.ev x := by cases x <;> simp only [St.ev, hr]
theorem qv_le (h : OwnLe s s') (hr : s'.reg = s.reg) {op : Op} {r : PV × Prop} (hq : qv L s op = some r) : qv L s' op = some r := by
  have hev := ev_eq hr
  cases op
  case nilCheck x =>
    simp only [qv, hev] at hq ⊢
    split at hq <;> try exact hq
    rename_i k g i j hx
    split at hq
    · rename_i c hc
      rw [h.some hc, hc]; exact hq
    · cases hq
  case fieldAddr T x f =>
    simp only [qv, hev] at hq ⊢
    split at hq <;> try (cases hq; done)
    split at hq <;> try (cases hq; done)
    split at hq <;> try (cases hq; done)
    split at hq <;> try (cases hq; done)
    rename_i rf hrf
    cases hb : Nat.blt 0 rf.size with
    | false => rw [hb] at hq; cases hq
    | true =>
      rw [hb] at hq
      simp only [cond_true] at hq ⊢
      split at hq <;> try exact hq
      rename_i k g i j hx
      split at hq
      · rename_i c hc
        rw [h.some hc, hc]; exact hq
      · cases hq
  case load T x =>
    simp only [qv, hev] at hq ⊢
    split at hq <;> try (cases hq; done)
    split at hq <;> try exact hq
    rename_i k g i j hx
    split at hq
    · rename_i c hc
      rw [h.some hc, hc]; exact hq
    · cases hq
  case build T parts =>
    simp only [qv, hev] at hq ⊢
    split at hq <;> try (cases hq; done)
    split at hq <;> try (cases hq; done)
    rename_i fs z hfs hz
    cases hb : fs.all (fun p => (L p.2).isSome) with
    | false => rw [hb] at hq; cases hq
    | true =>
      rw [hb] at hq
      simp only [cond_true] at hq ⊢
      split at hq
      · rename_i cs C hf
        rw [fillP_le h hf]; exact hq
      · cases hq
  case call c =>
    unfold qv at hq ⊢
    split at hq
    any_goals (rename_i heq; cases heq; done)
    · rename_i x T heq
      cases heq
      simp only [hev]
      split at hq <;> try (cases hq; done)
      split at hq <;> try exact hq
      rename_i v _ hsl _
      exact plen_le h hq
    · rename_i x y tys heq
      cases heq
      simp only [hev]; exact hq
    · rename_i x y tys heq
      cases heq
      simp only [hev]; exact hq
    · cases hq
  case makeFunc fn first caps =>
    obtain ⟨caps⟩ := caps
    obtain ⟨first⟩ := first
    cases fn <;> cases first <;> simp only [qv] at hq ⊢ <;> try (cases hq; done)
    rw [← hq, List.map_congr_left fun x _ => hev x]
  all_goals (first | (simp only [qv, hev] at hq ⊢; exact hq) | (simp only [qv] at hq; cases hq) | exact hq)

theorem QOp.le (h : OwnLe s s') (hr : s'.reg = s.reg) {o : Oper} {v : PV} (hq : QOp P L s o v) : QOp P L s' o v := by
  have hev := ev_eq hr
  have hm : ∀ args : Array Operand, args.toList.map s'.ev = args.toList.map s.ev := fun args => List.map_congr_left fun x _ => hev x
  cases hq with
  | v hq hc => exact .v (qv_le h hr hq) hc
  | seq ho hT hx hy hl => exact .seq ho hT (by rw [hev]; exact hx) (by rw [hev]; exact hy) hl
  | idx ho h1 h2 h3 hx hix h0 hrow hlen => exact .idx ho h1 h2 h3 (by rw [hev]; exact hx) (by rw [hev]; exact hix) h0 hrow hlen
  | idxA ho h1 h2 h3 hx hown hsz hix h0 hlt => exact .idxA ho h1 h2 h3 (by rw [hev]; exact hx) (by rw [h.some (by rw [hown])]; exact hown) hsz (by rw [hev]; exact hix) h0 hlt
  | ldp ho h1 hx hown hrow hp => exact .ldp ho h1 (by rw [hev]; exact hx) (by rw [h.some (by rw [hown])]; exact hown) hrow hp
  | slc ho h1 h2 h3 hx hix h0 hle hlen => exact .slc ho h1 h2 h3 (by rw [hev]; exact hx) (by rw [hev]; exact hix) h0 hle hlen
  | slh ho h1 h2 h3 hx hix h0 hle hlen => exact .slh ho h1 h2 h3 (by rw [hev]; exact hx) (by rw [hev]; exact hix) h0 hle hlen
  | call ho hf hres hc hb hret => exact .call ho (by rw [hev]; exact hf) (by rw [hm]; exact resL_le (res_le h 4) hres) hc hb hret
  | callF ho hf hres hc hret => exact .callF ho (by rw [hev]; exact hf) (by rw [hm]; exact resL_le (res_le h 4) hres) hc hret
  | look ho hr0 hs hrk hrv hz hz1 hx hown hk3 hky hkeys =>
    rename_i T K V r rk rv x y k g c z ok
    rw [← hev y]
    exact .look ho hr0 hs hrk hrv hz hz1 (by rw [hev]; exact hx) (by rw [h.some (by rw [hown])]; exact hown) hk3 (by rw [hev]; exact hky) hkeys
  | entry ho hx hown hk3 hrows => exact .entry ho (by rw [hev]; exact hx) (by rw [h.some (by rw [hown])]; exact hown) hk3 hrows
  | mks ho h1 h2 h3 hz hsz hl hc h0 hb h63 => exact .mks ho h1 h2 h3 hz hsz (by rw [hev]; exact hl) (by rw [hev]; exact hc) h0 hb h63
  | slit ho h1 h2 h3 hz hsz hn hN hcells hp1 hp2 hkd =>
    rename_i T e r re n parts Pr
    have e1 : (parts.toList.map fun p => (s.ev p.2).cells.map (nrm 0)) = parts.toList.map fun p => (s'.ev p.2).cells.map (nrm 0) := List.map_congr_left fun p _ => by rw [hev]
    have e2 : (parts.toList.flatMap fun p => (s.ev p.2).cells) = parts.toList.flatMap fun p => (s'.ev p.2).cells := by
      rw [List.flatMap_def, List.flatMap_def]
      congr 1
      exact List.map_congr_left fun p _ => by rw [hev]
    rw [e1]
    exact .slit ho h1 h2 h3 hz hsz hn hN (fun p hp => by rw [hev]; exact hcells p hp) (by rw [← e2]; exact oneL_le h hp1) hp2 (by rw [← e2]; exact hkd)

/-- Operations for which only registers matter. -/
def ownFree : Op → Bool
  | .move _ | .assign _ | .pick .. | .binOp .. | .unOp .. | .extract .. => true
  | _ => false
/-- Operations that may come late, if what they look at is data. -/
def lateOk : Op → Bool
  | .load .. | .fieldAddr .. | .indexAddr .. => true
  | .call ⟨.builtin .min, ⟨[_, _]⟩, _⟩ => true
  | .call ⟨.builtin .max, ⟨[_, _]⟩, _⟩ => true
  | op => ownFree op
def PV.isD : PV → Bool
  | .dref .. | .sl _ | .fsl _ => true
  | _ => false
def dataAt (s : St) : Op → Bool
  | .load _ x => (s.ev x).isD
  | .fieldAddr _ x _ => (s.ev x).isD
  | .indexAddr _ x _ => (s.ev x).isD
  | .call ⟨.builtin .min, ⟨[_, _]⟩, _⟩ => true
  | .call ⟨.builtin .max, ⟨[_, _]⟩, _⟩ => true
  | op => ownFree op
theorem dataAt_congr {s s' : St} {op : Op} (he : ∀ x ∈ op.operands, s.ev x = s'.ev x) (h : dataAt s op = true) : dataAt s' op = true := by
  cases op
  case call c =>
    obtain ⟨callee, ⟨args⟩, tys⟩ := c
    cases callee
    case builtin b => cases b <;> rcases args with _ | ⟨x, _ | ⟨y, _ | ⟨z, l⟩⟩⟩ <;> exact h
    all_goals exact h
  all_goals
    simp only [Op.operands] at he
    simp only [dataAt] at h ⊢
    first
    | exact h
    | (rw [← he _ (by simp)]; exact h)
def PV.isNil : PV → Bool
  | .nil => true
  | _ => false
theorem QOp.free {o : Oper} {v : PV} (hf : ownFree o.op = true) (he : ∀ x ∈ o.op.operands, s.ev x = s'.ev x) (hq : QOp P L s o v) : QOp P L s' o v := by
  cases hq with
  | v hq hc =>
    refine .v ?_ hc
    rw [← hq]
    cases hop : o.op <;> rw [hop] at hf he <;> simp only [ownFree, Bool.false_eq_true] at hf <;> simp only [Op.operands] at he
    case move x => simp only [qv, he x (by simp)]
    case assign x => simp only [qv, he x (by simp)]
    case pick c x y => simp only [qv, he c (by simp), he x (by simp), he y (by simp)]
    case binOp op T x y T' => simp only [qv, he x (by simp), he y (by simp)]
    case unOp op T x => simp only [qv, he x (by simp)]
    case extract x i => simp only [qv, he x (by simp)]
  | seq ho hT hx hy hl =>
    rw [ho] at he
    simp only [Op.operands] at he
    exact .seq ho hT (by rw [← he _ (by simp)]; exact hx) (by rw [← he _ (by simp)]; exact hy) hl
  | idx ho => rw [ho] at hf; cases hf
  | idxA ho => rw [ho] at hf; cases hf
  | ldp ho => rw [ho] at hf; cases hf
  | slc ho => rw [ho] at hf; cases hf
  | slh ho => rw [ho] at hf; cases hf
  | call ho => rw [ho] at hf; cases hf
  | callF ho => rw [ho] at hf; cases hf
  | slit ho => rw [ho] at hf; cases hf
  | mks ho => rw [ho] at hf; cases hf
  | look ho => rw [ho] at hf; cases hf
  | entry ho => rw [ho] at hf; cases hf
theorem QOp.free2 {o : Oper} {v : PV} (hf : dataAt s o.op = true) (he : ∀ x ∈ o.op.operands, s.ev x = s'.ev x) (hq : QOp P L s o v) : QOp P L s' o v := by
  by_cases hfree : ownFree o.op = true
  · exact QOp.free hfree he hq
  · cases hq with
    | v hq hc =>
      refine .v ?_ hc
      rw [← hq]
      cases hop : o.op
      case call c =>
        rw [hop] at hf he
        obtain ⟨callee, ⟨args⟩, tys⟩ := c
        unfold dataAt at hf
        split at hf
        any_goals (rename_i heq; cases heq; done)
        · rename_i heq
          cases heq
          rename_i x y
          simp only [Op.operands, Call.operands] at he
          simp only [qv, he x (by simp), he y (by simp)]
        · rename_i heq
          cases heq
          rename_i x y
          simp only [Op.operands, Call.operands] at he
          simp only [qv, he x (by simp), he y (by simp)]
        · simp only [ownFree] at hf; cases hf
      all_goals
        rw [hop] at hf he hfree
        simp only [dataAt] at hf
        simp only [Op.operands] at he
        first
        | (exfalso; exact hfree hf)
        | (simp only [ownFree] at hf; cases hf)
        | skip
      case load T x =>
        have hx := he x (by simp)
        rw [hx] at hf
        simp only [qv, hx]
        generalize s'.ev x = y at hf
        cases y <;> simp only [PV.isD, Bool.false_eq_true] at hf <;> rfl
      case fieldAddr T x f =>
        have hx := he x (by simp)
        rw [hx] at hf
        simp only [qv, hx]
        generalize s'.ev x = y at hf
        cases y <;> simp only [PV.isD, Bool.false_eq_true] at hf <;> rfl
      case indexAddr T x i => simp [qv]
    | seq ho => rw [ho] at hfree; exact absurd rfl hfree
    | idx ho hr hs hre hx hix h0 hrow hlen =>
      refine .idx ho hr hs hre (by rw [← he _ (by rw [ho]; simp [Op.operands])]; exact hx) (by rw [← he _ (by rw [ho]; simp [Op.operands])]; exact hix) h0 hrow hlen
    | idxA ho hr hs hre hx => rw [ho] at hf; simp only [dataAt, hx, PV.isD] at hf; cases hf
    | ldp ho hr hx => rw [ho] at hf; simp only [dataAt, hx, PV.isD] at hf; cases hf
    | slc ho => rw [ho] at hf; cases hf
    | slh ho => rw [ho] at hf; cases hf
    | call ho => rw [ho] at hf; cases hf
    | callF ho => rw [ho] at hf; cases hf
    | slit ho => rw [ho] at hf; cases hf
    | mks ho => rw [ho] at hf; cases hf
    | look ho => rw [ho] at hf; cases hf
    | entry ho => rw [ho] at hf; cases hf
end
end Go.Pv

/- Regions in a drawn order, in which variables are made at any time and plain moves may come late. -/
namespace Go.Pv
open Go.RowKit

section
variable {P : Program} {L : Lay} {C : Ctx} {s : St} {a : Act} {w w' : World} {ops : Array Oper}

theorem put_pair {o : Oper} {d : Nat} {pv : PV} {s u s0 u0 : St} (hd : o.dst = some d) (ho : s0.own = u0.own) (hs : s0.reg = s.reg) (hu : u0.reg = u.reg) :
    (s0.putR d pv).own = (u0.putR d pv).own ∧ (∀ t, o.dst = some t → (s0.putR d pv).reg t = (u0.putR d pv).reg t) ∧ ∀ t, o.dst ≠ some t → (s0.putR d pv).reg t = s.reg t ∧ (u0.putR d pv).reg t = u.reg t := by
  refine ⟨ho, fun t ht => ?_, fun t ht => ?_⟩
  · have : d = t := by rw [hd] at ht; exact Option.some.inj ht
    subst this
    show (bif Nat.beq d d then pv else _) = (bif Nat.beq d d then pv else _)
    simp
  · have : t ≠ d := fun e => ht (by rw [e]; exact hd)
    exact ⟨by show (bif Nat.beq t d then pv else s0.reg t) = _; rw [nbeq_ne this, hs]; rfl, by show (bif Nat.beq t d then pv else u0.reg t) = _; rw [nbeq_ne this, hu]; rfl⟩

/-- An effect seen from another state with the same memory. -/
theorem Eff.congr {u s u' : St} {o : Oper} (ho : u.own = s.own) (he : ∀ x ∈ o.op.operands, u.ev x = s.ev x) (h : Eff P L u o u') :
    ∃ s', Eff P L s o s' ∧ s'.own = u'.own ∧ (∀ t, o.dst = some t → s'.reg t = u'.reg t) ∧ ∀ t, o.dst ≠ some t → s'.reg t = s.reg t ∧ u'.reg t = u.reg t := by
  have hfin : ∀ d c, (u.fin d c).own = (s.fin d c).own := fun d c => by simp only [St.fin, St.setOwn, ho]
  have key : ∀ {d k : Nat} {c : Cont} {pv : PV}, o.dst = some d → ((s.fin k c).putR d pv).own = ((u.fin k c).putR d pv).own ∧ (∀ t, o.dst = some t → ((s.fin k c).putR d pv).reg t = ((u.fin k c).putR d pv).reg t) ∧
      ∀ t, o.dst ≠ some t → ((s.fin k c).putR d pv).reg t = s.reg t ∧ ((u.fin k c).putR d pv).reg t = u.reg t := by
    intro d k c pv hd
    refine ⟨(hfin k c).symm, fun t ht => ?_, fun t ht => ?_⟩
    · have : d = t := by rw [hd] at ht; exact Option.some.inj ht
      subst this
      show (bif Nat.beq d d then pv else _) = (bif Nat.beq d d then pv else _)
      simp
    · have : t ≠ d := fun e => ht (by rw [e]; exact hd)
      exact ⟨by show (bif Nat.beq t d then pv else s.reg t) = _; rw [nbeq_ne this]; rfl, by show (bif Nat.beq t d then pv else u.reg t) = _; rw [nbeq_ne this]; rfl⟩
  cases h with
  | nils e sz kd h1 hd hx =>
    rename_i x d
    have hx' : s.ev x = .nil := by rw [← he x (by rcases h1 with h1 | h1 <;> rw [h1] <;> simp [Op.operands])]; exact hx
    have hg : (u.own d).1 = (s.own d).1 := by rw [ho]
    rw [hg]
    exact ⟨_, .nils e sz kd h1 hd hx', key hd⟩
  | box h1 hd h2 h3 h0 =>
    rename_i T x d Pr
    have hx : u.ev x = s.ev x := he x (by rw [h1]; simp [Op.operands])
    have hg : (u.own d).1 = (s.own d).1 := by rw [ho]
    rw [hg, hx]
    exact ⟨_, .box h1 hd (by rw [← hx, ← oneL_own ho]; exact h2) h3 (by rw [← hx]; exact h0), key hd⟩
  | alloc h1 hd hr hz h0 =>
    rename_i T r z d
    have hg : (u.own d).1 = (s.own d).1 := by rw [ho]
    rw [hg]
    exact ⟨_, .alloc h1 hd hr hz h0, key hd⟩
  | store kd h1 hd hr hx hown hrow h2 h3 hsz hle hk hkd =>
    rename_i T r x y k g i j c row Pr
    have hx' : u.ev x = s.ev x := he x (by rw [h1]; simp [Op.operands])
    have hy' : u.ev y = s.ev y := he y (by rw [h1]; simp [Op.operands])
    rw [hy']
    refine ⟨_, .store kd h1 hd hr (by rw [← hx']; exact hx) (by rw [← ho]; exact hown) hrow (by rw [← hy', ← oneL_own ho]; exact h2) h3 (by rw [← hy']; exact hsz) hle hk (by rw [← hy']; exact hkd), (by simp only [St.setOwn, ho]), fun t ht => (by rw [hd] at ht; cases ht), fun t _ => ⟨rfl, rfl⟩⟩
  | appN h1 hd hr hs hre hz hsz hx hq hc2 hlen hb h63 =>
    rename_i T e r re x y d rows2 k2 Cd2
    have hx' : u.ev x = s.ev x := he x (by rw [h1]; simp [Op.operands, Call.operands])
    have hy' : u.ev y = s.ev y := he y (by rw [h1]; simp [Op.operands, Call.operands])
    have hg : (u.own d).1 = (s.own d).1 := by rw [ho]
    have hsrc : srcOf s (s.ev y) = some (rows2, k2, Cd2) := by rw [← hy', ← hq]; cases u.ev y <;> simp only [srcOf, ho]
    rw [hg]
    exact ⟨_, .appN h1 hd hr hs hre hz hsz (by rw [← hx']; exact hx) hsrc hc2 hlen hb h63, key hd⟩
  | app kd h1 hd hr hs hre hz hsz hx hown hm hcs hct hq hc2 hlen hk1 hk2 hb h63 =>
    rename_i T e r re x y d k g c m rows2 k2 Cd2
    have hx' : u.ev x = s.ev x := he x (by rw [h1]; simp [Op.operands, Call.operands])
    have hy' : u.ev y = s.ev y := he y (by rw [h1]; simp [Op.operands, Call.operands])
    have hsrc : srcOf s (s.ev y) = some (rows2, k2, Cd2) := by rw [← hy', ← hq]; cases u.ev y <;> simp only [srcOf, ho]
    exact ⟨_, .app kd h1 hd hr hs hre hz hsz (by rw [← hx']; exact hx) (by rw [← ho]; exact hown) hm hcs hct hsrc hc2 hlen hk1 hk2 hb h63, key hd⟩
  | make h1 hd hr hs hre hz hsz hl hc h0 hb h63 =>
    rename_i T e r re l c kl kc n z d
    have hl' : u.ev l = s.ev l := he l (by rw [h1]; simp [Op.operands])
    have hc' : u.ev c = s.ev c := he c (by rw [h1]; simp [Op.operands])
    have hg : (u.own d).1 = (s.own d).1 := by rw [ho]
    rw [hg]
    exact ⟨_, .make h1 hd hr hs hre hz hsz (by rw [← hl']; exact hl) (by rw [← hc']; exact hc) h0 hb h63, key hd⟩
  | slit kd h1 hd hr hs hre hz hsz hn hNs hcells h2 h3 hkd =>
    rename_i T e r re n d parts Pr
    have hp : ∀ p ∈ parts.toList, u.ev p.2 = s.ev p.2 := fun p hp => he p.2 (by rw [h1]; simp [Op.operands]; exact ⟨p.1, by simpa using hp⟩)
    have e1 : (parts.toList.map fun p => (u.ev p.2).cells.map (nrm kd)) = parts.toList.map fun p => (s.ev p.2).cells.map (nrm kd) := List.map_congr_left fun p h => by rw [hp p h]
    have e2 : (parts.toList.flatMap fun p => (u.ev p.2).cells) = parts.toList.flatMap fun p => (s.ev p.2).cells := by
      rw [List.flatMap_def, List.flatMap_def]
      congr 1
      exact List.map_congr_left fun p h => by rw [hp p h]
    have hg : (u.own d).1 = (s.own d).1 := by rw [ho]
    rw [hg, e1]
    exact ⟨_, .slit kd h1 hd hr hs hre hz hsz hn hNs (fun p h => by rw [← hp p h]; exact hcells p h) (by rw [← e2, ← oneL_own ho]; exact h2) h3 (by rw [← e2]; exact hkd), key hd⟩
  | makeMap h1 hd =>
    rename_i T d
    have hg : (u.own d).1 = (s.own d).1 := by rw [ho]
    rw [hg]
    exact ⟨_, .makeMap h1 hd, key hd⟩
  | mapOld h1 hd hr hs hrk hx hown hkd hky hkeys hm hrow hv =>
    rename_i T K V r rk x y k g i d c row v
    have hx' : u.ev x = s.ev x := he x (by rw [h1]; simp [Op.operands])
    have hy' : u.ev y = s.ev y := he y (by rw [h1]; simp [Op.operands])
    exact ⟨_, .mapOld h1 hd hr hs hrk (by rw [← hx']; exact hx) (by rw [← ho]; exact hown) hkd (by rw [← hy']; exact hky) hkeys (by rw [← hy']; exact hm) hrow hv, put_pair hd ho.symm rfl rfl⟩
  | mapNew h1 hd hr hs hrk hrv hz hz1 hx hown hkd hky hkeys hm =>
    rename_i T K V r rk rv x y k g d c z
    have hx' : u.ev x = s.ev x := he x (by rw [h1]; simp [Op.operands])
    have hy' : u.ev y = s.ev y := he y (by rw [h1]; simp [Op.operands])
    rw [hy']
    exact ⟨_, .mapNew h1 hd hr hs hrk hrv hz hz1 (by rw [← hx']; exact hx) (by rw [← ho]; exact hown) hkd (by rw [← hy']; exact hky) hkeys (by rw [← hy']; exact hm), put_pair hd (by simp only [St.setOwn, ho]) rfl rfl⟩
  | entStore kd h1 hd hx hown hst hrow hk hk3 hkd =>
    rename_i T x st y k g i ki c row
    have hx' : u.ev x = s.ev x := he x (by rw [h1]; simp [Op.operands])
    have hst' : u.ev st = s.ev st := he st (by rw [h1]; simp [Op.operands])
    have hy' : u.ev y = s.ev y := he y (by rw [h1]; simp [Op.operands])
    rw [hy']
    exact ⟨_, .entStore kd h1 hd (by rw [← hx']; exact hx) (by rw [← ho]; exact hown) (by rw [← hst']; exact hst) hrow hk hk3 (by rw [← hy']; exact hkd), (by simp only [St.setOwn, ho]), fun t ht => (by rw [hd] at ht; cases ht), fun t _ => ⟨rfl, rfl⟩⟩
  | mapSet kd h1 hd hr hs hrk hx hown hk1 hk3 hky hkeys hkd =>
    rename_i T K V r rk x y v k g c
    have hx' : u.ev x = s.ev x := he x (by rw [h1]; simp [Op.operands])
    have hy' : u.ev y = s.ev y := he y (by rw [h1]; simp [Op.operands])
    have hv' : u.ev v = s.ev v := he v (by rw [h1]; simp [Op.operands])
    rw [hy', hv']
    exact ⟨_, .mapSet kd h1 hd hr hs hrk (by rw [← hx']; exact hx) (by rw [← ho]; exact hown) hk1 hk3 (by rw [← hy']; exact hky) hkeys (by rw [← hv']; exact hkd), (by simp only [St.setOwn, ho]), fun t ht => (by rw [hd] at ht; cases ht), fun t _ => ⟨rfl, rfl⟩⟩
  | range h1 hd hr hs hx =>
    rename_i T K V r x rows d
    have hx' : u.ev x = s.ev x := he x (by rw [h1]; simp [Op.operands])
    have hg : (u.own d).1 = (s.own d).1 := by rw [ho]
    rw [hg]
    exact ⟨_, .range h1 hd hr hs (by rw [← hx']; exact hx), key hd⟩

/-- A choice seen from another state with the same memory. -/
theorem Dem.congr {u s : St} {o : Oper} {K : St → Prop} (ho : u.own = s.own) (he : ∀ x ∈ o.op.operands, u.ev x = s.ev x) (h : Dem P L u o K) :
    Dem P L s o fun s' => ∃ u', K u' ∧ s'.own = u'.own ∧ (∀ t, o.dst = some t → s'.reg t = u'.reg t) ∧ ∀ t, o.dst ≠ some t → s'.reg t = s.reg t ∧ u'.reg t = u.reg t := by
  cases h with
  | next h1 hd hx hown hk3 hrows e0 e1 =>
    rename_i x k g d c last rem
    have hx' : u.ev x = s.ev x := he x (by rw [h1]; simp [Op.operands])
    exact .next h1 hd (by rw [← hx']; exact hx) (by rw [← ho]; exact hown) hk3 hrows (fun h => ⟨_, e0 h, put_pair hd ho.symm rfl rfl⟩)
      (fun i ck cv h => ⟨_, e1 i ck cv h, put_pair hd (by simp only [St.setOwn, ho]) rfl rfl⟩)


theorem ops_ev {o : Oper} {s s' : St} (he : ∀ t ∈ o.looksAt ops, s.reg t = s'.reg t) : ∀ x ∈ o.op.operands, s.ev x = s'.ev x := by
  intro x hx
  cases x with
  | tmp t => exact he t (List.mem_append_left _ (List.mem_filterMap.2 ⟨.tmp t, by simpa using hx, rfl⟩))
  | _ => rfl

/-- One of those that have not come up is ready. -/
theorem least_ready {listed : Array Bool} (hsz : listed.size = ops.size) (lex : ∀ i o, ops[i]? = some o → ∀ e ∈ o.after, Region.binds .any e = true → e.on < i) {U : List Nat} (hmem : ∀ i, i ∈ U ↔ i < ops.size ∧ listed.getD i true = false) (hne : U ≠ []) :
    Region.ready .any ops listed ≠ [] := by
  obtain ⟨i0, hi0, hmin⟩ : ∃ i ∈ U, ∀ j ∈ U, i ≤ j := by
    have hex : ∃ i, i ∈ U := by
      cases U with
      | nil => exact absurd rfl hne
      | cons u U' => exact ⟨u, by simp⟩
    have hd' : ∀ k, (∃ i, i ∈ U ∧ i ≤ k) → ∃ i ∈ U, ∀ j ∈ U, i ≤ j := by
      intro k
      induction k with
      | zero => rintro ⟨i, hi, h0⟩; exact ⟨i, hi, fun j _ => by omega⟩
      | succ k ihk =>
        rintro ⟨i, hi, hk⟩
        by_cases hex : ∃ j, j ∈ U ∧ j ≤ k
        · exact ihk hex
        · refine ⟨i, hi, fun j hj => ?_⟩
          rcases Nat.lt_or_ge j i with h1 | h1
          · exact absurd ⟨j, hj, by omega⟩ hex
          · exact h1
    obtain ⟨i, hi⟩ := hex
    exact hd' i ⟨i, hi, Nat.le_refl _⟩
  have hu := (hmem i0).1 hi0
  have hr : i0 ∈ Region.ready .any ops listed := by
    refine mem_ready.2 ⟨hu.2, ops[i0]'hu.1, Array.getElem?_eq_getElem hu.1, fun e he hb => ?_⟩
    have hlt := lex i0 _ (Array.getElem?_eq_getElem hu.1) e he hb
    cases hl : listed.getD e.on true with
    | false =>
      have := hmin e.on ((hmem e.on).2 ⟨by omega, hl⟩)
      omega
    | true =>
      have h2 : e.on < listed.size := by rw [hsz]; omega
      simp [h2] at hl ⊢; exact hl
  intro hnil
  rw [hnil] at hr
  cases hr

def drawOk2 (ops : Array Oper) (n m : Nat) (ds F : List Nat) : Bool :=
  decide (n + m ≤ ops.size) && ((ops.toList.take (n + m)).map (·.dst) == ds.map some) && decide ds.Nodup &&
  ((List.range (n + m)).all fun i => match ops[i]? with
    | some o => (o.looksAt ops).all fun t => (List.range (n + m)).all fun j => !(ds[j]? == some t) || (decide (j < i) && o.after.any fun e => Region.binds .any e && e.on == j)
    | none => false) &&
  ((List.range ops.size).all fun i => match ops[i]? with
    | some o => o.after.all fun e => !Region.binds .any e || decide (e.on < i)
    | none => false) &&
  ((List.range m).all fun q => match ops[n + q]? with
    | some o => (match o.op with | .alloc _ => o.guard.isNone | _ => false)
    | none => false) &&
  (decide (n + m = ops.size) || (List.range (n + m)).all fun i => F.contains i || (List.range (n + m + 1)).any fun j => decide (i < j) && (decide (j = n + m) || !F.contains j) && Region.waitsFor .any ops j i) &&
  Region.chainB .any ops (n + m) &&
  (F.all fun i => decide (i < n) && match ops[i]? with
    | some o => (List.range ops.size).all fun t => decide (t < n + m) || match ops[t]? with
      | some ot => !(ot.dst == o.dst) && (match ot.dst with | some x => !(o.looksAt ops).contains x || Region.waitsFor .any ops t i | none => true) && ((match o.dst with | some d => !(ot.looksAt ops).contains d | none => true) || Region.waitsFor .any ops t i)
      | none => false
    | none => false)

structure Draw2Ok (ops : Array Oper) (n m : Nat) (ds F : List Nat) : Prop where
  le : n + m ≤ ops.size
  dst : (ops.toList.take (n + m)).map (·.dst) = ds.map some
  nodup : ds.Nodup
  looks : ∀ i o, i < n + m → ops[i]? = some o → ∀ t ∈ o.looksAt ops, ∀ j, j < n + m → ds[j]? = some t → j < i ∧ ∃ e ∈ o.after, Region.binds .any e = true ∧ e.on = j
  lex : ∀ i o, ops[i]? = some o → ∀ e ∈ o.after, Region.binds .any e = true → e.on < i
  allocs : ∀ q, q < m → ∃ o T, ops[n + q]? = some o ∧ o.op = .alloc T ∧ o.guard = none
  sink : n + m < ops.size → ∀ i, i < n + m → i ∉ F → ∃ j, i < j ∧ j ≤ n + m ∧ (j = n + m ∨ j ∉ F) ∧ Region.waitsFor .any ops j i = true
  chain : ∀ t, n + m < t → t < ops.size → Region.waitsFor .any ops t (t - 1) = true
  late : ∀ i ∈ F, i < n ∧ ∃ o, ops[i]? = some o ∧ ∀ t ot, n + m ≤ t → ops[t]? = some ot → ot.dst ≠ o.dst ∧ (∀ x, ot.dst = some x → x ∈ o.looksAt ops → Region.waitsFor .any ops t i = true) ∧ ∀ d, o.dst = some d → d ∈ ot.looksAt ops → Region.waitsFor .any ops t i = true

theorem drawOk2_spec {n m : Nat} {ds F : List Nat} (h : drawOk2 ops n m ds F = true) : Draw2Ok ops n m ds F := by
  simp only [drawOk2, Bool.and_eq_true, decide_eq_true_eq, beq_iff_eq, Bool.or_eq_true] at h
  obtain ⟨⟨⟨⟨⟨⟨⟨⟨h1, h2⟩, h3⟩, h4⟩, h5⟩, h6⟩, h7⟩, h8⟩, h9⟩ := h
  refine ⟨h1, h2, h3, fun i o hi ho t ht j hj hd => ?_, fun i o ho e he hb => ?_, fun q hq => ?_, fun hlt i hi hF => ?_, fun t ht1 ht2 => ?_, fun i hi => ?_⟩
  · have e1 := List.all_eq_true.1 h4 i (List.mem_range.2 hi)
    rw [ho] at e1
    have e2 := List.all_eq_true.1 e1 t ht
    have e3 := List.all_eq_true.1 e2 j (List.mem_range.2 hj)
    simp only [hd, beq_self_eq_true, Bool.not_true, Bool.false_or, Bool.and_eq_true, decide_eq_true_eq] at e3
    obtain ⟨e, he, hb⟩ := Array.any_eq_true'.1 e3.2
    simp only [Bool.and_eq_true, beq_iff_eq] at hb
    exact ⟨e3.1, e, he, hb.1, hb.2⟩
  · have hi : i < ops.size := (Array.getElem?_eq_some_iff.1 ho).1
    have e1 := List.all_eq_true.1 h5 i (List.mem_range.2 hi)
    rw [ho] at e1
    have e2 := Array.all_eq_true_iff_forall_mem.1 e1 e he
    simpa [hb] using e2
  · have e1 := List.all_eq_true.1 h6 q (List.mem_range.2 hq)
    split at e1
    · rename_i o ho
      split at e1
      · rename_i T hop
        exact ⟨o, T, ho, hop, by simpa using e1⟩
      · cases e1
    · cases e1
  · rcases h7 with h7 | h7
    · omega
    · have e1 := List.all_eq_true.1 h7 i (List.mem_range.2 hi)
      simp only [Bool.or_eq_true] at e1
      rcases e1 with e1 | e1
      · exact absurd (by simpa using e1) hF
      · obtain ⟨j, hj, hj2⟩ := List.any_eq_true.1 e1
        simp only [Bool.and_eq_true, decide_eq_true_eq, Bool.or_eq_true] at hj2
        refine ⟨j, hj2.1.1, by have := List.mem_range.1 hj; omega, hj2.1.2.imp id (fun h => by simpa using h), hj2.2⟩
  · have e1 := List.all_eq_true.1 h8 t (List.mem_range.2 ht2)
    simp only [Bool.or_eq_true, decide_eq_true_eq] at e1
    rcases e1 with e1 | e1
    · omega
    · exact e1
  · have e1 := List.all_eq_true.1 h9 i hi
    simp only [Bool.and_eq_true, decide_eq_true_eq] at e1
    refine ⟨e1.1, ?_⟩
    have e2 := e1.2
    split at e2
    · rename_i o ho
      refine ⟨o, ho, fun t ot ht hot => ?_⟩
      have htl : t < ops.size := (Array.getElem?_eq_some_iff.1 hot).1
      have e3 := List.all_eq_true.1 e2 t (List.mem_range.2 htl)
      rw [hot] at e3
      simp only [Bool.or_eq_true, decide_eq_true_eq, Bool.and_eq_true] at e3
      rcases e3 with e3 | ⟨⟨e3, e4⟩, e5⟩
      · omega
      · refine ⟨by simpa using e3, fun x hx hxm => ?_, fun d hd hdm => ?_⟩
        · rw [hx] at e4
          simp only [Bool.or_eq_true, Bool.not_eq_true', List.contains_eq_mem, decide_eq_false_iff_not] at e4
          rcases e4 with e4 | e4
          · exact absurd hxm e4
          · exact e4
        · rcases e5 with e5 | e5
          · rw [hd] at e5
            simp at e5
            exact absurd hdm e5
          · exact e5
    · cases e2
end
end Go.Pv

/- Regions in a drawn order, in which variables are made at any time and plain moves may come late: their soundness. -/
namespace Go.Pv
open Go.RowKit

section
variable {P : Program} {L : Lay} {C : Ctx} {a : Act} {w w' : World} {ops : Array Oper}

theorem all_listed {listed : Array Bool} (hmem : ∀ i, i ∈ ([] : List Nat) ↔ i < ops.size ∧ listed.getD i true = false) : Region.ready .any ops listed = [] := by
  cases h : Region.ready .any ops listed with
  | nil => rfl
  | cons i l =>
    exfalso
    have hi : i ∈ Region.ready .any ops listed := by rw [h]; simp
    obtain ⟨hun, o, ho, _⟩ := mem_ready.1 hi
    have := (hmem i).2 ⟨(Array.getElem?_eq_some_iff.1 ho).1, hun⟩
    cases this

theorem getD_tf {listed : Array Bool} {i : Nat} (h : i < listed.size) : listed.getD i true = listed.getD i false := by simp [h]

theorem put_own (s : St) (d : Option Nat) (v : PV) : (s.put d v).own = s.own := by cases d <;> rfl
/-- It waits for the other, or for one that does. -/
def WF2 (ops : Array Oper) (t i : Nat) : Bool := Region.waitsFor .any ops t i || (List.range ops.size).any fun j => Region.waitsFor .any ops t j && Region.waitsFor .any ops j i
/-- A plain move in the tail, of what is no nil slice and is not written by the tail. -/
def MV (ops : Array Oper) (n m : Nat) (full : St) (ot : Oper) : Prop :=
  (∃ x, (ot.op = .assign x ∨ ot.op = .move x) ∧ full.ev x ≠ .nil) ∧ ∀ x ∈ ot.looksAt ops, ∀ (q : Nat) (oq : Oper), n + m ≤ q → ops[q]? = some oq → oq.dst ≠ some x

theorem draw_late (hG : Good P L C) {n m : Nat} {ds F : List Nat} (hd : Draw2Ok ops n m ds F) {K' : St → Prop} {Q : Exit → Act → World → Prop} (hK : ∀ s' a' w', SimE C s' a' w' → K' s' → Q .normal a' w')
    (hN : ∀ o ∈ ops.toList, dstLt C.N o.dst = true) {full s0 : St} {vs : List PV}
    (hdi : ∀ i o, i < n + m → ops[i]? = some o → ∃ d, ds[i]? = some d ∧ o.dst = some d) (hole : OwnLe s0 full)
    (hv : ∀ i ∈ F, ∀ o, ops[i]? = some o → ∃ v sf, vs[i]? = some v ∧ Yld P L ops sf o v ∧ (∀ t ∈ o.looksAt ops, sf.reg t = full.reg t) ∧ (∀ d, ds[i]? = some d → full.reg d = v) ∧ sf.own = s0.own ∧ (dataAt full o.op = true ∨ ∀ t ot, n + m ≤ t → ops[t]? = some ot → WF2 ops t i = true ∨ MV ops n m full ot)) :
    ∀ (f : Nat) (U : List Nat) (listed : Array Bool) (p : Nat) (u s : St) (a : Act) (w : World), U.length = f → U.Nodup → (∀ i, i ∈ U ↔ i < ops.size ∧ listed.getD i true = false) → listed.size = ops.size →
      (∀ i, i < n + m → i ∉ F → listed.getD i true = true) → (∀ t, n + m ≤ t → t < ops.size → (listed.getD t true = true ↔ t < n + m + p)) → POps P L ops K' (ops.toList.drop (n + m + p)) u →
      (∀ t, (∀ q ot, n + m ≤ q → q < n + m + p → ops[q]? = some ot → ot.dst ≠ some t) → u.reg t = full.reg t) → s.own = u.own → (∀ t, (∀ i ∈ F, listed.getD i true = false → ds[i]? ≠ some t) → s.reg t = u.reg t) →
      ((∀ q oq, n + m ≤ q → q < n + m + p → ops[q]? = some oq → MV ops n m full oq) → u.own = full.own) →
      (∀ i o, ops[i]? = some o → listed.getD i true = true → ∀ e ∈ o.after, Region.binds .any e = true → listed.getD e.on true = true) → SimE C s a w →
      wpAny P .any ops Q f listed a w := by
  intro f
  induction f with
  | zero =>
    intro U listed p u s a w hU _ hmem hsz hhead htail hops _ hown hreg _ _ h
    have hU0 : U = [] := List.eq_nil_of_length_eq_zero hU
    subst hU0
    have hall : ∀ i, i < ops.size → listed.getD i true = true := fun i hi => by
      cases hb : listed.getD i true with
      | true => rfl
      | false => have := (hmem i).2 ⟨hi, hb⟩; cases this
    refine ⟨all_listed hmem, ?_⟩
    have hge : ops.size ≤ n + m + p := by
      rcases Nat.lt_or_ge (n + m + p) ops.size with h1 | h1
      · have := (htail (n + m + p) (by omega) h1).1 (hall _ h1); omega
      · exact h1
    rw [List.drop_eq_nil_of_le (by simpa using hge)] at hops
    have hsu : s = u := St.ext' (funext fun t => hreg t fun i hi hl _ => by
      have := hall i (by have := (hd.late i hi).1; have := hd.le; omega)
      rw [this] at hl; cases hl) hown
    rw [hsu] at h
    exact hK _ _ _ h hops
  | succ f ih =>
    intro U listed p u s a w hU hnd hmem hsz hhead htail hops hfull hown hreg hown0 hcl h
    refine ⟨fun hnil => absurd hnil (least_ready hsz hd.lex hmem (by intro e; rw [e] at hU; simp at hU)), fun i hi => ?_⟩
    obtain ⟨hun, o, ho, hall⟩ := mem_ready.1 hi
    have hisz : i < ops.size := (Array.getElem?_eq_some_iff.1 ho).1
    have hUi : i ∈ U := (hmem i).2 ⟨hisz, hun⟩
    have hil : i < listed.size := by omega
    have hmem' : ∀ k, k ∈ U.erase i ↔ k < ops.size ∧ (listed.setIfInBounds i true).getD k true = false := fun k => by
      rw [hnd.mem_erase_iff, hmem k]
      by_cases hki : k = i
      · subst hki; simp [hil]
      · rw [getD_set_ne true (Ne.symm hki)]
        exact ⟨fun x => x.2, fun x => ⟨hki, x⟩⟩
    have hset : ∀ k, (listed.setIfInBounds i true).getD k true = (if k = i then true else listed.getD k true) := fun k => by
      by_cases hki : k = i
      · subst hki; simp [hil]
      · rw [getD_set_ne true (Ne.symm hki), if_neg hki]
    have hlen' : (U.erase i).length = f := by rw [List.length_erase_of_mem hUi]; omega
    have hNo : dstLt C.N o.dst = true := hN o (by have := Array.mem_of_getElem? ho; simpa using this)
    have hdone : ∀ j, Region.waitsFor .any ops i j = true → listed.getD j true = true := by
      intro j hj
      obtain ⟨oj, hoj, e, he, hb, hon⟩ := Region.waitsFor_spec hj
      rw [ho] at hoj
      have hoj := Option.some.inj hoj
      subst hoj
      have h1 := hall e he hb
      have h2 := hd.lex i o ho e he hb
      rw [hon] at h1 h2
      rw [getD_tf (by omega)]; exact h1
    have hcl' : ∀ k o', ops[k]? = some o' → (listed.setIfInBounds i true).getD k true = true → ∀ e ∈ o'.after, Region.binds .any e = true → (listed.setIfInBounds i true).getD e.on true = true := by
      intro k o' ho' hk e he hb
      rw [hset] at hk ⊢
      split
      · rfl
      · by_cases hki : k = i
        · subst hki
          rw [ho] at ho'
          have ho' := Option.some.inj ho'
          subst ho'
          have h1 := hall e he hb
          have h2 := hd.lex k o ho e he hb
          rw [getD_tf (by omega)]; exact h1
        · rw [if_neg hki] at hk
          exact hcl k o' ho' hk e he hb
    by_cases hin : i < n + m
    · -- a late one of the head
      have hiF : i ∈ F := by
        by_cases hF : i ∈ F
        · exact hF
        · have := hhead i hin hF; rw [this] at hun; cases hun
      obtain ⟨hn', o', ho', hfl⟩ := hd.late i hiF
      rw [ho] at ho'
      have ho' := Option.some.inj ho'
      subst ho'
      obtain ⟨d, hdd, hod⟩ := hdi i o hin ho
      obtain ⟨v, sf, _, hy, hsf, hfd, hso, hda⟩ := hv i hiF o ho
      have hnt : ∀ t ∈ o.looksAt ops, ∀ q ot, n + m ≤ q → q < n + m + p → ops[q]? = some ot → ot.dst ≠ some t := fun t ht q ot hq hqp hot e => by
        have hw := (hfl q ot hq hot).2.1 t e ht
        obtain ⟨oj, hoj, e', he', hb', hon'⟩ := Region.waitsFor_spec hw
        have hqs : q < ops.size := (Array.getElem?_eq_some_iff.1 hot).1
        have := hcl q oj hoj ((htail q hq hqs).2 hqp) e' he' hb'
        rw [hon', hun] at this; cases this
      have hsame : ∀ t ∈ o.looksAt ops, sf.reg t = s.reg t := fun t ht => by
        rw [hsf t ht, hreg t, hfull t (hnt t ht)]
        intro j hj hl hjt
        obtain ⟨hji, e, he, hb, hon⟩ := hd.looks i o hin ho t ht j (by have := (hd.late j hj).1; omega) hjt
        have := hall e he hb
        rw [hon] at this
        rw [getD_tf (by omega), this] at hl; cases hl
      have hyl : Yld P L ops s o v := by
        rcases hy with ⟨h1, h2⟩ | ⟨h1, h2⟩
        · refine .inl ⟨h1.congr hsame, ?_⟩
          rcases hda with hda | hda
          · exact h2.free2 (dataAt_congr (fun x hx => (ops_ev hsf x hx).symm) hda) (ops_ev hsame)
          · have huo : u.own = full.own := hown0 fun q oq hq hqp hoq => by
              rcases hda q oq hq hoq with hw | hmv
              · have hqs : q < ops.size := (Array.getElem?_eq_some_iff.1 hoq).1
                rw [WF2, Bool.or_eq_true, List.any_eq_true] at hw
                rcases hw with hw | ⟨j2, _, hw⟩
                · obtain ⟨oj, hoj, e', he', hb', hon'⟩ := Region.waitsFor_spec hw
                  have := hcl q oj hoj ((htail q hq hqs).2 hqp) e' he' hb'
                  rw [hon', hun] at this; cases this
                · rw [Bool.and_eq_true] at hw
                  obtain ⟨oj, hoj, e', he', hb', hon'⟩ := Region.waitsFor_spec hw.1
                  have h3 := hcl q oj hoj ((htail q hq hqs).2 hqp) e' he' hb'
                  rw [hon'] at h3
                  obtain ⟨oj2, hoj2, e2, he2, hb2, hon2⟩ := Region.waitsFor_spec hw.2
                  have := hcl j2 oj2 hoj2 h3 e2 he2 hb2
                  rw [hon2, hun] at this; cases this
              · exact hmv
            have g3 : QOp P L ⟨s.reg, s0.own⟩ o v := QOp.congr (s' := ⟨s.reg, s0.own⟩) hso (ops_ev (s' := ⟨s.reg, s0.own⟩) hsame) h2
            have hle : OwnLe ⟨s.reg, s0.own⟩ s := by
              intro k
              rcases hole k with hk | hk
              · left
                show s.own k = s0.own k
                rw [hown, huo]; exact hk
              · exact .inr hk
            exact g3.le hle rfl
        · exact .inr ⟨h1.congr hsame, h2⟩
      have hnext : ∀ a' w', SimE C (s.put o.dst v) a' w' → wpAny P .any ops Q f (listed.setIfInBounds i true) a' w' := by
        intro a' w' h'
        refine ih (U.erase i) _ p u _ a' w' hlen' (hnd.erase i) hmem' (by simp [hsz]) (fun k hk hkF => ?_) (fun t ht1 ht2 => ?_) hops hfull (by rw [hod]; exact hown) (fun t hnot => ?_) hown0 hcl' h'
        · rw [hset]; split
          · rfl
          · exact hhead k hk hkF
        · rw [hset, if_neg (by omega)]; exact htail t ht1 ht2
        · rw [hod]
          show (bif Nat.beq t d then v else s.reg t) = _
          by_cases htd : t = d
          · subst htd
            have hnd' : ∀ q ot, n + m ≤ q → q < n + m + p → ops[q]? = some ot → ot.dst ≠ some t := fun q ot hq _ hot e => (hfl q ot hq hot).1 (by rw [e, hod])
            rw [hfull t hnd', hfd t hdd]; simp
          · rw [nbeq_ne htd]
            refine hreg t fun j hj hl hjt => ?_
            have hji : j ≠ i := by
              intro e; subst e
              rw [hdd] at hjt
              exact htd (Option.some.inj hjt).symm
            exact hnot j hj (by rw [hset, if_neg hji]; exact hl) hjt
      unfold wpOp
      rw [ho]
      simp only
      rcases hyl with ⟨hw, hq⟩ | ⟨hw, hq⟩
      · rw [if_pos (hw.spec h)]
        exact .inl (hq.wp hG h hNo hnext)
      · rw [if_neg (by rw [hw.spec h]; simp)]
        refine hnext _ _ ?_
        rw [hq]
        exact h.put hNo undef
    · -- the next one of the tail
      have hip : i = n + m + p := by
        have h1 : ¬ i < n + m + p := fun hlt => by
          have := (htail i (by omega) hisz).2 hlt
          rw [this] at hun; cases hun
        rcases Nat.lt_or_ge (n + m + p) i with h2 | h2
        · have h3 := hdone (i - 1) (hd.chain i (by omega) hisz)
          have := (htail (i - 1) (by omega) (by omega)).1 h3
          omega
        · omega
      have hdrop : ops.toList.drop (n + m + p) = o :: ops.toList.drop (n + m + (p + 1)) := by
        rw [List.drop_eq_getElem_cons (by simp; omega)]
        congr 1
        have : ops[n + m + p]? = some o := by rw [← hip]; exact ho
        obtain ⟨hl, he⟩ := Array.getElem?_eq_some_iff.1 this
        simpa using he
      rw [hdrop] at hops
      have hsame : ∀ t ∈ o.looksAt ops, u.reg t = s.reg t := fun t ht => by
        refine (hreg t fun j hj hl hjt => ?_).symm
        obtain ⟨_, oj, hoj, hfl⟩ := hd.late j hj
        obtain ⟨d, hdd, hod⟩ := hdi j oj (by have := (hd.late j hj).1; omega) hoj
        rw [hdd] at hjt
        have hjt := Option.some.inj hjt
        subst hjt
        have := hdone j ((hfl i o (by omega) ho).2.2 d hod ht)
        rw [this] at hl; cases hl
      have hnext : ∀ u' s', POps P L ops K' (ops.toList.drop (n + m + (p + 1))) u' → s'.own = u'.own → (∀ t, o.dst = some t → s'.reg t = u'.reg t) → (∀ t, o.dst ≠ some t → s'.reg t = s.reg t ∧ u'.reg t = u.reg t) → (MV ops n m full o → u'.own = u.own) →
          ∀ a' w', SimE C s' a' w' → wpAny P .any ops Q f (listed.setIfInBounds i true) a' w' := by
        intro u' s' hops' hown' hr1 hr2 hU a' w' h'
        refine ih (U.erase i) _ (p + 1) u' s' a' w' hlen' (hnd.erase i) hmem' (by simp [hsz]) (fun k hk hkF => ?_) (fun t ht1 ht2 => ?_) hops' (fun t hnt => ?_) hown' (fun t hnot => ?_) (fun hall' => (hU (hall' i o (by omega) (by omega) ho)).trans (hown0 fun q oq h1 h2 h3 => hall' q oq h1 (by omega) h3)) hcl' h'
        · rw [hset, if_neg (by omega)]; exact hhead k hk hkF
        · rw [hset]
          by_cases hti : t = i
          · rw [if_pos hti]; simp; omega
          · rw [if_neg hti, htail t ht1 ht2]; omega
        · have hne : o.dst ≠ some t := hnt i o (by omega) (by omega) ho
          rw [(hr2 t hne).2]; exact hfull t fun q ot h1 h2 h3 => hnt q ot h1 (by omega) h3
        · by_cases hot : o.dst = some t
          · exact hr1 t hot
          · rw [(hr2 t hot).1, (hr2 t hot).2]
            exact hreg t fun j hj hl => hnot j hj (by rw [hset, if_neg (by have := (hd.late j hj).1; omega)]; exact hl)
      have hmvn : ∀ {u' : St}, MV ops n m full o → Eff P L u o u' → False := by
        intro u' hmv he
        obtain ⟨⟨x, hx, hxn⟩, hnw⟩ := hmv
        have hxe : u.ev x = full.ev x := by
          have hmem : x ∈ o.op.operands := by rcases hx with hx | hx <;> rw [hx] <;> simp [Op.operands]
          exact ops_ev (ops := ops) (s := u) (s' := full) (o := o) (fun t ht => hfull t fun q oq h1 _ h3 => hnw t ht q oq h1 h3) x hmem
        cases he with
        | nils e sz kd ho' hd' hx' =>
          rename_i x' d
          have : x' = x := by rcases hx with hx | hx <;> rcases ho' with ho' | ho' <;> rw [hx] at ho' <;> cases ho' <;> rfl
          subst this
          exact hxn (by rw [← hxe]; exact hx')
        | box ho' => rcases hx with hx | hx <;> rw [hx] at ho' <;> cases ho'
        | alloc ho' => rcases hx with hx | hx <;> rw [hx] at ho' <;> cases ho'
        | store kd ho' => rcases hx with hx | hx <;> rw [hx] at ho' <;> cases ho'
        | appN ho' => rcases hx with hx | hx <;> rw [hx] at ho' <;> cases ho'
        | app kd ho' => rcases hx with hx | hx <;> rw [hx] at ho' <;> cases ho'
        | make ho' => rcases hx with hx | hx <;> rw [hx] at ho' <;> cases ho'
        | slit kd ho' => rcases hx with hx | hx <;> rw [hx] at ho' <;> cases ho'
        | makeMap ho' => rcases hx with hx | hx <;> rw [hx] at ho' <;> cases ho'
        | mapOld ho' => rcases hx with hx | hx <;> rw [hx] at ho' <;> cases ho'
        | mapNew ho' => rcases hx with hx | hx <;> rw [hx] at ho' <;> cases ho'
        | entStore kd ho' => rcases hx with hx | hx <;> rw [hx] at ho' <;> cases ho'
        | mapSet kd ho' => rcases hx with hx | hx <;> rw [hx] at ho' <;> cases ho'
        | range ho' => rcases hx with hx | hx <;> rw [hx] at ho' <;> cases ho'
      have hput : ∀ v, (s.put o.dst v).own = (u.put o.dst v).own ∧ (∀ t, o.dst = some t → (s.put o.dst v).reg t = (u.put o.dst v).reg t) ∧ ∀ t, o.dst ≠ some t → (s.put o.dst v).reg t = s.reg t ∧ (u.put o.dst v).reg t = u.reg t := by
        intro v
        cases hdst : o.dst with
        | none => exact ⟨hown, fun t ht => by (cases ht), fun t _ => ⟨rfl, rfl⟩⟩
        | some d =>
          refine ⟨hown, fun t ht => ?_, fun t ht => ?_⟩
          · have := Option.some.inj ht
            subst this
            show (bif Nat.beq d d then v else _) = (bif Nat.beq d d then v else _)
            simp
          · have : t ≠ d := fun e => ht (by rw [e])
            exact ⟨by show (bif Nat.beq t d then v else s.reg t) = _; rw [nbeq_ne this]; rfl, by show (bif Nat.beq t d then v else u.reg t) = _; rw [nbeq_ne this]; rfl⟩
      unfold wpOp
      rw [ho]
      simp only
      rcases hops with ⟨hw, hp⟩ | ⟨hw, hp⟩
      · have hw' := hw.congr hsame
        rw [if_pos (hw'.spec h)]
        refine .inl ?_
        rcases hp with ⟨v, hq, hk⟩ | ⟨u', hq, hk⟩ | hq
        · obtain ⟨g1, g2, g3⟩ := hput v
          exact (hq.congr hown.symm (ops_ev hsame)).wp hG h hNo fun a' w' h' => hnext _ _ hk g1 g2 g3 (fun _ => put_own u _ _) a' w' h'
        · obtain ⟨s', hq', g1, g2, g3⟩ := hq.congr hown.symm (ops_ev hsame)
          exact hq'.sound hG.lay h hNo fun a' w' h' => hnext _ _ hk g1 g2 g3 (fun hmv => (hmvn hmv hq).elim) a' w' h'
        · exact (hq.congr hown.symm (ops_ev hsame)).sound h hNo fun s' a' w' h' ⟨u', hk, g1, g2, g3⟩ => hnext _ _ hk g1 g2 g3 (fun hmv => by
            exfalso
            obtain ⟨⟨x, hx, _⟩, _⟩ := hmv
            cases hq with
            | next ho' => rcases hx with hx | hx <;> rw [ho'] at hx <;> cases hx) a' w' h'
      · have hw' := hw.congr hsame
        rw [if_neg (by rw [hw'.spec h]; simp)]
        obtain ⟨g1, g2, g3⟩ := hput (.raw undef)
        exact hnext _ _ hp g1 g2 g3 (fun _ => put_own u _ _) _ _ (h.put hNo undef)

/-! ### The head -/
def allocd : List (Nat × Cont) → St → St
  | [], s => s
  | (d, c) :: l, s => allocd l ((s.fin d c).putR d (.ptr d ((s.own d).1 + 1) 0 0))

theorem puts_reg {s s' : St} (h : s.reg = s'.reg) : ∀ l, (puts l s).reg = (puts l s').reg
  | [] => h
  | (d, v) :: l => puts_reg (by funext t; show (bif Nat.beq t d then v else s.reg t) = (bif Nat.beq t d then v else s'.reg t); rw [h]) l

theorem allocd_spec : ∀ (l : List (Nat × Cont)) (s : St), (l.map (·.1)).Nodup → (allocd l s).reg = (puts (l.map fun p => (p.1, .ptr p.1 ((s.own p.1).1 + 1) 0 0)) s).reg ∧
    (∀ k c, (k, c) ∈ l → (allocd l s).own k = ((s.own k).1 + 1, some c)) ∧ ∀ k, k ∉ l.map (·.1) → (allocd l s).own k = s.own k
  | [], s, _ => ⟨rfl, fun k c h => (by cases h), fun k _ => rfl⟩
  | (d, c) :: l, s, hn => by
    simp only [List.map_cons, List.nodup_cons] at hn
    obtain ⟨h1, h2, h3⟩ := allocd_spec l ((s.fin d c).putR d (.ptr d ((s.own d).1 + 1) 0 0)) hn.2
    have hne : ∀ k, k ≠ d → ((s.fin d c).putR d (.ptr d ((s.own d).1 + 1) 0 0)).own k = s.own k := fun k hk => by show (s.fin d c).own k = _; rw [St.fin, setOwn_ne hk]
    have heq : ((s.fin d c).putR d (.ptr d ((s.own d).1 + 1) 0 0)).own d = ((s.own d).1 + 1, some c) := by show (s.fin d c).own d = _; rw [St.fin, setOwn_same]
    refine ⟨?_, fun k c' hk => ?_, fun k hk => ?_⟩
    · rw [allocd, h1, List.map_cons, puts]
      have : (l.map fun p => ((p.1, PV.ptr p.1 ((((s.fin d c).putR d (.ptr d ((s.own d).1 + 1) 0 0)).own p.1).1 + 1) 0 0) : Nat × PV)) = l.map fun p => (p.1, PV.ptr p.1 ((s.own p.1).1 + 1) 0 0) :=
        List.map_congr_left fun p hp => by rw [hne p.1 fun e => hn.1 (by rw [← e]; exact List.mem_map_of_mem hp)]
      rw [this]
      exact puts_reg (by rfl) _
    · rcases List.mem_cons.1 hk with hk | hk
      · have e1 : k = d := congrArg (·.1) hk
        have e2 : c' = c := congrArg (·.2) hk
        subst e1; subst e2
        rw [allocd, h3 k hn.1, heq]
      · have : k ≠ d := fun e => hn.1 (by rw [← e]; exact List.mem_map.2 ⟨_, hk, rfl⟩)
        rw [allocd, h2 k c' hk, hne k this]
    · simp only [List.map_cons, List.mem_cons, not_or] at hk
      rw [allocd, h3 k hk.2, hne k hk.1]

def AllocOk (L : Lay) (o : Oper) (c : Cont) : Prop := ∃ T r z, o.op = .alloc T ∧ L T = some r ∧ r.zero = some z ∧ 0 < z.length ∧ c = ⟨T, z.length, [z], 2⟩

theorem allocs_run {K : St → Prop} {tl : List Oper} : ∀ (l : List Oper) (ds : List Nat) (s : St), (∀ o ∈ l, ∃ T, o.op = .alloc T ∧ o.guard = none) → l.map (·.dst) = ds.map some → POps P L ops K (l ++ tl) s →
    ∃ cs : List Cont, cs.length = ds.length ∧ (∀ (k : Nat) (o : Oper) (c : Cont), l[k]? = some o → cs[k]? = some c → AllocOk L o c) ∧ POps P L ops K tl (allocd (ds.zip cs) s)
  | [], ds, s, _, hds, h => by
    have : ds = [] := by simpa using hds.symm
    subst this
    exact ⟨[], rfl, fun k o c hk => by simp at hk, h⟩
  | o :: l, ds, s, hal, hds, h => by
    cases ds with
    | nil => simp at hds
    | cons d ds =>
      simp only [List.map_cons, List.cons.injEq] at hds
      obtain ⟨T, hop, hg⟩ := hal o (by simp)
      have main : POp P L s o (POps P L ops K (l ++ tl)) := by
        rcases h with ⟨_, h⟩ | ⟨hw, _⟩
        · exact h
        · exfalso
          cases hw with
          | no h => rw [hg] at h; cases h
          | junk h => rw [hg] at h; cases h
      rcases main with ⟨v, hq, _⟩ | ⟨s', he, hk⟩ | hdem
      · exfalso
        cases hq with
        | v hq => rw [hop] at hq; simp [qv] at hq
        | seq ho => rw [hop] at ho; cases ho
        | idx ho => rw [hop] at ho; cases ho
        | idxA ho => rw [hop] at ho; cases ho
        | ldp ho => rw [hop] at ho; cases ho
        | slc ho => rw [hop] at ho; cases ho
        | slh ho => rw [hop] at ho; cases ho
        | call ho => rw [hop] at ho; cases ho
        | callF ho => rw [hop] at ho; cases ho
        | slit ho => rw [hop] at ho; cases ho
        | mks ho => rw [hop] at ho; cases ho
        | look ho => rw [hop] at ho; cases ho
        | entry ho => rw [hop] at ho; cases ho
      · cases he with
        | alloc ho hd hr hz h0 =>
          rename_i T' r z d'
          rw [hds.1] at hd
          have hd := Option.some.inj hd
          subst hd
          obtain ⟨cs, h1, h2, h3⟩ := allocs_run l ds _ (fun o' ho' => hal o' (by simp [ho'])) hds.2 hk
          refine ⟨⟨T', z.length, [z], 2⟩ :: cs, by simp [h1], fun k o' c hk' hc => ?_, h3⟩
          cases k with
          | zero =>
            simp at hk' hc
            subst hk'; subst hc
            exact ⟨T', r, z, ho, hr, hz, h0, rfl⟩
          | succ k => exact h2 k o' c (by simpa using hk') (by simpa using hc)
        | nils e sz kd ho => rcases ho with ho | ho <;> rw [hop] at ho <;> cases ho
        | box ho => rw [hop] at ho; cases ho
        | store kd ho => rw [hop] at ho; cases ho
        | appN ho => rw [hop] at ho; cases ho
        | app kd ho => rw [hop] at ho; cases ho
        | make ho => rw [hop] at ho; cases ho
        | slit kd ho => rw [hop] at ho; cases ho
        | makeMap ho => rw [hop] at ho; cases ho
        | mapOld ho => rw [hop] at ho; cases ho
        | mapNew ho => rw [hop] at ho; cases ho
        | entStore kd ho => rw [hop] at ho; cases ho
        | range ho => rw [hop] at ho; cases ho
        | mapSet kd ho => rw [hop] at ho; cases ho
      · exfalso
        cases hdem with
        | next ho => rw [hop] at ho; cases ho

structure Agr2 (ds : List Nat) (vs : List PV) (cs : List Cont) (n m : Nat) (listed : Array Bool) (s0 s : St) : Prop where
  hit : ∀ t j, j < n + m → listed.getD j true = true → ds[j]? = some t → vs[j]? = some (s.reg t)
  miss : ∀ t, (∀ j, j < n + m → listed.getD j true = true → ds[j]? ≠ some t) → s.reg t = s0.reg t
  own1 : ∀ k, (∀ j, n ≤ j → j < n + m → listed.getD j true = true → ds[j]? ≠ some k) → s.own k = s0.own k
  own2 : ∀ j k, n ≤ j → j < n + m → listed.getD j true = true → ds[j]? = some k → s.own k = ((s0.own k).1 + 1, cs[j - n]?)

theorem draw_two (hG : Good P L C) {n m : Nat} {ds F : List Nat} (hd : Draw2Ok ops n m ds F) {K' : St → Prop} {Q : Exit → Act → World → Prop} (hK : ∀ s' a' w', SimE C s' a' w' → K' s' → Q .normal a' w')
    (hN : ∀ o ∈ ops.toList, dstLt C.N o.dst = true) {s0 full : St} {vs : List PV} {cs : List Cont}
    (hdi : ∀ i o, i < n + m → ops[i]? = some o → ∃ d, ds[i]? = some d ∧ o.dst = some d) (hinj : ∀ (i j t : Nat), ds[i]? = some t → ds[j]? = some t → i = j)
    (hnone : ∀ j k, n ≤ j → j < n + m → ds[j]? = some k → (s0.own k).2 = none)
    (hy : ∀ i o, i < n → ops[i]? = some o → ∃ v sf, vs[i]? = some v ∧ Yld P L ops sf o v ∧ sf.own = s0.own ∧ (∀ t j, j < i → ds[j]? = some t → vs[j]? = some (sf.reg t)) ∧ ∀ t, (∀ j, j < i → ds[j]? ≠ some t) → sf.reg t = s0.reg t)
    (ha : ∀ i o, n ≤ i → i < n + m → ops[i]? = some o → ∃ c d, cs[i - n]? = some c ∧ AllocOk L o c ∧ o.guard = none ∧ ds[i]? = some d ∧ vs[i]? = some (.ptr d ((s0.own d).1 + 1) 0 0))
    (hf1 : ∀ t j, j < n + m → ds[j]? = some t → vs[j]? = some (full.reg t)) (hf2 : ∀ t, (∀ j, j < n + m → ds[j]? ≠ some t) → full.reg t = s0.reg t)
    (hf3 : ∀ k, (∀ j, n ≤ j → j < n + m → ds[j]? ≠ some k) → full.own k = s0.own k) (hf4 : ∀ j k, n ≤ j → j < n + m → ds[j]? = some k → full.own k = ((s0.own k).1 + 1, cs[j - n]?))
    (hend : POps P L ops K' (ops.toList.drop (n + m)) full) (hfda : ∀ i ∈ F, ∀ o, ops[i]? = some o → dataAt full o.op = true ∨ ∀ t ot, n + m ≤ t → ops[t]? = some ot → WF2 ops t i = true ∨ MV ops n m full ot) :
    ∀ (f : Nat) (U : List Nat) (listed : Array Bool) (s : St) (a : Act) (w : World), U.length = f → U.Nodup → (∀ i, i ∈ U ↔ i < ops.size ∧ listed.getD i true = false) → listed.size = ops.size →
      (∀ t, n + m ≤ t → t < ops.size → listed.getD t true = false) → (∀ i o, ops[i]? = some o → listed.getD i true = true → ∀ e ∈ o.after, Region.binds .any e = true → listed.getD e.on true = true) →
      Agr2 ds vs cs n m listed s0 s → SimE C s a w → wpAny P .any ops Q f listed a w := by
  have hole : OwnLe s0 full := by
    intro k
    by_cases hx : ∃ j, n ≤ j ∧ j < n + m ∧ ds[j]? = some k
    · obtain ⟨j, g1, g2, g3⟩ := hx
      exact .inr (hnone j k g1 g2 g3)
    · exact .inl (hf3 k fun j g1 g2 g3 => hx ⟨j, g1, g2, g3⟩)
  have late : ∀ (f : Nat) (U : List Nat) (listed : Array Bool) (s : St) (a : Act) (w : World), U.length = f → U.Nodup → (∀ i, i ∈ U ↔ i < ops.size ∧ listed.getD i true = false) → listed.size = ops.size →
      (∀ t, n + m ≤ t → t < ops.size → listed.getD t true = false) → Agr2 ds vs cs n m listed s0 s → SimE C s a w → (∀ i, i < n + m → i ∉ F → listed.getD i true = true) →
      (∀ i o, ops[i]? = some o → listed.getD i true = true → ∀ e ∈ o.after, Region.binds .any e = true → listed.getD e.on true = true) → wpAny P .any ops Q f listed a w := by
    intro f U listed s a w hU hnd hmem hsz htail agr h hall hcl
    refine draw_late hG hd hK hN (full := full) (s0 := s0) (vs := vs) hdi hole (fun i hi o ho => ?_) f U listed 0 full s a w hU hnd hmem hsz hall (fun t h1 h2 => ?_) hend (fun t _ => rfl) ?_ (fun t hnot => ?_) (fun _ => rfl) hcl h
    · have hin := (hd.late i hi).1
      obtain ⟨v, sf, h1, h2, h3, h4, h5⟩ := hy i o hin ho
      refine ⟨v, sf, h1, h2, fun t ht => ?_, fun d hdd => ?_, h3, hfda i hi o ho⟩
      · by_cases hx : ∃ j, j < n + m ∧ ds[j]? = some t
        · obtain ⟨j, hj, hjt⟩ := hx
          obtain ⟨hji, _⟩ := hd.looks i o (by omega) ho t ht j hj hjt
          have e1 := h4 t j hji hjt
          have e2 := hf1 t j hj hjt
          rw [e1] at e2
          exact Option.some.inj e2
        · rw [h5 t fun j hj hjt => hx ⟨j, by omega, hjt⟩, hf2 t fun j hj hjt => hx ⟨j, hj, hjt⟩]
      · have e2 := hf1 d i (by omega) hdd
        rw [h1] at e2
        exact (Option.some.inj e2).symm
    · rw [htail t h1 h2]; simp; omega
    · funext k
      by_cases hx : ∃ j, n ≤ j ∧ j < n + m ∧ ds[j]? = some k
      · obtain ⟨j, h1, h2, h3⟩ := hx
        rw [agr.own2 j k h1 h2 (hall j h2 fun hF => by have := (hd.late j hF).1; omega) h3, hf4 j k h1 h2 h3]
      · rw [agr.own1 k fun j h1 h2 _ h3 => hx ⟨j, h1, h2, h3⟩, hf3 k fun j h1 h2 h3 => hx ⟨j, h1, h2, h3⟩]
    · by_cases hx : ∃ j, j < n + m ∧ ds[j]? = some t
      · obtain ⟨j, h1, h2⟩ := hx
        have hl : listed.getD j true = true := by
          by_cases hF : j ∈ F
          · cases hl : listed.getD j true with
            | true => rfl
            | false => exact absurd h2 (hnot j hF hl)
          · exact hall j h1 hF
        have e1 := agr.hit t j h1 hl h2
        have e2 := hf1 t j h1 h2
        rw [e1] at e2
        exact Option.some.inj e2
      · rw [agr.miss t fun j h1 _ h2 => hx ⟨j, h1, h2⟩, hf2 t fun j h1 h2 => hx ⟨j, h1, h2⟩]
  intro f
  induction f with
  | zero =>
    intro U listed s a w hU hnd hmem hsz htail hclosed agr h
    refine late 0 U listed s a w hU hnd hmem hsz htail agr h (fun i hi _ => ?_) hclosed
    have hU0 : U = [] := List.eq_nil_of_length_eq_zero hU
    subst hU0
    cases hb : listed.getD i true with
    | true => rfl
    | false => have := (hmem i).2 ⟨by have := hd.le; omega, hb⟩; cases this
  | succ f ih =>
    intro U listed s a w hU hnd hmem hsz htail hclosed agr h
    by_cases hall : ∀ i, i < n + m → i ∉ F → listed.getD i true = true
    · exact late (f + 1) U listed s a w hU hnd hmem hsz htail agr h hall hclosed
    have hex : ∃ i0, i0 < n + m ∧ i0 ∉ F ∧ listed.getD i0 true = false := by
      refine Classical.byContradiction fun hx => hall fun i hi hF => ?_
      cases hb : listed.getD i true with
      | true => rfl
      | false => exact absurd ⟨i, hi, hF, hb⟩ hx
    refine ⟨fun hnil => absurd hnil (least_ready hsz hd.lex hmem (by intro e; rw [e] at hU; simp at hU)), fun i hi => ?_⟩
    obtain ⟨hun, o, ho, hallE⟩ := mem_ready.1 hi
    have hisz : i < ops.size := (Array.getElem?_eq_some_iff.1 ho).1
    have hwait : ∀ j, Region.waitsFor .any ops i j = true → listed.getD j true = true := by
      intro j hj
      obtain ⟨oj, hoj, e, he, hb, hon⟩ := Region.waitsFor_spec hj
      rw [ho] at hoj
      have hoj := Option.some.inj hoj
      subst hoj
      have h1 := hallE e he hb
      have h2 := hd.lex i o ho e he hb
      rw [hon] at h1 h2
      rw [getD_tf (by omega)]; exact h1
    have hin : i < n + m := by
      rcases Nat.lt_or_ge i (n + m) with h1 | h1
      · exact h1
      · exfalso
        by_cases hit : i = n + m
        · -- it waits for all of the head but for the late ones
          obtain ⟨i0, h2, h3, h4⟩ := hex
          have climb : ∀ (g j : Nat), n + m - j = g → j < n + m → j ∉ F → listed.getD j true = false → False := by
            intro g
            induction g using Nat.strongRecOn with
            | _ g ihg =>
              intro j hg hj hF hl
              obtain ⟨j', h5, h6, h7, h8⟩ := hd.sink (by omega) j hj hF
              by_cases hj' : j' = n + m
              · have := hwait j (by rw [hit, ← hj']; exact h8)
                rw [this] at hl; cases hl
              · have hF' : j' ∉ F := h7.resolve_left hj'
                cases hb : listed.getD j' true with
                | false => exact ihg (n + m - j') (by omega) j' rfl (by omega) hF' hb
                | true =>
                  obtain ⟨oj, hoj, e, he, hbd, hon⟩ := Region.waitsFor_spec h8
                  have := hclosed j' oj hoj hb e he hbd
                  rw [hon] at this
                  rw [this] at hl; cases hl
          exact climb _ i0 rfl h2 h3 h4
        · have h2 := hwait (i - 1) (hd.chain i (by omega) hisz)
          rw [htail (i - 1) (by omega) (by omega)] at h2
          cases h2
    obtain ⟨d, hdd, hod⟩ := hdi i o hin ho
    have hUi : i ∈ U := (hmem i).2 ⟨hisz, hun⟩
    have hil : i < listed.size := by omega
    have hset : ∀ k, (listed.setIfInBounds i true).getD k true = (if k = i then true else listed.getD k true) := fun k => by
      by_cases hki : k = i
      · subst hki; simp [hil]
      · rw [getD_set_ne true (Ne.symm hki), if_neg hki]
    have hNo : dstLt C.N o.dst = true := hN o (by have := Array.mem_of_getElem? ho; simpa using this)
    have hgo : ∀ s' a' w', Agr2 ds vs cs n m (listed.setIfInBounds i true) s0 s' → SimE C s' a' w' → wpAny P .any ops Q f (listed.setIfInBounds i true) a' w' := by
      intro s' a' w' agr' h'
      refine ih (U.erase i) _ s' a' w' (by rw [List.length_erase_of_mem hUi]; omega) (hnd.erase i) (fun k => ?_) (by simp [hsz]) (fun t h1 h2 => ?_) (fun k ok hok hl e he hb => ?_) agr' h'
      · rw [hnd.mem_erase_iff, hmem k, hset]
        by_cases hki : k = i
        · subst hki; simp
        · simp [hki]
      · rw [hset, if_neg (by omega)]; exact htail t h1 h2
      · rw [hset] at hl ⊢
        split
        · rfl
        · by_cases hki : k = i
          · subst hki
            rw [ho] at hok
            have hok := Option.some.inj hok
            subst hok
            have h1 := hallE e he hb
            have h2 := hd.lex k o ho e he hb
            rw [getD_tf (by omega)]; exact h1
          · rw [if_neg hki] at hl
            exact hclosed k ok hok hl e he hb
    have hagr : ∀ v s', vs[i]? = some v → (∀ t, s'.reg t = if t = d then v else s.reg t) → (i < n → s'.own = s.own) → (n ≤ i → (∀ k, k ≠ d → s'.own k = s.own k) ∧ s'.own d = ((s0.own d).1 + 1, cs[i - n]?)) → Agr2 ds vs cs n m (listed.setIfInBounds i true) s0 s' := by
      intro v s' hv hreg ho1 ho2
      have hself : (listed.setIfInBounds i true).getD i true = true := by rw [hset, if_pos rfl]
      refine ⟨fun t j hj hl hjt => ?_, fun t hm => ?_, fun k hm => ?_, fun j k h1 h2 hl hjk => ?_⟩
      · rw [hreg]
        by_cases htd : t = d
        · subst htd
          rw [if_pos rfl, hinj j i t hjt hdd]; exact hv
        · rw [if_neg htd]
          have hji : j ≠ i := by
            intro e; subst e
            rw [hdd] at hjt
            exact htd (Option.some.inj hjt).symm
          rw [hset, if_neg hji] at hl
          exact agr.hit t j hj hl hjt
      · have htd : t ≠ d := by
          intro e; subst e
          exact hm i hin hself hdd
        rw [hreg, if_neg htd]
        refine agr.miss t fun j hj hl hjt => hm j hj ?_ hjt
        rw [hset]; split
        · rfl
        · exact hl
      · have hs' : s'.own k = s.own k := by
          rcases Nat.lt_or_ge i n with h1 | h1
          · rw [ho1 h1]
          · refine (ho2 h1).1 k fun e => ?_
            subst e
            exact hm i h1 hin hself hdd
        rw [hs']
        refine agr.own1 k fun j h1 h2 hl hjk => hm j h1 h2 ?_ hjk
        rw [hset]; split
        · rfl
        · exact hl
      · by_cases hji : j = i
        · subst hji
          rw [hdd] at hjk
          have hjk := Option.some.inj hjk
          subst hjk
          exact (ho2 h1).2
        · rw [hset, if_neg hji] at hl
          have hkd : k ≠ d := by
            intro e; subst e
            exact hji (hinj j i k hjk hdd)
          have hs' : s'.own k = s.own k := by
            rcases Nat.lt_or_ge i n with h1 | h1
            · rw [ho1 h1]
            · exact (ho2 h1).1 k hkd
          rw [hs']
          exact agr.own2 j k h1 h2 hl hjk
    have hputr : ∀ v t, (s.put o.dst v).reg t = if t = d then v else s.reg t := by
      intro v t
      rw [hod]
      show (bif Nat.beq t d then v else s.reg t) = _
      by_cases htd : t = d
      · subst htd; simp
      · rw [nbeq_ne htd, if_neg htd]; rfl
    unfold wpOp
    rw [ho]
    simp only
    rcases Nat.lt_or_ge i n with hq | hq
    · obtain ⟨v, sf, h1, h2, h3, h4, h5⟩ := hy i o hq ho
      have hsame : ∀ t ∈ o.looksAt ops, sf.reg t = s.reg t := by
        intro t ht
        by_cases hx : ∃ j, j < n + m ∧ ds[j]? = some t
        · obtain ⟨j, hj, hjt⟩ := hx
          obtain ⟨hji, e, he, hb, hon⟩ := hd.looks i o hin ho t ht j hj hjt
          have hl : listed.getD j true = true := by
            have := hallE e he hb
            rw [hon] at this
            rw [getD_tf (by omega)]; exact this
          have e1 := agr.hit t j hj hl hjt
          have e2 := h4 t j hji hjt
          rw [e1] at e2
          exact (Option.some.inj e2).symm
        · rw [h5 t fun j hj hjt => hx ⟨j, by omega, hjt⟩, agr.miss t fun j hj _ hjt => hx ⟨j, hj, hjt⟩]
      have hown : OwnLe ⟨s.reg, s0.own⟩ s := by
        intro k
        by_cases hx : ∃ j, n ≤ j ∧ j < n + m ∧ ds[j]? = some k
        · obtain ⟨j, g1, g2, g3⟩ := hx
          exact .inr (hnone j k g1 g2 g3)
        · exact .inl (agr.own1 k fun j g1 g2 _ g3 => hx ⟨j, g1, g2, g3⟩)
      have hnext : ∀ a' w', SimE C (s.put o.dst v) a' w' → wpAny P .any ops Q f (listed.setIfInBounds i true) a' w' := fun a' w' h' =>
        hgo _ a' w' (hagr v _ h1 (hputr v) (fun _ => by rw [hod]; rfl) (fun g => by omega)) h'
      rcases h2 with ⟨g1, g2⟩ | ⟨g1, g2⟩
      · have g1' := g1.congr hsame
        rw [if_pos (g1'.spec h)]
        have g3 : QOp P L ⟨s.reg, s0.own⟩ o v := QOp.congr (s' := ⟨s.reg, s0.own⟩) h3 (ops_ev (s' := ⟨s.reg, s0.own⟩) hsame) g2
        exact .inl ((g3.le hown rfl).wp hG h hNo hnext)
      · have g1' := g1.congr hsame
        rw [if_neg (by rw [g1'.spec h]; simp)]
        refine hnext _ _ ?_
        rw [g2]
        exact h.put hNo undef
    · obtain ⟨c, d', h1, ⟨T, r, z, h2, h3, h4, h5, h6⟩, h7, h8, h9⟩ := ha i o hq hin ho
      rw [hdd] at h8
      have h8 := Option.some.inj h8
      subst h8
      have hown : s.own d = s0.own d := agr.own1 d fun j g1 g2 gl g3 => by
        have := hinj j i d g3 hdd
        subst this
        rw [hun] at gl; cases gl
      have hw : Wants ops s o true := .none h7
      rw [if_pos (hw.spec h)]
      have he : Eff P L s o ((s.fin d ⟨T, z.length, [z], 2⟩).putR d (.ptr d ((s.own d).1 + 1) 0 0)) := .alloc h2 hod h3 h4 h5
      refine .inl (he.sound hG.lay h hNo fun a' w' h' => hgo _ a' w' (hagr _ _ h9 (fun t => ?_) (fun g => by omega) fun _ => ⟨fun k hk => ?_, ?_⟩) h')
      · show (bif Nat.beq t d then _ else s.reg t) = _
        by_cases htd : t = d
        · subst htd; simp [hown]
        · rw [nbeq_ne htd, if_neg htd]; rfl
      · show (s.fin d _).own k = _
        rw [St.fin, setOwn_ne hk]
      · show (s.fin d _).own d = _
        rw [St.fin, setOwn_same, hown, h1, h6]

/-- What comes late looks at data. -/
def FD (ops : Array Oper) (nm : Nat) (F : List Nat) (s : St) : Bool := F.all fun i => match ops[i]? with
  | some o => dataAt s o.op || (List.range ops.size).all fun t => decide (t < nm) || WF2 ops t i || (match ops[t]? with
    | some ot => (match ot.op with | .assign x => !(s.ev x).isNil | .move x => !(s.ev x).isNil | _ => false) && (ot.looksAt ops).all fun x => (List.range ops.size).all fun q => decide (q < nm) || !((ops[q]?).bind (·.dst) == some x)
    | none => false)
  | none => false

def PDraw2 (P : Program) (L : Lay) (ops : Array Oper) (K : St → Prop) (s : St) : Prop :=
  ∃ n m ds F, drawOk2 ops n m ds F = true ∧ (∀ d ∈ ds.drop n, (s.own d).2 = none) ∧ PQuiet P L ops (fun s' => FD ops (n + m) F s' = true ∧ POps P L ops K (ops.toList.drop n) s') (ops.toList.take n) s

theorem PDraw2.sound (hG : Good P L C) {K' : St → Prop} {Q : Exit → Act → World → Prop} (hK : ∀ s' a' w', SimE C s' a' w' → K' s' → Q .normal a' w') (hN : ∀ o ∈ ops.toList, dstLt C.N o.dst = true) {id : Nat} {s : St}
    (h : SimE C s a w) (hq : PDraw2 P L ops K' s) : (Code.region id ops true).wp P Q a w := by
  obtain ⟨n, m, ds, F, hok, hnone, hq⟩ := hq
  have hd := drawOk2_spec hok
  have hle := hd.le
  have hdl : ds.length = n + m := by
    have := congrArg List.length hd.dst
    simp at this
    omega
  have hdi : ∀ i o, i < n + m → ops[i]? = some o → ∃ d, ds[i]? = some d ∧ o.dst = some d := by
    intro i o hi ho
    have h1 : i < ds.length := by omega
    refine ⟨ds[i], List.getElem?_eq_getElem h1, ?_⟩
    have h2 : ((ops.toList.take (n + m)).map (·.dst))[i]? = (ds.map some)[i]? := by rw [hd.dst]
    rw [List.getElem?_map, List.getElem?_map, List.getElem?_take, if_pos hi, List.getElem?_eq_getElem h1] at h2
    have h3 : ops.toList[i]? = some o := by simpa using ho
    rw [h3] at h2
    simpa using h2
  have hinj : ∀ (i j t : Nat), ds[i]? = some t → ds[j]? = some t → i = j := by
    intro i j t h1 h2
    have e1 := (List.getElem?_eq_some_iff.1 h1).2
    have e2 := (List.getElem?_eq_some_iff.1 h2).2
    exact (List.getElem_inj hd.nodup).1 (e1.trans e2.symm)
  have hdst1 : (ops.toList.take n).map (·.dst) = (ds.take n).map some := by
    have := congrArg (List.take n) hd.dst
    rwa [← List.map_take, ← List.map_take, List.take_take, Nat.min_eq_left (Nat.le_add_right n m)] at this
  have hdst2 : ((ops.toList.drop n).take m).map (·.dst) = (ds.drop n).map some := by
    have := congrArg (List.drop n) hd.dst
    rwa [← List.map_drop, ← List.map_drop, List.drop_take, Nat.add_sub_cancel_left] at this
  obtain ⟨vs1, h1, h2, hFD, h3⟩ := PQuiet.ylds _ (ds.take n) s hdst1 hq
  have hv1 : vs1.length = n := by rw [h1, List.length_take]; omega
  have hsplit : ops.toList.drop n = (ops.toList.drop n).take m ++ ops.toList.drop (n + m) := by
    rw [← List.drop_drop, List.take_append_drop]
  rw [hsplit] at h3
  have hget : ∀ q, q < m → ((ops.toList.drop n).take m)[q]? = ops[n + q]? := fun q hq => by
    rw [List.getElem?_take, if_pos hq, List.getElem?_drop]; simp
  obtain ⟨cs, g1, g2, g3⟩ := allocs_run ((ops.toList.drop n).take m) (ds.drop n) _ (fun o ho => by
    obtain ⟨q, hql, rfl⟩ := List.getElem_of_mem ho
    have hqm : q < m := by simp at hql; omega
    obtain ⟨o', T, e1, e2, e3⟩ := hd.allocs q hqm
    have := hget q hqm
    rw [List.getElem?_eq_getElem hql, e1] at this
    have := Option.some.inj this
    rw [this]; exact ⟨T, e2, e3⟩) hdst2 h3
  have hcl : cs.length = m := by rw [g1, List.length_drop]; omega
  have hnod1 : (ds.take n).Nodup := hd.nodup.sublist (List.take_sublist _ _)
  have hnod2 : (ds.drop n).Nodup := hd.nodup.sublist (List.drop_sublist _ _)
  have hz1 : ((ds.take n).zip vs1).map (·.1) = ds.take n := by rw [List.map_fst_zip (by omega)]
  have hz2 : ((ds.drop n).zip cs).map (·.1) = ds.drop n := by rw [List.map_fst_zip (by rw [g1]; exact Nat.le_refl _)]
  let q0 := puts ((ds.take n).zip vs1) s
  have hq0 : q0.own = s.own := puts_own _ _
  obtain ⟨a1, a2, a3⟩ := allocd_spec ((ds.drop n).zip cs) q0 (by rw [hz2]; exact hnod2)
  have hpt : (((ds.drop n).zip cs).map fun p => ((p.1, PV.ptr p.1 ((q0.own p.1).1 + 1) 0 0) : Nat × PV)) = (ds.drop n).map fun d => (d, PV.ptr d ((s.own d).1 + 1) 0 0) := by
    conv => rhs; rw [← hz2]
    rw [List.map_map]
    exact List.map_congr_left fun p _ => by simp [hq0]
  rw [hpt] at a1
  have hdd : ∀ j t, n ≤ j → ((ds.drop n)[j - n]? = some t ↔ ds[j]? = some t) := fun j t hj => by rw [List.getElem?_drop, Nat.add_sub_cancel' hj]
  -- registers before
  have before : ∀ (i t : Nat), i ≤ n → (∀ j, j < i → ds[j]? = some t → vs1[j]? = some ((puts (((ds.take n).zip vs1).take i) s).reg t)) ∧ ((∀ j, j < i → ds[j]? ≠ some t) → (puts (((ds.take n).zip vs1).take i) s).reg t = s.reg t) := by
    intro i t hi
    refine ⟨fun j hj hjt => ?_, fun hm => puts_miss _ _ _ fun p hp e => ?_⟩
    · have hjv : j < vs1.length := by omega
      rw [List.getElem?_eq_getElem hjv]
      congr 1
      refine (puts_hit _ s j t vs1[j] ?_ ?_).symm
      · rw [List.getElem?_take, if_pos hj]
        refine zip_get h1 ?_ (List.getElem?_eq_getElem hjv)
        rw [List.getElem?_take, if_pos (by omega)]; exact hjt
      · rw [List.map_take, hz1]; exact hnod1.sublist (List.take_sublist _ _)
    · obtain ⟨j, hj, rfl⟩ := List.getElem_of_mem hp
      simp at hj
      refine hm j (by omega) ?_
      rw [← e]
      simp
  have hfull : ((ds.take n).zip vs1).take n = (ds.take n).zip vs1 := List.take_of_length_le (by simp; omega)
  have before' := fun t => before n t (Nat.le_refl n)
  rw [hfull] at before'
  have ptrs : ∀ j t, n ≤ j → ds[j]? = some t → (allocd ((ds.drop n).zip cs) q0).reg t = .ptr t ((s.own t).1 + 1) 0 0 := by
    intro j t hj hjt
    rw [a1]
    refine puts_hit _ q0 (j - n) t _ ?_ (by rw [List.map_map, show ((fun x : Nat × PV => x.1) ∘ fun d : Nat => (d, PV.ptr d ((s.own d).1 + 1) 0 0)) = _root_.id from rfl, List.map_id]; exact hnod2)
    rw [List.getElem?_map, (hdd j t hj).2 hjt]; rfl
  have olds : ∀ t, (∀ j, n ≤ j → ds[j]? ≠ some t) → (allocd ((ds.drop n).zip cs) q0).reg t = q0.reg t := by
    intro t hm
    rw [a1]
    refine puts_miss _ _ _ fun p hp e => ?_
    obtain ⟨d, hdm, rfl⟩ := List.mem_map.1 hp
    obtain ⟨j, hj, hje⟩ := List.getElem_of_mem hdm
    refine hm (n + j) (by omega) ?_
    have : (ds.drop n)[j]? = some d := by rw [List.getElem?_eq_getElem hj, hje]
    rw [List.getElem?_drop] at this
    rw [this, ← e]
  have hfda : ∀ i ∈ F, ∀ o, ops[i]? = some o → dataAt (allocd ((ds.drop n).zip cs) q0) o.op = true ∨ ∀ t ot, n + m ≤ t → ops[t]? = some ot → WF2 ops t i = true ∨ MV ops n m (allocd ((ds.drop n).zip cs) q0) ot := by
    intro i hi o ho
    have e1 := List.all_eq_true.1 hFD i hi
    rw [ho] at e1
    simp only [Bool.or_eq_true] at e1
    rcases e1 with e1 | e1
    case inr =>
      refine .inr fun t ot ht hot => ?_
      have htl : t < ops.size := (Array.getElem?_eq_some_iff.1 hot).1
      have e2 := List.all_eq_true.1 e1 t (List.mem_range.2 htl)
      rw [hot] at e2
      simp only [Bool.or_eq_true, decide_eq_true_eq, Bool.and_eq_true] at e2
      rcases e2 with (e2 | e2) | ⟨e2, e3⟩
      · omega
      · exact .inl e2
      · have hnw : ∀ x ∈ ot.looksAt ops, ∀ (q : Nat) (oq : Oper), n + m ≤ q → ops[q]? = some oq → oq.dst ≠ some x := by
          intro x hx q oq hq hoq he
          have hql : q < ops.size := (Array.getElem?_eq_some_iff.1 hoq).1
          have e4 := List.all_eq_true.1 (List.all_eq_true.1 e3 x hx) q (List.mem_range.2 hql)
          rw [hoq] at e4
          simp only [Option.bind_some, he, beq_self_eq_true, Bool.not_true, Bool.or_false, decide_eq_true_eq] at e4
          omega
        have hev : ∀ x ∈ ot.op.operands, PV.isNil (q0.ev x) = false → (allocd ((ds.drop n).zip cs) q0).ev x ≠ .nil := by
          intro x hx hn' he
          cases x with
          | tmp tx =>
            by_cases hal : ∃ j, n ≤ j ∧ ds[j]? = some tx
            · obtain ⟨j, hj, hjt⟩ := hal
              have hp : (allocd ((ds.drop n).zip cs) q0).reg tx = _ := ptrs j tx hj hjt
              rw [show (allocd ((ds.drop n).zip cs) q0).ev (.tmp tx) = (allocd ((ds.drop n).zip cs) q0).reg tx from rfl, hp] at he
              cases he
            · have ho' : (allocd ((ds.drop n).zip cs) q0).reg tx = q0.reg tx := olds tx fun j hj hjt => hal ⟨j, hj, hjt⟩
              rw [show (allocd ((ds.drop n).zip cs) q0).ev (.tmp tx) = (allocd ((ds.drop n).zip cs) q0).reg tx from rfl, ho'] at he
              rw [show q0.ev (.tmp tx) = q0.reg tx from rfl, he] at hn'
              cases hn'
          | const c =>
            have he : q0.ev (.const c) = .nil := he
            rw [he] at hn'; cases hn'
          | global g => cases he
          | func f => cases he
        refine .inr ⟨?_, hnw⟩
        split at e2
        · rename_i x hop
          exact ⟨x, .inl hop, hev x (by rw [hop]; simp [Op.operands]) (by simpa using e2)⟩
        · rename_i x hop
          exact ⟨x, .inr hop, hev x (by rw [hop]; simp [Op.operands]) (by simpa using e2)⟩
        · cases e2
    have hin := (hd.late i hi).1
    refine .inl (dataAt_congr (ops_ev (ops := ops) fun t ht => (olds t fun j hj hjt => ?_).symm) e1)
    have hjl : j < n + m := by have := (List.getElem?_eq_some_iff.1 hjt).1; omega
    have := (hd.looks i o (by omega) ho t ht j hjl hjt).1
    omega
  refine wp_region_any hG.mixed ?_
  obtain ⟨γ, h⟩ := h
  have hrep : ∀ (j : Nat) (d : Bool), (Array.replicate ops.size false).getD j d = if j < ops.size then false else d := by
    intro j d
    by_cases hj : j < ops.size
    · simp [hj]
    · simp [hj]
  refine draw_two hG hd (Q := Q) hK hN (s0 := s) (full := allocd ((ds.drop n).zip cs) q0) (vs := vs1 ++ (ds.drop n).map fun d => .ptr d ((s.own d).1 + 1) 0 0) (cs := cs) hdi hinj
    (fun j k hj1 hj2 hjk => hnone k (List.mem_of_getElem? ((hdd j k hj1).2 hjk))) (fun i o hi ho => ?_) (fun i o hi1 hi2 ho => ?_) (fun t j hj hjt => ?_) (fun t hm => ?_) (fun k hm => ?_) (fun j k hj1 hj2 hjk => ?_) g3 hfda
    ops.size (List.range ops.size) (Array.replicate ops.size false) s a _ (by simp) List.nodup_range (fun i => by
      rw [List.mem_range, hrep]
      constructor
      · intro hi; exact ⟨hi, by rw [if_pos hi]⟩
      · exact fun x => x.1)
    (by simp) (fun t _ ht2 => by rw [hrep, if_pos ht2]) (fun i o ho hl => by rw [hrep, if_pos (Array.getElem?_eq_some_iff.1 ho).1] at hl; cases hl)
    ⟨fun t j hj hl => (by rw [hrep, if_pos (by omega)] at hl; cases hl), fun _ _ => rfl, fun _ _ => rfl, fun j k _ hj hl => (by rw [hrep, if_pos (by omega)] at hl; cases hl)⟩ ⟨γ, h.ext (below_drew w)⟩
  · have hiv : i < vs1.length := by omega
    have hti : (ops.toList.take n)[i]? = some o := by rw [List.getElem?_take, if_pos hi]; simpa using ho
    refine ⟨vs1[i], _, ?_, h2 i o vs1[i] hti (List.getElem?_eq_getElem hiv), puts_own _ _, fun t j hj hjt => ?_, fun t hm => (before i t (by omega)).2 hm⟩
    · rw [List.getElem?_append_left hiv]; exact List.getElem?_eq_getElem hiv
    · rw [List.getElem?_append_left (by omega)]
      exact (before i t (by omega)).1 j hj hjt
  · obtain ⟨d, hdd', hod⟩ := hdi i o hi2 ho
    have hic : i - n < cs.length := by omega
    obtain ⟨o', T, e1, e2, e3⟩ := hd.allocs (i - n) (by omega)
    have hin : n + (i - n) = i := by omega
    rw [hin, ho] at e1
    have e1 := Option.some.inj e1
    subst e1
    refine ⟨cs[i - n], d, List.getElem?_eq_getElem hic, g2 (i - n) o _ (by rw [hget (i - n) (by omega), hin]; exact ho) (List.getElem?_eq_getElem hic), e3, hdd', ?_⟩
    rw [List.getElem?_append_right (by omega), hv1, List.getElem?_map, (hdd i d hi1).2 hdd']; rfl
  · rcases Nat.lt_or_ge j n with hjn | hjn
    · rw [List.getElem?_append_left (by omega), olds t fun j' hj' hjt' => by have := hinj j j' t hjt hjt'; omega]
      exact (before' t).1 j hjn hjt
    · rw [List.getElem?_append_right (by omega), hv1, List.getElem?_map, (hdd j t hjn).2 hjt, ptrs j t hjn hjt]; rfl
  · rw [olds t fun j hj hjt => hm j (by have := (List.getElem?_eq_some_iff.1 hjt).1; omega) hjt]
    exact (before' t).2 fun j hj => hm j (by omega)
  · rw [a3 k fun hk => ?_, hq0]
    rw [hz2] at hk
    obtain ⟨j, hj, hje⟩ := List.getElem_of_mem hk
    have : (ds.drop n)[j]? = some k := by rw [List.getElem?_eq_getElem hj, hje]
    rw [List.getElem?_drop] at this
    exact hm (n + j) (by omega) (by simp at hj; omega) this
  · have hic : j - n < cs.length := by omega
    rw [a2 k cs[j - n] ?_, hq0, List.getElem?_eq_getElem hic]
    refine List.mem_of_getElem? (i := j - n) ?_
    rw [List.getElem?_zip_eq_some]
    exact ⟨(hdd j k hj1).2 hjk, List.getElem?_eq_getElem hic⟩
end
end Go.Pv

/- Regions in a drawn order: what looks at nothing that the region writes may come at any time; the other operations stand in one order. -/
namespace Go.Pv
open Go.RowKit

def zin : List Nat → Nat → Bool
  | [], _ => false
  | z :: Z, k => bif Nat.beq k z then true else zin Z k
/-- The state, its contents at some sites forgotten. -/
def St.erase (Z : List Nat) (s : St) : St := { s with own := fun k => bif zin Z k then ((s.own k).1, none) else s.own k }

section
variable {P : Program} {L : Lay} {C : Ctx} {a : Act} {w w' : World} {ops : Array Oper}

inductive Step3 (P : Program) (L : Lay) (ops : Array Oper) (Z : List Nat) : Bool → St → Oper → St → Prop
  | no {c : Bool} {s : St} {o : Oper} (h : Wants ops s o false) : Step3 P L ops Z c s o (s.put o.dst (.raw undef))
  | free {s : St} {o : Oper} {v : PV} (h : Wants ops s o true) (hq : QOp P L (s.erase Z) o v) : Step3 P L ops Z false s o (s.put o.dst v)
  | quiet {s : St} {o : Oper} {v : PV} (h : Wants ops s o true) (hq : QOp P L s o v) : Step3 P L ops Z true s o (s.put o.dst v)
  | eff {s s' : St} {o : Oper} (h : Wants ops s o true) (he : Eff P L s o s') (hz : ∀ k, zin Z k = false → s'.own k = s.own k) : Step3 P L ops Z true s o s'

def P3 (P : Program) (L : Lay) (ops : Array Oper) (Z : List Nat) (cls : Nat → Bool) (K : St → Prop) : Nat → List Oper → St → Prop
  | _, [], s => K s
  | i, o :: rest, s => ∃ s', Step3 P L ops Z (cls i) s o s' ∧ P3 P L ops Z cls K (i + 1) rest s'

theorem P3.run {Z : List Nat} {cls : Nat → Bool} {K : St → Prop} : ∀ (l : List Oper) (i : Nat) (s : St), P3 P L ops Z cls K i l s → ∃ S : Nat → St, S 0 = s ∧ (∀ (j : Nat) (o : Oper), l[j]? = some o → Step3 P L ops Z (cls (i + j)) (S j) o (S (j + 1))) ∧ K (S l.length)
  | [], i, s, h => ⟨fun _ => s, rfl, fun j o hj => by simp at hj, h⟩
  | o :: l, i, s, ⟨s', h1, h2⟩ => by
    obtain ⟨S, g1, g2, g3⟩ := P3.run l (i + 1) s' h2
    refine ⟨fun n => match n with | 0 => s | n + 1 => S n, rfl, fun j o' hj => ?_, g3⟩
    cases j with
    | zero => simp at hj; subst hj; show Step3 _ _ _ _ _ s o (S 0); rw [g1]; exact h1
    | succ j =>
      have := g2 j o' (by simpa using hj)
      rw [show i + 1 + j = i + (j + 1) by omega] at this
      exact this

/-! ### What the looks at the text say -/
def maskOf (acc : List Nat) (o : Oper) : Nat := o.after.toList.foldl (fun m e => bif Region.binds .any e then m ||| 2 ^ e.on ||| acc.getD e.on 0 else m) 0
def masksGo : List Oper → List Nat → List Nat
  | [], acc => acc
  | o :: l, acc => masksGo l (acc ++ [maskOf acc o])
def masks (ops : Array Oper) : List Nat := masksGo ops.toList []
theorem maskOf_spec {acc : List Nat} {j : Nat} : ∀ (l : List Edge) (m : Nat), (l.foldl (fun m e => bif Region.binds .any e then m ||| 2 ^ e.on ||| acc.getD e.on 0 else m) m).testBit j = true →
    m.testBit j = true ∨ ∃ e ∈ l, Region.binds .any e = true ∧ (e.on = j ∨ (acc.getD e.on 0).testBit j = true)
  | [], m, h => .inl h
  | e :: l, m, h => by
    rw [List.foldl_cons] at h
    rcases maskOf_spec l _ h with h1 | ⟨e', he', h2⟩
    · cases hb : Region.binds .any e with
      | false => rw [hb] at h1; exact .inl h1
      | true =>
        rw [hb, cond_true, Nat.testBit_or, Nat.testBit_or, Nat.testBit_two_pow] at h1
        simp only [Bool.or_eq_true, decide_eq_true_eq] at h1
        rcases h1 with (h1 | h1) | h1
        · exact .inl h1
        · exact .inr ⟨e, by simp, hb, .inl h1⟩
        · exact .inr ⟨e, by simp, hb, .inr h1⟩
    · exact .inr ⟨e', by simp [he'], h2⟩
def MaskOk (all : List Oper) (acc : List Nat) : Prop := ∀ i j : Nat, (acc.getD i 0).testBit j = true → ∃ o, all[i]? = some o ∧ ∃ e ∈ o.after, Region.binds .any e = true ∧ (e.on = j ∨ (acc.getD e.on 0).testBit j = true)
theorem masksGo_ok (all : List Oper) : ∀ (l : List Oper) (acc : List Nat), all = all.take acc.length ++ l → acc.length ≤ all.length → MaskOk all acc → MaskOk all (masksGo l acc)
  | [], _, _, _, h => h
  | o :: l, acc, ha, hle, h => by
    have hlt : acc.length < all.length := by
      have := congrArg List.length ha
      rw [List.length_append, List.length_take, List.length_cons] at this
      omega
    have ho : all[acc.length]? = some o := by
      have : (all.take acc.length).length = acc.length := by rw [List.length_take]; omega
      rw [ha, List.getElem?_append_right (by omega), this]
      simp
    refine masksGo_ok all l _ ?_ (by simp; omega) fun i j hij => ?_
    · rw [List.length_append, List.length_singleton, take_snoc' ho, List.append_assoc]
      exact ha
    · have low : ∀ q, (acc.getD q 0).testBit j = true → ((acc ++ [maskOf acc o]).getD q 0).testBit j = true := by
        intro q hq
        rcases Nat.lt_or_ge q acc.length with h1 | h1
        · rw [List.getD_eq_getElem?_getD, List.getElem?_append_left h1, ← List.getD_eq_getElem?_getD]; exact hq
        · rw [List.getD_eq_getElem?_getD, List.getElem?_eq_none h1] at hq
          simp at hq
      rcases Nat.lt_trichotomy i acc.length with h1 | h1 | h1
      · rw [List.getD_eq_getElem?_getD, List.getElem?_append_left h1, ← List.getD_eq_getElem?_getD] at hij
        obtain ⟨o', e1, e, e2, e3, e4⟩ := h i j hij
        exact ⟨o', e1, e, e2, e3, e4.imp _root_.id (low _)⟩
      · subst h1
        rw [List.getD_eq_getElem?_getD, List.getElem?_append_right (Nat.le_refl _), Nat.sub_self] at hij
        rcases maskOf_spec _ 0 (show (maskOf acc o).testBit j = true from hij) with h2 | ⟨e, e2, e3, e4⟩
        · simp at h2
        · exact ⟨o, ho, e, by simpa using e2, e3, e4.imp _root_.id (low _)⟩
      · rw [List.getD_eq_getElem?_getD, List.getElem?_eq_none (by simp; omega)] at hij
        simp at hij
where
  take_snoc' {α : Type} {l : List α} {k : Nat} {x : α} (hx : l[k]? = some x) : l.take (k + 1) = l.take k ++ [x] := by
    rw [List.take_add_one, hx]; rfl
theorem masks_ok (ops : Array Oper) : MaskOk ops.toList (masks ops) :=
  masksGo_ok ops.toList ops.toList [] (by simp) (by simp) fun i j h => by simp at h

def drawOk3 (ops : Array Oper) (ch : List Nat) : Bool :=
  decide (ops.toList.filterMap (·.dst)).Nodup && (List.range ops.size).all fun i => match ops[i]? with
    | some o => o.after.all (fun e => !Region.binds .any e || decide (e.on < i)) &&
      ((o.looksAt ops).all fun t => (List.range ops.size).all fun j => decide (j = i) || !((ops[j]?).bind (·.dst) == some t) || (bif decide (j < i) then ((masks ops).getD i 0).testBit j else ((masks ops).getD j 0).testBit i)) &&
      (!zin ch i || (List.range i).all fun j => !zin ch j || ((masks ops).getD i 0).testBit j)
    | none => false
structure Draw3Ok (ops : Array Oper) (ch : List Nat) : Prop where
  nodup : ∀ (i j : Nat) (o o' : Oper) (t : Nat), ops[i]? = some o → ops[j]? = some o' → o.dst = some t → o'.dst = some t → i = j
  lex : ∀ i o, ops[i]? = some o → ∀ e ∈ o.after, Region.binds .any e = true → e.on < i
  reads : ∀ i o, ops[i]? = some o → ∀ t ∈ o.looksAt ops, ∀ j o', ops[j]? = some o' → o'.dst = some t → j ≠ i → (j < i → ((masks ops).getD i 0).testBit j = true) ∧ (i < j → ((masks ops).getD j 0).testBit i = true)
  chain : ∀ i j, i < ops.size → zin ch i = true → zin ch j = true → j < i → ((masks ops).getD i 0).testBit j = true
theorem filterMap_nodup {α : Type} {f : α → Option Nat} : ∀ {l : List α}, (l.filterMap f).Nodup → ∀ (i j : Nat) (x y : α) (t : Nat), l[i]? = some x → l[j]? = some y → f x = some t → f y = some t → i = j
  | [], _, i, j, x, y, t, h1, _, _, _ => by simp at h1
  | b :: l, hn, i, j, x, y, t, h1, h2, h3, h4 => by
    have hl : (l.filterMap f).Nodup := by
      rw [List.filterMap_cons] at hn
      split at hn
      · exact hn
      · exact (List.nodup_cons.1 hn).2
    have one : ∀ (k : Nat) z, f b = some t → l[k]? = some z → f z = some t → False := by
      intro k z g1 g2 g3
      rw [List.filterMap_cons, g1] at hn
      exact (List.nodup_cons.1 hn).1 (List.mem_filterMap.2 ⟨z, List.mem_of_getElem? g2, g3⟩)
    cases i with
    | zero =>
      cases j with
      | zero => rfl
      | succ j => simp at h1 h2; subst h1; exact (one j y h3 h2 h4).elim
    | succ i =>
      cases j with
      | zero => simp at h1 h2; subst h2; exact (one i x h4 h1 h3).elim
      | succ j => rw [filterMap_nodup hl i j x y t (by simpa using h1) (by simpa using h2) h3 h4]
theorem drawOk3_spec {ch : List Nat} (h : drawOk3 ops ch = true) : Draw3Ok ops ch := by
  simp only [drawOk3, Bool.and_eq_true, decide_eq_true_eq] at h
  obtain ⟨h0, h⟩ := h
  have hget : ∀ {i : Nat} {o : Oper}, ops[i]? = some o → ops.toList[i]? = some o := fun {i} {o} h => by rw [Array.getElem?_toList]; exact h
  refine ⟨fun i j o o' t h1 h2 h3 h4 => filterMap_nodup h0 i j o o' t (hget h1) (hget h2) h3 h4, fun i o ho e he hb => ?_, fun i o ho t ht j o' ho' hd hne => ?_, fun i j hi hzi hzj hlt => ?_⟩
  · have hi := (Array.getElem?_eq_some_iff.1 ho).1
    have e1 := List.all_eq_true.1 h i (List.mem_range.2 hi)
    rw [ho] at e1
    simp only [Bool.and_eq_true] at e1
    have e2 := Array.all_eq_true_iff_forall_mem.1 e1.1.1 e he
    simpa [hb] using e2
  · have hi := (Array.getElem?_eq_some_iff.1 ho).1
    have hj := (Array.getElem?_eq_some_iff.1 ho').1
    have e1 := List.all_eq_true.1 h i (List.mem_range.2 hi)
    rw [ho] at e1
    simp only [Bool.and_eq_true] at e1
    have e2 := List.all_eq_true.1 (List.all_eq_true.1 e1.1.2 t ht) j (List.mem_range.2 hj)
    rw [ho'] at e2
    simp only [Option.bind_some, hd, beq_self_eq_true, Bool.not_true, Bool.or_false, Bool.or_eq_true, decide_eq_true_eq] at e2
    rcases e2 with e2 | e2
    · exact absurd e2 hne
    · refine ⟨fun hlt => ?_, fun hlt => ?_⟩
      · rw [decide_eq_true hlt] at e2; exact e2
      · rw [decide_eq_false (by omega)] at e2; exact e2
  · have e1 := List.all_eq_true.1 h i (List.mem_range.2 hi)
    rw [Array.getElem?_eq_getElem hi] at e1
    simp only [Bool.and_eq_true, hzi, Bool.not_true, Bool.false_or] at e1
    have e2 := List.all_eq_true.1 e1.2 j (List.mem_range.2 hlt)
    simpa [hzj] using e2

def Clo (ops : Array Oper) (listed : Array Bool) : Prop := ∀ i o, ops[i]? = some o → listed.getD i true = true → ∀ e ∈ o.after, Region.binds .any e = true → listed.getD e.on true = true
theorem mask_ready {ch : List Nat} (hd : Draw3Ok ops ch) {listed : Array Bool} (hc : Clo ops listed) : ∀ (f i : Nat) (o : Oper), i ≤ f → ops[i]? = some o → (∀ e ∈ o.after, Region.binds .any e = true → listed.getD e.on true = true) → ∀ j, ((masks ops).getD i 0).testBit j = true → listed.getD j true = true := by
  intro f
  induction f with
  | zero =>
    intro i o hi ho hall j hj
    obtain ⟨o', e1, e, e2, e3, e4⟩ := masks_ok ops i j hj
    have e1 : ops[i]? = some o' := by simpa using e1
    rw [ho] at e1
    cases e1
    have := hd.lex i o ho e e2 e3
    omega
  | succ f ih =>
    intro i o hi ho hall j hj
    obtain ⟨o', e1, e, e2, e3, e4⟩ := masks_ok ops i j hj
    have e1 : ops[i]? = some o' := by simpa using e1
    rw [ho] at e1
    cases e1
    have hlt := hd.lex i o ho e e2 e3
    have hl := hall e e2 e3
    rcases e4 with e4 | e4
    · rw [← e4]; exact hl
    · have hsz : e.on < ops.size := by have := (Array.getElem?_eq_some_iff.1 ho).1; omega
      exact ih e.on ops[e.on] (by omega) (Array.getElem?_eq_getElem hsz) (fun e' he' hb => hc e.on _ (Array.getElem?_eq_getElem hsz) hl e' he' hb) j e4

/-! ### Runs in the order of the text -/
theorem put_miss {o : Oper} {s : St} {v : PV} {t : Nat} (h : o.dst ≠ some t) : (s.put o.dst v).reg t = s.reg t := by
  cases hd : o.dst with
  | none => rfl
  | some d =>
    show (bif Nat.beq t d then v else s.reg t) = _
    have : t ≠ d := fun e => h (by rw [hd, e])
    rw [nbeq_ne this]; rfl
theorem put_hit {o : Oper} {s : St} {v : PV} {t : Nat} (h : o.dst = some t) : (s.put o.dst v).reg t = v := by
  rw [h]
  show (bif Nat.beq t t then v else s.reg t) = _
  simp
variable {Z ch : List Nat} {S : Nat → St}
theorem Step3.reg {c : Bool} {s s' : St} {o : Oper} (h : Step3 P L ops Z c s o s') {t : Nat} (ht : o.dst ≠ some t) : s'.reg t = s.reg t := by
  cases h with
  | no h => exact put_miss ht
  | free h hq => exact put_miss ht
  | quiet h hq => exact put_miss ht
  | eff h he hz =>
    obtain ⟨_, _, _, _, h4⟩ := he.congr rfl fun _ _ => rfl
    exact (h4 t ht).2
theorem Step3.off {c : Bool} {s s' : St} {o : Oper} (h : Step3 P L ops Z c s o s') {k : Nat} (hk : zin Z k = false) : s'.own k = s.own k := by
  cases h with
  | no h => rw [put_own]
  | free h hq => rw [put_own]
  | quiet h hq => rw [put_own]
  | eff h he hz => exact hz k hk
theorem Step3.same {s s' : St} {o : Oper} (h : Step3 P L ops Z false s o s') : s'.own = s.own := by
  cases h with
  | no h => rw [put_own]
  | free h hq => rw [put_own]
abbrev Run3 (P : Program) (L : Lay) (ops : Array Oper) (Z ch : List Nat) (S : Nat → St) : Prop := ∀ (i : Nat) (o : Oper), ops[i]? = some o → Step3 P L ops Z (zin ch i) (S i) o (S (i + 1))
theorem run_off (hr : Run3 P L ops Z ch S) {k : Nat} (hk : zin Z k = false) : ∀ i, i ≤ ops.size → (S i).own k = (S 0).own k
  | 0, _ => rfl
  | i + 1, hi => by rw [(hr i _ (Array.getElem?_eq_getElem (by omega))).off hk, run_off hr hk i (by omega)]
theorem run_own (hr : Run3 P L ops Z ch S) {i : Nat} : ∀ d, i + d ≤ ops.size → (∀ q, i ≤ q → q < i + d → zin ch q = false) → (S (i + d)).own = (S i).own
  | 0, _, _ => rfl
  | d + 1, hd, h => by
    have h1 := hr (i + d) _ (Array.getElem?_eq_getElem (by omega))
    rw [h (i + d) (by omega) (by omega)] at h1
    rw [← Nat.add_assoc, h1.same, run_own hr d (by omega) fun q h1 h2 => h q h1 (by omega)]
theorem run_reg (hr : Run3 P L ops Z ch S) {t i : Nat} : ∀ d, i + d ≤ ops.size → (∀ q o, i ≤ q → q < i + d → ops[q]? = some o → o.dst ≠ some t) → (S (i + d)).reg t = (S i).reg t
  | 0, _, _ => rfl
  | d + 1, hd, h => by
    rw [← Nat.add_assoc, (hr (i + d) _ (Array.getElem?_eq_getElem (by omega))).reg (h (i + d) _ (by omega) (by omega) (Array.getElem?_eq_getElem (by omega))), run_reg hr d (by omega) fun q o h1 h2 => h q o h1 (by omega)]

structure Agr3 (ops : Array Oper) (Z ch : List Nat) (S : Nat → St) (listed : Array Bool) (s : St) : Prop where
  hit : ∀ i o t, ops[i]? = some o → listed.getD i true = true → o.dst = some t → s.reg t = (S (i + 1)).reg t
  miss : ∀ t, (∀ i o, ops[i]? = some o → listed.getD i true = true → o.dst ≠ some t) → s.reg t = (S 0).reg t
  off : ∀ k, zin Z k = false → s.own k = (S 0).own k
  on : ∃ q, q ≤ ops.size ∧ (∀ i, i < ops.size → zin ch i = true → (listed.getD i true = true ↔ i < q)) ∧ ∀ k, zin Z k = true → s.own k = (S q).own k

/-- What an operation that may come now reads, it reads as in the order of the text. -/
theorem agr_reads (hd : Draw3Ok ops ch) (hr : Run3 P L ops Z ch S) {listed : Array Bool} {s : St} (hag : Agr3 ops Z ch S listed s) (hc : Clo ops listed) {j : Nat} {o : Oper} (ho : ops[j]? = some o) (hun : listed.getD j true = false)
    (hall : ∀ e ∈ o.after, Region.binds .any e = true → listed.getD e.on true = true) {t : Nat} (ht : t ∈ o.looksAt ops) : (S j).reg t = s.reg t := by
  have hjl := (Array.getElem?_eq_some_iff.1 ho).1
  by_cases hx : ∃ (i : Nat) (o' : Oper), ops[i]? = some o' ∧ o'.dst = some t
  · obtain ⟨i, o', hi, hdi⟩ := hx
    have hil := (Array.getElem?_eq_some_iff.1 hi).1
    have hone : ∀ (q : Nat) (o : Oper), ops[q]? = some o → o.dst = some t → q = i := fun q o h1 h2 => hd.nodup q i o o' t h1 hi h2 hdi
    have hno : listed.getD i true = false → s.reg t = (S 0).reg t := fun hl => hag.miss t fun q oq h1 h2 h3 => by
      rw [hone q oq h1 h3, hl] at h2; cases h2
    rcases Nat.lt_trichotomy i j with hlt | he | hlt
    · have hm := (hd.reads j o ho t ht i o' hi hdi (by omega)).1 hlt
      have hl := mask_ready hd hc j j o (Nat.le_refl _) ho hall i hm
      rw [hag.hit i o' t hi hl hdi]
      have := run_reg hr (t := t) (i := i + 1) (j - (i + 1)) (by omega) fun q oq h1 h2 h3 h4 => by have := hone q oq h3 h4; omega
      rwa [show i + 1 + (j - (i + 1)) = j by omega] at this
    · subst he
      rw [hno hun]
      have := run_reg hr (t := t) (i := 0) i (by omega) fun q oq h1 h2 h3 h4 => by have := hone q oq h3 h4; omega
      rwa [Nat.zero_add] at this
    · have hm := (hd.reads j o ho t ht i o' hi hdi (by omega)).2 hlt
      have hl : listed.getD i true = false := by
        cases hb : listed.getD i true with
        | false => rfl
        | true =>
          have := mask_ready hd hc i i o' (Nat.le_refl _) hi (fun e he hbd => hc i o' hi hb e he hbd) j hm
          rw [hun] at this; cases this
      rw [hno hl]
      have := run_reg hr (t := t) (i := 0) j (by omega) fun q oq h1 h2 h3 h4 => by have := hone q oq h3 h4; omega
      rwa [Nat.zero_add] at this
  · rw [hag.miss t fun q oq h1 _ h3 => hx ⟨q, oq, h1, h3⟩]
    have := run_reg hr (t := t) (i := 0) j (by omega) fun q oq h1 h2 h3 h4 => hx ⟨q, oq, h3, h4⟩
    rwa [Nat.zero_add] at this
/-- What stands in one order meets the memory as in the order of the text. -/
theorem agr_own (hd : Draw3Ok ops ch) (hr : Run3 P L ops Z ch S) {listed : Array Bool} {s : St} (hag : Agr3 ops Z ch S listed s) (hc : Clo ops listed) {j : Nat} {o : Oper} (ho : ops[j]? = some o) (hun : listed.getD j true = false)
    (hall : ∀ e ∈ o.after, Region.binds .any e = true → listed.getD e.on true = true) (hz : zin ch j = true) : (S j).own = s.own ∧ ∀ i, i < ops.size → zin ch i = true → i ≠ j → (listed.getD i true = true ↔ i < j) := by
  have hjl := (Array.getElem?_eq_some_iff.1 ho).1
  have hord : ∀ i, i < ops.size → zin ch i = true → i ≠ j → (listed.getD i true = true ↔ i < j) := by
    intro i hi hzi hne
    constructor
    · intro hl
      rcases Nat.lt_or_ge i j with h | h
      · exact h
      · have hm := hd.chain i j hi hzi hz (by omega)
        have := mask_ready hd hc i i _ (Nat.le_refl _) (Array.getElem?_eq_getElem hi) (fun e he hb => hc i _ (Array.getElem?_eq_getElem hi) hl e he hb) j hm
        rw [hun] at this; cases this
    · intro hlt
      exact mask_ready hd hc j j o (Nat.le_refl _) ho hall i (hd.chain j i hjl hz hzi hlt)
  refine ⟨?_, hord⟩
  funext k
  cases hk : zin Z k with
  | false => rw [run_off hr hk j (by omega), hag.off k hk]
  | true =>
    obtain ⟨q, hq, h1, h2⟩ := hag.on
    rw [h2 k hk]
    have hjq : ¬ j < q := fun h => by
      have := (h1 j hjl hz).2 h
      rw [hun] at this; cases this
    have := run_own hr (i := q) (j - q) (by omega) fun i g1 g2 => by
      cases hzi : zin ch i with
      | false => rfl
      | true =>
        have hlt : i < j := by omega
        have := (h1 i (by omega) hzi).1 ((hord i (by omega) hzi (by omega)).2 hlt)
        omega
    rw [show q + (j - q) = j by omega] at this
    rw [this]

theorem draw_three (hG : Good P L C) (hd : Draw3Ok ops ch) {K' : St → Prop} {Q : Exit → Act → World → Prop} (hK : ∀ s' a' w', SimE C s' a' w' → K' s' → Q .normal a' w')
    (hN : ∀ o ∈ ops.toList, dstLt C.N o.dst = true) (hr : Run3 P L ops Z ch S) (hend : K' (S ops.size)) :
    ∀ (f : Nat) (U : List Nat) (listed : Array Bool) (s : St) (a : Act) (w : World), U.length = f → U.Nodup → (∀ i, i ∈ U ↔ i < ops.size ∧ listed.getD i true = false) → listed.size = ops.size → Clo ops listed → Agr3 ops Z ch S listed s → SimE C s a w →
      wpAny P .any ops Q f listed a w := by
  intro f
  induction f with
  | zero =>
    intro U listed s a w hU _ hmem hsz hc hag h
    have hU0 : U = [] := List.eq_nil_of_length_eq_zero hU
    subst hU0
    have hall : ∀ i, i < ops.size → listed.getD i true = true := fun i hi => by
      cases hb : listed.getD i true with
      | true => rfl
      | false => have := (hmem i).2 ⟨hi, hb⟩; cases this
    refine ⟨all_listed hmem, hK _ _ _ h ?_⟩
    have : s = S ops.size := by
      refine St.ext' (funext fun t => ?_) (funext fun k => ?_)
      · by_cases hx : ∃ (i : Nat) (o' : Oper), ops[i]? = some o' ∧ o'.dst = some t
        · obtain ⟨i, o', hi, hdi⟩ := hx
          have hil := (Array.getElem?_eq_some_iff.1 hi).1
          rw [hag.hit i o' t hi (hall i hil) hdi]
          have := run_reg hr (t := t) (i := i + 1) (ops.size - (i + 1)) (by omega) fun q oq h1 h2 h3 h4 => by have := hd.nodup q i oq o' t h3 hi h4 hdi; omega
          rw [show i + 1 + (ops.size - (i + 1)) = ops.size by omega] at this
          exact this.symm
        · rw [hag.miss t fun q oq h1 _ h3 => hx ⟨q, oq, h1, h3⟩]
          have := run_reg hr (t := t) (i := 0) ops.size (by omega) fun q oq h1 h2 h3 h4 => hx ⟨q, oq, h3, h4⟩
          rw [Nat.zero_add] at this
          exact this.symm
      · cases hk : zin Z k with
        | false => rw [run_off hr hk _ (Nat.le_refl _), hag.off k hk]
        | true =>
          obtain ⟨q, hq, h1, h2⟩ := hag.on
          rw [h2 k hk]
          have := run_own hr (i := q) (ops.size - q) (by omega) fun i g1 g2 => by
            cases hzi : zin ch i with
            | false => rfl
            | true =>
              have := (h1 i (by omega) hzi).1 (hall i (by omega))
              omega
          rw [show q + (ops.size - q) = ops.size by omega] at this
          rw [this]
    rw [this]; exact hend
  | succ f ih =>
    intro U listed s a w hU hnd hmem hsz hc hag h
    refine ⟨fun hnil => absurd hnil (least_ready hsz hd.lex hmem (fun he => by rw [he] at hU; simp at hU)), fun j hj => ?_⟩
    obtain ⟨hun, o, ho, hall0⟩ := mem_ready.1 hj
    have hjl := (Array.getElem?_eq_some_iff.1 ho).1
    have hlex := hd.lex j o ho
    have hall : ∀ e ∈ o.after, Region.binds .any e = true → listed.getD e.on true = true := fun e he hb => by
      have h1 := hall0 e he hb
      rw [getD_tf (by rw [hsz]; have := hlex e he hb; omega)]; exact h1
    have hjs : j < listed.size := by rw [hsz]; exact hjl
    have hNo : dstLt C.N o.dst = true := hN o (by have := Array.mem_of_getElem? ho; simpa using this)
    have hreads : ∀ t ∈ o.looksAt ops, (S j).reg t = s.reg t := fun t ht => agr_reads hd hr hag hc ho hun hall ht
    have hnew : ∀ q, (listed.setIfInBounds j true).getD q true = true ↔ q = j ∨ listed.getD q true = true := fun q => by
      by_cases hq : q = j
      · subst hq; simp [hjs]
      · rw [getD_set_ne true (Ne.symm hq)]; simp [hq]
    have hnext : ∀ s' a' w', (∀ t, o.dst = some t → s'.reg t = (S (j + 1)).reg t) → (∀ t, o.dst ≠ some t → s'.reg t = s.reg t) → (∀ k, zin Z k = false → s'.own k = s.own k) →
        (zin ch j = false → s'.own = s.own) → (zin ch j = true → ∀ k, zin Z k = true → s'.own k = (S (j + 1)).own k) → SimE C s' a' w' → wpAny P .any ops Q f (listed.setIfInBounds j true) a' w' := by
      intro s' a' w' g1 g2 g3 g4 g5 h'
      have hUj : j ∈ U := (hmem j).2 ⟨hjl, hun⟩
      refine ih (U.erase j) _ s' a' w' (by rw [List.length_erase_of_mem hUj]; omega) (hnd.erase j) (fun k => ?_) (by simpa using hsz) ?_ ?_ h'
      · rw [hnd.mem_erase_iff, hmem k]
        by_cases hki : k = j
        · subst hki
          simp [hjs]
        · rw [getD_set_ne true (Ne.symm hki)]
          exact ⟨fun x => x.2, fun x => ⟨hki, x⟩⟩
      · intro i oi hi hl e he hb
        rw [hnew]
        rcases (hnew i).1 hl with rfl | hl'
        · rw [ho] at hi; cases hi; exact .inr (hall e he hb)
        · exact .inr (hc i oi hi hl' e he hb)
      · refine ⟨fun i oi t hi hl hdi => ?_, fun t hm => ?_, fun k hk => by rw [g3 k hk, hag.off k hk], ?_⟩
        · rcases (hnew i).1 hl with rfl | hl'
          · rw [ho] at hi; cases hi; exact g1 t hdi
          · have hij : i ≠ j := fun e => by rw [e, hun] at hl'; cases hl'
            rw [g2 t (fun hdj => hij (hd.nodup i j oi o t hi ho hdi hdj)), hag.hit i oi t hi hl' hdi]
        · rw [g2 t (hm j o ho ((hnew j).2 (.inl rfl)))]
          exact hag.miss t fun i oi hi hl => hm i oi hi ((hnew i).2 (.inr hl))
        · obtain ⟨q, hq, h1, h2⟩ := hag.on
          cases hz : zin ch j with
          | false =>
            refine ⟨q, hq, fun i hi hzi => ?_, fun k hk => by rw [g4 hz, h2 k hk]⟩
            rw [hnew, ← h1 i hi hzi]
            constructor
            · rintro (rfl | hl)
              · rw [hz] at hzi; cases hzi
              · exact hl
            · exact .inr
          | true =>
            have hord := (agr_own hd hr hag hc ho hun hall hz).2
            refine ⟨j + 1, by omega, fun i hi hzi => ?_, fun k hk => g5 hz k hk⟩
            rw [hnew]
            by_cases hij : i = j
            · subst hij; simp
            · rw [hord i hi hzi hij]; omega
    have hev : ∀ x ∈ o.op.operands, (S j).ev x = s.ev x := ops_ev (ops := ops) hreads
    have hstep := hr j o ho
    have hoff := fun k hk => hstep.off (k := k) hk
    unfold wpOp
    rw [ho]
    simp only
    generalize hzj : zin ch j = cj at hstep
    generalize hSj : S (j + 1) = s1 at hstep hnext hoff
    cases hstep with
    | no hw =>
      have hw' : Wants ops s o false := hw.congr hreads
      rw [if_neg (by rw [hw'.spec h]; simp)]
      refine hnext (s.put o.dst (.raw undef)) _ _ (fun t ht => by rw [put_hit ht, put_hit ht]) (fun t ht => put_miss ht) (fun k _ => by rw [put_own]) (fun _ => by rw [put_own]) (fun hz k hk => ?_) (h.put hNo undef)
      rw [put_own, put_own, (agr_own hd hr hag hc ho hun hall hz).1]
    | free hw hq =>
      have hw' : Wants ops s o true := hw.congr hreads
      rw [if_pos (hw'.spec h)]
      have hle : OwnLe ((S j).erase Z) ⟨(S j).reg, s.own⟩ := fun k => by
        cases hk : zin Z k with
        | true => exact .inr (by simp [St.erase, hk])
        | false =>
          refine .inl ?_
          show s.own k = (bif zin Z k then _ else (S j).own k)
          rw [hk, run_off hr hk j (by omega), hag.off k hk]; rfl
      have hq2 := hq.le hle rfl
      have hq3 : QOp P L s o _ := QOp.congr (s := ⟨(S j).reg, s.own⟩) (s' := s) rfl hev hq2
      refine .inl (hq3.wp hG h hNo fun a' w' h' => hnext _ a' w' (fun t ht => by rw [put_hit ht, put_hit ht]) (fun t ht => put_miss ht) (fun k _ => by rw [put_own]) (fun _ => by rw [put_own]) (fun hz => by rw [hzj] at hz; cases hz) h')
    | quiet hw hq =>
      have hw' : Wants ops s o true := hw.congr hreads
      rw [if_pos (hw'.spec h)]
      have hown := (agr_own hd hr hag hc ho hun hall hzj).1
      have hq3 : QOp P L s o _ := QOp.congr (s := S j) hown hev hq
      refine .inl (hq3.wp hG h hNo fun a' w' h' => hnext _ a' w' (fun t ht => by rw [put_hit ht, put_hit ht]) (fun t ht => put_miss ht) (fun k _ => by rw [put_own]) (fun hz => by rw [put_own]) (fun _ k _ => by rw [put_own, put_own, hown]) h')
    | eff hw he hz =>
      have hw' : Wants ops s o true := hw.congr hreads
      rw [if_pos (hw'.spec h)]
      have hown := (agr_own hd hr hag hc ho hun hall hzj).1
      obtain ⟨s', e1, e2, e3, e4⟩ := he.congr hown hev
      refine .inl (e1.sound hG.lay h hNo fun a' w' h' => hnext s' a' w' (fun t ht => e3 t ht) (fun t ht => (e4 t ht).1) (fun k hk => by rw [e2, hoff k hk, hown]) (fun hz => by rw [hzj] at hz; cases hz) (fun _ k _ => by rw [e2]) h')

def PDraw3 (P : Program) (L : Lay) (ops : Array Oper) (K : St → Prop) (s : St) : Prop := ∃ Z ch, drawOk3 ops ch = true ∧ P3 P L ops Z (zin ch) K 0 ops.toList s
theorem PDraw3.sound (hG : Good P L C) {K' : St → Prop} {Q : Exit → Act → World → Prop} (hK : ∀ s' a' w', SimE C s' a' w' → K' s' → Q .normal a' w') (hN : ∀ o ∈ ops.toList, dstLt C.N o.dst = true) {id : Nat} {s : St}
    (h : SimE C s a w) (hq : PDraw3 P L ops K' s) : (Code.region id ops true).wp P Q a w := by
  obtain ⟨Z, ch, hok, hq⟩ := hq
  obtain ⟨S, h0, h1, h2⟩ := P3.run _ _ _ hq
  have hd := drawOk3_spec hok
  have hr : Run3 P L ops Z ch S := fun i o ho => by
    have := h1 i o (by simpa using ho)
    rwa [Nat.zero_add] at this
  have hend : K' (S ops.size) := by simpa using h2
  refine wp_region_any hG.mixed ?_
  have hrep : ∀ i, i < ops.size → (Array.replicate ops.size false).getD i true = false := fun i hi => by simp [hi]
  refine draw_three hG hd hK hN hr hend ops.size (List.range ops.size) (Array.replicate ops.size false) s a _ (by simp) List.nodup_range (fun i => ?_) (by simp) ?_ ?_ (let ⟨γ, h⟩ := h; ⟨γ, sim_drew h⟩)
  · rw [List.mem_range]
    exact ⟨fun hi => ⟨hi, hrep i hi⟩, fun x => x.1⟩
  · intro i o ho hl
    rw [hrep i (Array.getElem?_eq_some_iff.1 ho).1] at hl; cases hl
  · refine ⟨fun i o t ho hl => ?_, fun t _ => by rw [h0], fun k _ => by rw [h0], 0, by omega, fun i hi _ => ?_, fun k _ => by rw [h0]⟩
    · rw [hrep i (Array.getElem?_eq_some_iff.1 ho).1] at hl; cases hl
    · rw [hrep i hi]
      exact ⟨fun h => (by cases h), fun h => (by omega)⟩
end
end Go.Pv

/- Code and functions over pure values. -/
namespace Go.Pv
open Go.RowKit

def XThen (next : St → Prop) (Q : Exit → St → Prop) : Exit → St → Prop
  | .normal, s => next s
  | e, s => Q e s
def XBlock (id : Nat) (Q : Exit → St → Prop) : Exit → St → Prop
  | .exit id', s => if id' = id then Q .normal s else Q (.exit id') s
  | e, s => Q e s

/-- What stands for 's' stands for 's1' as well. -/
def Ghost (s s1 : St) : Prop := ∀ C a w, (∀ b, C.X b → b < C.B) → SimE C s a w → SimE C s1 a w
theorem Ghost.refl (s : St) : Ghost s s := fun _ _ _ _ h => h
theorem Ghost.trans {s1 s2 s3 : St} (h1 : Ghost s1 s2) (h2 : Ghost s2 s3) : Ghost s1 s3 := fun C a w hx h => h2 C a w hx (h1 C a w hx h)
def Gh (K : St → Prop) (s : St) : Prop := ∃ s1, Ghost s s1 ∧ K s1
theorem Gh.of {K : St → Prop} {s : St} (h : K s) : Gh K s := ⟨s, .refl s, h⟩

def PWP (P : Program) (L : Lay) : Code → (Exit → St → Prop) → St → Prop
  | .skip, Q, s => Gh (Q .normal) s
  | .region _ ops d, Q, s => Gh (fun s => bif d then (PDraw P L ops (Q .normal) s ∨ PDraw2 P L ops (Q .normal) s ∨ PDraw3 P L ops (Q .normal) s) else (POps P L ops (Q .normal) ops.toList s ∨ PSem P L ops (Q .normal) ops.toList s)) s
  | .seq x y, Q, s => PWP P L x (XThen (fun s' => PWP P L y Q s') Q) s
  | .cond c x y, Q, s => Gh (fun s => ∃ b, s.ev c = .bool b ∧ (b = true → PWP P L x Q s) ∧ (b = false → PWP P L y Q s)) s
  | .block id c, Q, s => PWP P L c (XBlock id Q) s
  | .loop c, Q, s => Gh (fun s => ∃ (I : St → Prop) (μ : St → Nat), I s ∧ ∀ s, I s → PWP P L c (XThen (fun s' => I s' ∧ μ s' < μ s) Q) s) s
  | .exit id, Q, s => Gh (Q (.exit id)) s
  | .ret, Q, s => Gh (Q .ret) s
  | .label _, Q, s => Gh (Q .normal) s
  | _, _, _ => False

/-- A step that the machine does not take. -/
theorem pw_ghost {P : Program} {L : Lay} {s s1 : St} (hg : Ghost s s1) : ∀ {c : Code} {Q : Exit → St → Prop}, PWP P L c Q s1 → PWP P L c Q s
  | .skip, _, ⟨s2, h1, h2⟩ => ⟨s2, hg.trans h1, h2⟩
  | .region .., _, ⟨s2, h1, h2⟩ => ⟨s2, hg.trans h1, h2⟩
  | .seq x _, _, h => pw_ghost (c := x) hg h
  | .cond .., _, ⟨s2, h1, h2⟩ => ⟨s2, hg.trans h1, h2⟩
  | .block _ c, _, h => pw_ghost (c := c) hg h
  | .loop .., _, ⟨s2, h1, h2⟩ => ⟨s2, hg.trans h1, h2⟩
  | .exit .., _, ⟨s2, h1, h2⟩ => ⟨s2, hg.trans h1, h2⟩
  | .ret, _, ⟨s2, h1, h2⟩ => ⟨s2, hg.trans h1, h2⟩
  | .label .., _, ⟨s2, h1, h2⟩ => ⟨s2, hg.trans h1, h2⟩
  | .goto .., _, h => h.elim
  | .rangeFunc .., _, h => h.elim
  | .scope .., _, h => h.elim
  | .refuse .., _, h => h.elim

def codeOk (N : Nat) : Code → Bool
  | .region _ ops _ => ops.toList.all fun o => dstLt N o.dst
  | .seq x y => codeOk N x && codeOk N y
  | .cond _ x y => codeOk N x && codeOk N y
  | .block _ c => codeOk N c
  | .loop c => codeOk N c
  | _ => true

section
variable {P : Program} {L : Lay} {C : Ctx} {s : St} {a : Act} {w w' : World}

/-- What a post over pure values says of a frame and a world. -/
def Up (C : Ctx) (Q : Exit → St → Prop) (e : Exit) (a : Act) (w : World) : Prop := ∃ s, SimE C s a w ∧ Q e s

theorem up_then {next : St → Prop} {Q : Exit → St → Prop} {K : Act → World → Prop} {Q' : Exit → Act → World → Prop} (h1 : ∀ s a w, SimE C s a w → next s → K a w) (h2 : ∀ e s a w, SimE C s a w → Q e s → Q' e a w) :
    ∀ e a w, Up C (XThen next Q) e a w → Exit.then K Q' e a w := by
  rintro e a w ⟨s, hs, hq⟩
  cases e
  case normal => exact h1 s a w hs hq
  all_goals exact h2 _ s a w hs hq

theorem PWP.sound (hG : Good P L C) : ∀ (c : Code) (Q : Exit → St → Prop) (s : St) (a : Act) (w : World), codeOk C.N c = true → SimE C s a w → PWP P L c Q s → c.wp P (Up C Q) a w
  | .skip, Q, s, a, w, _, h, ⟨s1, g, hp⟩ => wp_skip ⟨s1, g C a w hG.x h, hp⟩
  | .region id ops d, Q, s, a, w, hc, h, hp => by
    obtain ⟨s1, g, hp⟩ := hp
    replace h := g C a w hG.x h
    have hN : ∀ o ∈ ops.toList, dstLt C.N o.dst = true := fun o ho => List.all_eq_true.1 hc o ho
    cases d with
    | true =>
      rcases hp with hp | hp | hp
      · exact PDraw.sound hG (Q := Up C Q) (fun s' a' w' h' hk => ⟨s', h', hk⟩) hN h hp
      · exact PDraw2.sound hG (Q := Up C Q) (fun s' a' w' h' hk => ⟨s', h', hk⟩) hN h hp
      · exact PDraw3.sound hG (Q := Up C Q) (fun s' a' w' h' hk => ⟨s', h', hk⟩) hN h hp
    | false =>
      rcases hp with hp | hp
      · exact wp_region_list (POps.sound hG (Q := Up C Q) (fun s' a' w' h' hk => ⟨s', h', hk⟩) ops.toList s1 a w hN h hp)
      · exact wp_region_list (PSem.sound hG (Q := Up C Q) (fun s' a' w' h' hk => ⟨s', h', hk⟩) ops.toList s1 a w hN h hp)
  | .seq x y, Q, s, a, w, hc, h, hp => by
    simp only [codeOk, Bool.and_eq_true] at hc
    refine wp_seq (wp_mono (PWP.sound hG x _ s a w hc.1 h hp) (up_then (fun s' a' w' h' hn => PWP.sound hG y Q s' a' w' hc.2 h' hn) fun e s' a' w' h' hq => ⟨s', h', hq⟩))
  | .cond c x y, Q, s, a, w, hc, h, hp => by
    simp only [codeOk, Bool.and_eq_true] at hc
    obtain ⟨s1, g, b, hb, h1, h2⟩ := hp
    obtain ⟨γ, h'⟩ := g C a w hG.x h
    have he := h'.ev c
    rw [hb] at he
    refine wp_cond (t := b) he.bool_inv ?_
    cases b
    · exact PWP.sound hG y Q s1 a w hc.2 ⟨γ, h'⟩ (h2 rfl)
    · exact PWP.sound hG x Q s1 a w hc.1 ⟨γ, h'⟩ (h1 rfl)
  | .block id c, Q, s, a, w, hc, h, hp => by
    refine wp_block (wp_mono (PWP.sound hG c _ s a w hc h hp) ?_)
    rintro e a' w' ⟨s', h', hq⟩
    cases e
    case exit id' =>
      show if id' = id then _ else _
      have hq' : if id' = id then Q .normal s' else Q (.exit id') s' := hq
      split
      · rename_i hid; rw [if_pos hid] at hq'; exact ⟨s', h', hq'⟩
      · rename_i hid; rw [if_neg hid] at hq'; exact ⟨s', h', hq'⟩
    all_goals exact ⟨s', h', hq⟩
  | .loop c, Q, s, a, w, hc, h, hp => by
    obtain ⟨s1, g, I, μ, h0, hround⟩ := hp
    replace h := g C a w hG.x h
    -- the least measure of a state that the frame stands for
    let J : Act → World → Nat → Prop := fun a w n => ∃ s, SimE C s a w ∧ I s ∧ μ s = n
    have least : ∀ a w, (∃ n, J a w n) → ∃ n, J a w n ∧ ∀ m, J a w m → n ≤ m := by
      intro a w ⟨n, hn⟩
      induction n using Nat.strongRecOn with
      | _ n ih =>
        by_cases hx : ∃ m, m < n ∧ J a w m
        · obtain ⟨m, hm, hj⟩ := hx
          exact ih m hm hj
        · exact ⟨n, hn, fun m hm => by
            rcases Nat.lt_or_ge m n with h | h
            · exact absurd ⟨m, h, hm⟩ hx
            · exact h⟩
    have hμ : ∃ f : Act → World → Nat, ∀ a w, (∃ n, J a w n) → J a w (f a w) ∧ ∀ m, J a w m → f a w ≤ m := by
      refine ⟨fun a w => Classical.epsilon fun n => J a w n ∧ ∀ m, J a w m → n ≤ m, fun a w hx => ?_⟩
      exact Classical.epsilon_spec (least a w hx)
    obtain ⟨f, hf⟩ := hμ
    refine wp_loop (fun a w => ∃ s, SimE C s a w ∧ I s) f ⟨s1, h, h0⟩ ?_
    rintro a1 w1 ⟨s1, hs1, hI1⟩
    obtain ⟨⟨s2, hs2, hI2, hm2⟩, _⟩ := hf a1 w1 ⟨_, s1, hs1, hI1, rfl⟩
    refine wp_mono (PWP.sound hG c _ s2 a1 w1 hc hs2 (hround s2 hI2)) (up_then (fun s3 a3 w3 h3 ⟨i3, m3⟩ => ⟨⟨s3, h3, i3⟩, ?_⟩) fun e s' a' w' h' hq => ⟨s', h', hq⟩)
    have := (hf a3 w3 ⟨_, s3, h3, i3, rfl⟩).2 _ ⟨s3, h3, i3, rfl⟩
    omega
  | .exit id, Q, s, a, w, _, h, ⟨s1, g, hp⟩ => wp_exit ⟨s1, g C a w hG.x h, hp⟩
  | .ret, Q, s, a, w, _, h, ⟨s1, g, hp⟩ => wp_ret ⟨s1, g C a w hG.x h, hp⟩
  | .label l, Q, s, a, w, _, h, ⟨s1, g, hp⟩ => wp_label ⟨s1, g C a w hG.x h, hp⟩
  | .goto _, _, _, _, _, _, _, hp => hp.elim
  | .rangeFunc .., _, _, _, _, _, _, hp => hp.elim
  | .scope _, _, _, _, _, _, _, hp => hp.elim
  | .refuse _, _, _, _, _, _, _, hp => hp.elim

/-! ### Functions -/
def rv (L : Lay) (s : St) : ResultVar → Option (PV × Prop)
  | .tmp t => some (s.reg t, True)
  | .cell t T => qv L s (.load T (.tmp t))
def rvs (L : Lay) (s : St) : List ResultVar → Option (List PV × Prop)
  | [] => some ([], True)
  | x :: xs => match rv L s x with
    | some (v, A) => (match rvs L s xs with | some (vs, B) => some (v :: vs, A ∧ B) | none => none)
    | none => none
def tupled : List PV → PV
  | [x] => x
  | l => .tup l

def Post (L : Lay) (fn : Func) (m : Mode) (r : PV) (s : St) : Prop :=
  ∃ l Cd d Cd2 fl, rvs L s fn.results.toList = some (l, Cd) ∧ Cd ∧ res s 5 (tupled l) = some (d, Cd2, fl) ∧ Cd2 ∧ (match m with | .shared => True | .fresh => fl.fr = true) ∧ d = r

def RetPost (L : Lay) (fn : Func) (m : Mode) (r : PV) : Exit → St → Prop
  | .normal, s | .ret, s => Post L fn m r s
  | _, _ => False

def initSt (pargs : List PV) : St := { reg := fun t => pargs.getD t (.raw undef), own := fun _ => (0, none) }

theorem rvs_spec (hL : LOk P L) {γ : Nat → Option Nat} (h : Sim C γ s a w) : ∀ (xs : List ResultVar) (l : List PV) (Cd : Prop), rvs L s xs = some (l, Cd) → Cd →
    ∃ vs : List Value, (xs.mapM (fun | .tmp t => pure (a.tmps.getD t undef) | .cell p t => do loadVar t (← asAddr (a.tmps.getD p undef)) : ResultVar → Sem Value)).run P w = .ok vs w ∧ l.length = vs.length ∧
      ∀ (i : Nat) (c : PV) (v : Value), l[i]? = some c → vs[i]? = some v → Rep (envOf C γ s w) c v
  | [], l, Cd, hq, _ => by
    simp only [rvs, Option.some.injEq, Prod.mk.injEq] at hq
    obtain ⟨rfl, _⟩ := hq
    exact ⟨[], by simp, rfl, fun i c v h => by simp at h⟩
  | x :: xs, l, Cd, hq, hc => by
    simp only [rvs] at hq
    split at hq
    · rename_i v A hv
      split at hq
      · rename_i vs B hvs
        simp only [Option.some.injEq, Prod.mk.injEq] at hq
        obtain ⟨rfl, rfl⟩ := hq
        obtain ⟨us, h1, h2, h3⟩ := rvs_spec hL h xs vs B hvs hc.2
        have key : ∃ u, ((fun | .tmp t => pure (a.tmps.getD t undef) | .cell p t => do loadVar t (← asAddr (a.tmps.getD p undef)) : ResultVar → Sem Value) x).run P w = .ok u w ∧ Rep (envOf C γ s w) v u := by
          cases x with
          | tmp t =>
            simp only [rv, Option.some.injEq, Prod.mk.injEq] at hv
            obtain ⟨rfl, _⟩ := hv
            exact ⟨_, rfl, h.regs t⟩
          | cell p T =>
            obtain ⟨u, e1, e2⟩ := snd_load (P := P) hL h hv hc.1
            refine ⟨u, ?_, e2⟩
            have he : a.eval (.tmp p) = a.tmps.getD p undef := rfl
            rw [he] at e1
            simp only [Sem.run_bind]
            generalize a.tmps.getD p undef = y at e1
            unfold Instr.loadAt Instr.sureAddr at e1
            split at e1
            · simpa [asAddr] using e1
            · simp at e1
        obtain ⟨u, k1, k2⟩ := key
        refine ⟨u :: us, ?_, by simp [h2], fun i c v' e1 e2 => ?_⟩
        · rw [List.mapM_cons, Sem.run_bind, k1]
          simp only [Result.andThen_ok, Sem.run_bind, h1, Sem.run_pure]
        · cases i with
          | zero => simp at e1 e2; subst e1; subst e2; exact k2
          | succ i => exact h3 i c v' (by simpa using e1) (by simpa using e2)
      · cases hq
    · cases hq

theorem Ret.of_pwp {m : Mode} {f : FuncId} {fn : Func} {body : Code} {pargs : List PV} {r : PV} (hL : LOk P L) (hm : P.follows .mixedOrders = true) (hf : P.funcs[f]? = some fn) (hb : fn.body = some body) (hn : (fn.name == "runtime.NumGoroutine") = false)
    (hlen : Nat.ble pargs.length fn.ntmps = true) (hc : codeOk fn.ntmps body = true) (h : PWP P L body (RetPost L fn m r) (initSt pargs)) : Ret P m f pargs r := by
  refine ⟨⟨fn, hf, hn, by simp [hb]⟩, fun w X args hX hl hargs => ?_⟩
  let C : Ctx := ⟨w.heap.size, X, w, fn.ntmps, fun _ _ => False⟩
  have hG : Good P L C := ⟨hL, hX, hm⟩
  have hle : args.length ≤ fn.ntmps := by rw [← hl]; simpa using hlen
  have hsim : SimE C (initSt pargs) { tmps := args.toArray ++ Array.replicate (fn.ntmps - args.toArray.size) undef, defers := [] } w := by
    refine ⟨fun _ => none, rfl, by simp [C]; omega, fun t => ?_, fun k c hk => by simp [initSt] at hk, fun k k' c c' b hk => by simp [initSt] at hk, fun k c b hk => by simp [initSt] at hk, Below.refl _ _, Nat.le_refl _, fun c v hk => hk.elim⟩
    show Rep _ (pargs.getD t (.raw undef)) _
    rcases Nat.lt_or_ge t args.length with hlt | hge
    · have hlt' : t < pargs.length := by omega
      have e1 : pargs.getD t (.raw undef) = pargs[t] := by simp [hlt']
      have e2 : (args.toArray ++ Array.replicate (fn.ntmps - args.toArray.size) undef).getD t undef = args[t] := by
        rw [Array.getD_eq_getD_getElem?, Array.getElem?_append_left (by simpa using hlt)]
        simp [hlt]
      rw [e1, e2]
      refine .d ((hargs t pargs[t] args[t] (List.getElem?_eq_getElem hlt') (List.getElem?_eq_getElem hlt)).weaken fun b hb => ⟨hb.1, hb.2, fun k c hk => by simp [initSt] at hk⟩)
    · have e1 : pargs.getD t (.raw undef) = .raw undef := by simp [List.getElem?_eq_none (by omega : pargs.length ≤ t)]
      have e2 : (args.toArray ++ Array.replicate (fn.ntmps - args.toArray.size) undef).getD t undef = undef := by
        rw [Array.getD_eq_getD_getElem?, Array.getElem?_append_right (by simpa using hge)]
        rcases Nat.lt_or_ge (t - args.toArray.size) (fn.ntmps - args.toArray.size) with h1 | h1
        · rw [Array.getElem?_replicate, if_pos h1]; rfl
        · rw [Array.getElem?_eq_none (by simpa using h1)]; rfl
      rw [e1, e2]
      exact .d (.raw _)
  refine calls_of_wp hf hb (wp_mono (PWP.sound hG body _ _ _ w hc hsim h) ?_)
  have fin : ∀ {s : St} {a : Act} {w' : World}, SimE C s a w' → Post L fn m r s → a.defers = [] ∧ ∃ v, (results fn a.tmps).run P w' = .ok v w' ∧ ∃ u, Ending.returned v = .returned u ∧ Below w.heap.size w w' ∧ DRep w' (m.ok X w w') r u := by
    rintro s a w' ⟨γ, hs⟩ ⟨l, Cd, d, Cd2, fl, h1, h2, h3, h4, h5, rfl⟩
    obtain ⟨vs, g1, g2, g3⟩ := rvs_spec (P := P) hL hs fn.results.toList l Cd h1 h2
    have hbel : Below w.heap.size w w' := hs.below
    have hok : ∀ k, okArg C γ s w' fl k → m.ok X w w' k := by
      intro k hk
      cases m with
      | shared => exact ⟨hk.1, hk.2.1⟩
      | fresh => exact ⟨hk.2.2.2 h5, hk.1⟩
    refine ⟨hs.defers, ?_⟩
    have hrun : (results fn a.tmps).run P w' = .ok (if h : vs.toArray.size = 1 then vs.toArray[0] else .tuple vs.toArray) w' := by
      unfold results
      rw [← Array.toArray_toList (xs := fn.results), List.mapM_toArray]
      simp only [Sem.run_bind, Sem.run_map, Sem.run_pure]
      exact congrArg (fun q : Result (List Value) => (q.andThen fun a w' => Result.ok a.toArray w').andThen fun a w' => Result.ok (if h : a.size = 1 then a[0] else .tuple a) w') g1
    rw [hrun]
    refine ⟨_, rfl, _, rfl, hbel, ?_⟩
    have hrep : Rep (envOf C γ s w') (tupled l) (if h : vs.toArray.size = 1 then vs.toArray[0] else .tuple vs.toArray) := by
      match l, vs, g2, g3 with
      | [], [], _, _ => exact .tup [] [] rfl fun i c v e => by simp at e
      | [c], [v], _, g3 => exact g3 0 c v rfl rfl
      | c1 :: c2 :: l, v1 :: v2 :: vs, hlen, g3 =>
        rw [dif_neg (by simp)]
        exact .tup _ _ hlen g3
    exact (res_spec hX hs 5 _ _ _ _ _ h3 h4 hrep).weaken hok
  rintro e a w' ⟨s, hs, hq⟩
  cases e
  case normal => exact fin hs hq
  case ret => exact fin hs hq
  all_goals exact hq.elim


/-! ### A call, told by the code of what is called: for callees that write what the caller owns -/
def InlPost (L : Lay) (fn : Func) (K : St → PV → Prop) : Exit → St → Prop
  | .normal, s | .ret, s => ∃ l Cd, rvs L s fn.results.toList = some (l, Cd) ∧ Cd ∧ K s (tupled l)
  | _, _ => False
/-- The callee's first state. -/
def callSt (s : St) (pargs : List PV) : St := { reg := fun t => pargs.getD t (.raw undef), own := s.own }

theorem sm_inline {o : Oper} {fop : Operand} {args : Array Operand} {tys : Array TypeId} {f : FuncId} {caps : List PV} {fn : Func} {body : Code} {K : St → Prop} (hL : LOk P L) (ho : o.op = .call ⟨.value fop, args, tys⟩) (hclo : s.ev fop = .clo f caps)
    (hf : P.funcs[f]? = some fn) (hb : fn.body = some body) (hn : (fn.name == "runtime.NumGoroutine") = false) (hlen : Nat.ble (args.toList.map s.ev ++ caps).length fn.ntmps = true) (hc : codeOk fn.ntmps body = true)
    (h : PWP P L body (InlPost L fn (fun s' r => K (({ reg := s.reg, own := s'.own } : St).put o.dst r))) (callSt s (args.toList.map s.ev ++ caps))) : Sm P L s o K := by
  intro C a w Q hG hs hN
  obtain ⟨γ, hs⟩ := hs
  have hfv := hs.ev fop
  rw [hclo] at hfv
  obtain ⟨vs, hv, hcl, hcd⟩ := hfv.clo_inv
  unfold Oper.wp
  rw [run_call (f := f) ho hv ⟨fn, hf, hn, by simp [hb]⟩, Oper.upon_enter]
  let C' : Ctx := ⟨C.B, C.X, C.w0, fn.ntmps, fun c v => C.keep c v ∨ ∃ t, c = s.reg t ∧ v = a.tmps.getD t undef⟩
  have hG' : Good P L C' := ⟨hG.lay, hG.x, hG.mixed⟩
  have hargs : ∀ (i : Nat) (c : PV) (v : Value), (args.toList.map s.ev ++ caps)[i]? = some c → (args.toList.map a.eval ++ vs)[i]? = some v → Rep (envOf C γ s w) c v := by
    intro i c v e1 e2
    rw [List.getElem?_append] at e1 e2
    simp only [List.length_map] at e1 e2
    split at e1
    · rename_i hlt
      rw [if_pos hlt] at e2
      rw [List.getElem?_map] at e1 e2
      cases hx : args.toList[i]? with
      | none => rw [hx] at e1; simp at e1
      | some x => rw [hx] at e1 e2; simp at e1 e2; subst e1; subst e2; exact hs.ev x
    · rename_i hlt
      rw [if_neg hlt] at e2
      exact hcd _ c v e1 e2
  have hlv : (args.toList.map s.ev ++ caps).length = (args.toList.map a.eval ++ vs).length := by simp [hcl]
  have hle : (args.toList.map a.eval ++ vs).length ≤ fn.ntmps := by rw [← hlv]; simpa using hlen
  generalize args.toList.map s.ev ++ caps = pargs at h hargs hlv
  generalize args.toList.map a.eval ++ vs = vargs at hargs hlv hle
  have hsim : SimE C' (callSt s pargs) { tmps := vargs.toArray ++ Array.replicate (fn.ntmps - vargs.toArray.size) undef, defers := [] } w := by
    refine ⟨γ, rfl, by simp [C']; omega, fun t => ?_, hs.sites, hs.inj, hs.base, hs.below, hs.top, ?_⟩
    · show Rep (envOf C γ s w) (pargs.getD t (.raw undef)) _
      rcases Nat.lt_or_ge t vargs.length with hlt | hge
      · have hlt' : t < pargs.length := by omega
        have e1 : pargs.getD t (.raw undef) = pargs[t] := by simp [hlt']
        have e2 : (vargs.toArray ++ Array.replicate (fn.ntmps - vargs.toArray.size) undef).getD t undef = vargs[t] := by
          rw [Array.getD_eq_getD_getElem?, Array.getElem?_append_left (by simpa using hlt)]
          simp [hlt]
        rw [e1, e2]
        exact hargs t pargs[t] vargs[t] (List.getElem?_eq_getElem hlt') (List.getElem?_eq_getElem hlt)
      · have e1 : pargs.getD t (.raw undef) = .raw undef := by simp [List.getElem?_eq_none (by omega : pargs.length ≤ t)]
        have e2 : (vargs.toArray ++ Array.replicate (fn.ntmps - vargs.toArray.size) undef).getD t undef = undef := by
          rw [Array.getD_eq_getD_getElem?, Array.getElem?_append_right (by simpa using hge)]
          rcases Nat.lt_or_ge (t - vargs.toArray.size) (fn.ntmps - vargs.toArray.size) with h1 | h1
          · rw [Array.getElem?_replicate, if_pos h1]; rfl
          · rw [Array.getElem?_eq_none (by simpa using h1)]; rfl
        rw [e1, e2]
        exact .d (.raw _)
    · rintro c v (hk | ⟨t, rfl, rfl⟩)
      · exact hs.kept c v hk
      · exact hs.regs t
  refine calls_of_wp hf hb (wp_mono (PWP.sound hG' body _ _ _ w hc hsim h) ?_)
  have fin : ∀ {s' : St} {a' : Act} {w' : World}, SimE C' s' a' w' → (∃ l Cd, rvs L s' fn.results.toList = some (l, Cd) ∧ Cd ∧ K (({ reg := s.reg, own := s'.own } : St).put o.dst (tupled l))) →
      a'.defers = [] ∧ ∃ v, (results fn a'.tmps).run P w' = .ok v w' ∧ ∃ s'', SimE C s'' (a.put o.dst v) w' ∧ K s'' := by
    rintro s' a' w' ⟨γ', hs'⟩ ⟨l, Cd, h1, h2, h3⟩
    obtain ⟨vs, g1, g2, g3⟩ := rvs_spec (P := P) hL hs' fn.results.toList l Cd h1 h2
    refine ⟨hs'.defers, ?_⟩
    have hrun : (results fn a'.tmps).run P w' = .ok (if h : vs.toArray.size = 1 then vs.toArray[0] else .tuple vs.toArray) w' := by
      unfold results
      rw [← Array.toArray_toList (xs := fn.results), List.mapM_toArray]
      simp only [Sem.run_bind, Sem.run_map, Sem.run_pure]
      exact congrArg (fun q : Result (List Value) => (q.andThen fun a w' => Result.ok a.toArray w').andThen fun a w' => Result.ok (if h : a.size = 1 then a[0] else .tuple a) w') g1
    have hrep : Rep (envOf C' γ' s' w') (tupled l) (if h : vs.toArray.size = 1 then vs.toArray[0] else .tuple vs.toArray) := by
      match l, vs, g2, g3 with
      | [], [], _, _ => exact .tup [] [] rfl fun i c v e => by simp at e
      | [c], [v], _, g3 => exact g3 0 c v rfl rfl
      | c1 :: c2 :: l, v1 :: v2 :: vs, hlen, g3 =>
        rw [dif_neg (by simp)]
        exact .tup _ _ hlen g3
    refine ⟨_, hrun, _, ⟨γ', ?_⟩, h3⟩
    have hback : Sim C γ' { reg := s.reg, own := s'.own } a w' :=
      ⟨hs.defers, hs.size, fun r => hs'.kept _ _ (.inr ⟨r, rfl, rfl⟩), hs'.sites, hs'.inj, hs'.base, hs'.below, hs'.top, fun c v hk => hs'.kept c v (.inl hk)⟩
    exact hback.put hN hrep
  rintro e a' w' ⟨s', hs', hq⟩
  cases e
  case normal => exact fin hs' hq
  case ret => exact fin hs' hq
  all_goals exact hq.elim

end
end Go.Pv

/- Steps, as lemmas to be applied one by one. -/
namespace Go.Pv
open Go.RowKit

section
variable {P : Program} {L : Lay} {Q : Exit → St → Prop} {K : St → Prop} {s : St} {ops : Array Oper} {rest : List Oper} {o : Oper}

theorem POp.mono' {K' : St → Prop} (hk : ∀ s, K s → K' s) (h : POp P L s o K) : POp P L s o K' := by
  rcases h with ⟨pv, h1, h2⟩ | ⟨s', h1, h2⟩ | h1
  · exact .inl ⟨pv, h1, hk _ h2⟩
  · exact .inr (.inl ⟨s', h1, hk _ h2⟩)
  · exact .inr (.inr (h1.mono hk))
theorem pw_seq {x y : Code} (h : PWP P L x (XThen (fun s' => PWP P L y Q s') Q) s) : PWP P L (.seq x y) Q s := h
theorem pw_skip (h : Q .normal s) : PWP P L .skip Q s := Gh.of h
theorem pw_block {id : Nat} {c : Code} (h : PWP P L c (XBlock id Q) s) : PWP P L (.block id c) Q s := h
theorem pw_ret (h : Q .ret s) : PWP P L .ret Q s := Gh.of h
theorem pw_exit {id : Nat} (h : Q (.exit id) s) : PWP P L (.exit id) Q s := Gh.of h
theorem pw_region {id : Nat} {l : List Oper} (h : POps P L l.toArray (Q .normal) l s) : PWP P L (.region id l.toArray false) Q s := Gh.of (Or.inl h)
/-- A region with operations that are told by what the machine does. -/
theorem psem_app {K : St → Prop} : ∀ (l1 l2 : List Oper) (s : St), POps P L ops (fun s' => PSem P L ops K l2 s') l1 s → PSem P L ops K (l1 ++ l2) s
  | [], _, _, h => h
  | _ :: l1, l2, _, h => h.imp (fun x => ⟨x.1, .inl (x.2.mono' fun s' h' => psem_app l1 l2 s' h')⟩) (fun x => ⟨x.1, psem_app l1 l2 _ x.2⟩)
theorem pw_regionS {id : Nat} {l : List Oper} (n : Nat) (h : POps P L l.toArray (fun s' => PSem P L l.toArray (Q .normal) (l.drop n) s') (l.take n) s) : PWP P L (.region id l.toArray false) Q s := by
  have := psem_app (K := Q .normal) (l.take n) (l.drop n) s h
  rw [List.take_append_drop] at this
  exact Gh.of (Or.inr this)
theorem psem_sm (hg : o.guard = none) (h : Sm P L s o (PSem P L ops K rest)) : PSem P L ops K (o :: rest) s := .inl ⟨.none hg, .inr h⟩
theorem psem_ops (h : POps P L ops K rest s) : PSem P L ops K rest s := by
  have := psem_app (P := P) (L := L) (ops := ops) (K := K) rest [] s h
  rwa [List.append_nil] at this
theorem pw_draw {id : Nat} {l : List Oper} (n : Nat) (ds : List Nat) (hok : drawOk l.toArray n ds = true) (h : PQuiet P L l.toArray (fun s' => POps P L l.toArray (Q .normal) (l.drop n) s') (l.take n) s) : PWP P L (.region id l.toArray true) Q s :=
  Gh.of (Or.inl ⟨n, ds, hok, h⟩)
/-- 'ch': what stands in one order; 'Z': the sites that it writes. -/
theorem pw_draw3 {id : Nat} {l : List Oper} (Z ch : List Nat) (hok : drawOk3 l.toArray ch = true) (h : P3 P L l.toArray Z (zin ch) (Q .normal) 0 l s) : PWP P L (.region id l.toArray true) Q s :=
  Gh.of (Or.inr (Or.inr ⟨Z, ch, hok, h⟩))
/-- With 'm' variables behind the first 'n' operations, and moves 'F' that may come late. -/
theorem pw_draw2 {id : Nat} {l : List Oper} (n m : Nat) (ds F : List Nat) (hok : drawOk2 l.toArray n m ds F = true) (hnone : (ds.drop n).all (fun d => (s.own d).2.isNone) = true) (h : PQuiet P L l.toArray (fun s' => FD l.toArray (n + m) F s' = true ∧ POps P L l.toArray (Q .normal) (l.drop n) s') (l.take n) s) : PWP P L (.region id l.toArray true) Q s :=
  Gh.of (Or.inr (Or.inl ⟨n, m, ds, F, hok, fun d hd => by simpa using List.all_eq_true.1 hnone d hd, h⟩))
theorem pw_cond {c : Operand} {x y : Code} {b : Bool} (hc : s.ev c = .bool b) (h1 : b = true → PWP P L x Q s) (h2 : b = false → PWP P L y Q s) : PWP P L (.cond c x y) Q s := Gh.of ⟨b, hc, h1, h2⟩
theorem pw_true {c : Operand} {x y : Code} (hc : s.ev c = .bool true) (h1 : PWP P L x Q s) : PWP P L (.cond c x y) Q s := Gh.of ⟨true, hc, fun _ => h1, fun h => by cases h⟩
theorem pw_false {c : Operand} {x y : Code} (hc : s.ev c = .bool false) (h1 : PWP P L y Q s) : PWP P L (.cond c x y) Q s := Gh.of ⟨false, hc, (fun h => by cases h), fun _ => h1⟩

theorem x_norm {next : St → Prop} (h : next s) : XThen next Q .normal s := h
theorem x_ret {next : St → Prop} (h : Q .ret s) : XThen next Q .ret s := h
theorem x_exit {next : St → Prop} {id : Nat} (h : Q (.exit id) s) : XThen next Q (.exit id) s := h
theorem xb_norm {id : Nat} (h : Q .normal s) : XBlock id Q .normal s := h
theorem xb_ret {id : Nat} (h : Q .ret s) : XBlock id Q .ret s := h
theorem xb_here {id : Nat} (h : Q .normal s) : XBlock id Q (.exit id) s := by show if id = id then _ else _; rw [if_pos rfl]; exact h
theorem xb_away {id id' : Nat} (hne : Nat.beq id' id = false) (h : Q (.exit id') s) : XBlock id Q (.exit id') s := by
  show if id' = id then _ else _
  rw [if_neg (fun e => by subst e; simp at hne)]; exact h

variable {d e j : Nat} {op : Op} {ty : TypeId} {pos : String} {af : Array Edge} {want : Bool}

theorem put_some (s : St) (d : Nat) (v : PV) : s.put (some d) v = s.putR d v := rfl

/-! Operations, with what comes of each; 'ps': in the order of the text; 'pq': ahead of the tail of a drawn order. -/
theorem ps_nil (h : K s) : POps P L ops K [] s := h
theorem ps_run (h : POp P L s ⟨some d, op, ty, pos, af, none⟩ (POps P L ops K rest)) : POps P L ops K (⟨some d, op, ty, pos, af, none⟩ :: rest) s := .inl ⟨.none rfl, h⟩
theorem ps_run0 (h : POp P L s ⟨none, op, ty, pos, af, none⟩ (POps P L ops K rest)) : POps P L ops K (⟨none, op, ty, pos, af, none⟩ :: rest) s := .inl ⟨.none rfl, h⟩
theorem ps_yes (hd : (ops[j]?).bind (·.dst) = some e) (hr : s.reg e = .bool want) (h : POp P L s ⟨some d, op, ty, pos, af, some (j, want)⟩ (POps P L ops K rest)) : POps P L ops K (⟨some d, op, ty, pos, af, some (j, want)⟩ :: rest) s := .inl ⟨.yes rfl hd hr, h⟩
theorem ps_not (hd : (ops[j]?).bind (·.dst) = some e) (hr : s.reg e = .bool (!want)) (h : POps P L ops K rest (s.putR d (.raw undef))) : POps P L ops K (⟨some d, op, ty, pos, af, some (j, want)⟩ :: rest) s :=
  .inr ⟨.no rfl hd hr (by cases want <;> simp), h⟩
theorem ps_junk (hd : (ops[j]?).bind (·.dst) = some e) (hr : s.reg e = .raw undef) (h : POps P L ops K rest (s.putR d (.raw undef))) : POps P L ops K (⟨some d, op, ty, pos, af, some (j, want)⟩ :: rest) s := .inr ⟨.junk rfl hd hr, h⟩
/-- A guard that is not decided yet: its register is known to be a boolean; it is decided here. -/
theorem ps_if {b : Bool} (hd : (ops[j]?).bind (·.dst) = some e) (hr : s.reg e = .bool b) (h1 : b = want → POp P L s ⟨some d, op, ty, pos, af, some (j, want)⟩ (POps P L ops K rest)) (h2 : b = (!want) → POps P L ops K rest (s.putR d (.raw undef))) : POps P L ops K (⟨some d, op, ty, pos, af, some (j, want)⟩ :: rest) s := by
  by_cases hb : b = want
  · subst hb; exact .inl ⟨.yes rfl hd hr, h1 rfl⟩
  · exact .inr ⟨.no rfl hd hr hb, h2 (by cases b <;> cases want <;> simp_all)⟩

theorem pq_nil (h : K s) : PQuiet P L ops K [] s := h
theorem pq_end {nm : Nat} {F : List Nat} {l' : List Oper} {K' : St → Prop} (hf : FD ops nm F s = true) (h : POps P L ops K' l' s) : PQuiet P L ops (fun s' => FD ops nm F s' = true ∧ POps P L ops K' l' s') [] s := ⟨hf, h⟩

theorem ps_v {pv : PV} {Cd : Prop} (hq : qv L s op = some (pv, Cd)) (hc : Cd) (h : POps P L ops K rest (s.putR d pv)) : POps P L ops K (⟨some d, op, ty, pos, af, none⟩ :: rest) s := ps_run (.inl ⟨pv, .v hq hc, h⟩)
theorem op_v {pv : PV} {Cd : Prop} {g : Option (Nat × Bool)} (hq : qv L s op = some (pv, Cd)) (hc : Cd) (h : K (s.putR d pv)) : POp P L s ⟨some d, op, ty, pos, af, g⟩ K := .inl ⟨pv, .v hq hc, h⟩

/-- A quiet operation among others: either kind of list. -/
theorem op_q {pv : PV} {g : Option (Nat × Bool)} (hq : QOp P L s ⟨some d, op, ty, pos, af, g⟩ pv) (h : K (s.putR d pv)) : POp P L s ⟨some d, op, ty, pos, af, g⟩ K := .inl ⟨pv, hq, h⟩
theorem ps_q {pv : PV} (hq : QOp P L s ⟨some d, op, ty, pos, af, none⟩ pv) (h : POps P L ops K rest (s.putR d pv)) : POps P L ops K (⟨some d, op, ty, pos, af, none⟩ :: rest) s := ps_run (.inl ⟨pv, hq, h⟩)
theorem pq_q {pv : PV} (hq : QOp P L s ⟨some d, op, ty, pos, af, none⟩ pv) (h : PQuiet P L ops K rest (s.putR d pv)) : PQuiet P L ops K (⟨some d, op, ty, pos, af, none⟩ :: rest) s := .inl ⟨.none rfl, pv, hq, h⟩
theorem pq_v {pv : PV} {Cd : Prop} (hq : qv L s op = some (pv, Cd)) (hc : Cd) (h : PQuiet P L ops K rest (s.putR d pv)) : PQuiet P L ops K (⟨some d, op, ty, pos, af, none⟩ :: rest) s := pq_q (.v hq hc) h
theorem pq_yes {pv : PV} (hd : (ops[j]?).bind (·.dst) = some e) (hr : s.reg e = .bool want) (hq : QOp P L s ⟨some d, op, ty, pos, af, some (j, want)⟩ pv) (h : PQuiet P L ops K rest (s.putR d pv)) : PQuiet P L ops K (⟨some d, op, ty, pos, af, some (j, want)⟩ :: rest) s :=
  .inl ⟨.yes rfl hd hr, pv, hq, h⟩
theorem pq_yesv {pv : PV} {Cd : Prop} (hd : (ops[j]?).bind (·.dst) = some e) (hr : s.reg e = .bool want) (hq : qv L s op = some (pv, Cd)) (hc : Cd) (h : PQuiet P L ops K rest (s.putR d pv)) : PQuiet P L ops K (⟨some d, op, ty, pos, af, some (j, want)⟩ :: rest) s :=
  pq_yes hd hr (.v hq hc) h
theorem pq_not (hd : (ops[j]?).bind (·.dst) = some e) (hr : s.reg e = .bool (!want)) (h : PQuiet P L ops K rest (s.putR d (.raw undef))) : PQuiet P L ops K (⟨some d, op, ty, pos, af, some (j, want)⟩ :: rest) s :=
  .inr ⟨.no rfl hd hr (by cases want <;> simp), h⟩
theorem pq_if {b : Bool} (hd : (ops[j]?).bind (·.dst) = some e) (hr : s.reg e = .bool b) (h1 : b = want → ∃ pv, QOp P L s ⟨some d, op, ty, pos, af, some (j, want)⟩ pv ∧ PQuiet P L ops K rest (s.putR d pv)) (h2 : b = (!want) → PQuiet P L ops K rest (s.putR d (.raw undef))) :
    PQuiet P L ops K (⟨some d, op, ty, pos, af, some (j, want)⟩ :: rest) s := by
  by_cases hb : b = want
  · subst hb; obtain ⟨pv, hq, h⟩ := h1 rfl; exact .inl ⟨.yes rfl hd hr, pv, hq, h⟩
  · exact .inr ⟨.no rfl hd hr hb, h2 (by cases b <;> cases want <;> simp_all)⟩
theorem pq_ifv {b : Bool} {pv : PV} {Cd : Prop} (hd : (ops[j]?).bind (·.dst) = some e) (hr : s.reg e = .bool b) (hq : qv L s op = some (pv, Cd)) (hc : Cd) (h1 : b = want → PQuiet P L ops K rest (s.putR d pv)) (h2 : b = (!want) → PQuiet P L ops K rest (s.putR d (.raw undef))) :
    PQuiet P L ops K (⟨some d, op, ty, pos, af, some (j, want)⟩ :: rest) s := pq_if hd hr (fun h => ⟨pv, .v hq hc, h1 h⟩) h2
theorem ps_ifv {b : Bool} {pv : PV} {Cd : Prop} (hd : (ops[j]?).bind (·.dst) = some e) (hr : s.reg e = .bool b) (hq : qv L s op = some (pv, Cd)) (hc : Cd) (h1 : b = want → POps P L ops K rest (s.putR d pv)) (h2 : b = (!want) → POps P L ops K rest (s.putR d (.raw undef))) :
    POps P L ops K (⟨some d, op, ty, pos, af, some (j, want)⟩ :: rest) s := ps_if hd hr (fun h => .inl ⟨pv, .v hq hc, h1 h⟩) h2
theorem pq_junk (hd : (ops[j]?).bind (·.dst) = some e) (hr : s.reg e = .raw undef) (h : PQuiet P L ops K rest (s.putR d (.raw undef))) : PQuiet P L ops K (⟨some d, op, ty, pos, af, some (j, want)⟩ :: rest) s := .inr ⟨.junk rfl hd hr, h⟩

/-! What single operations come to -/
section ops
variable {g : Option (Nat × Bool)} {T : TypeId} {x y : Operand} {r re : LRow} {E : TypeId}

theorem q_idx {ix : Operand} {rows : List (List PV)} {row : List PV} {k : IntKind} {n : Int} (hr : L T = some r) (hs : r.sh = .sl E) (hre : L E = some re) (hx : s.ev x = .sl rows) (hix : s.ev ix = .int k n) (h0 : 0 ≤ n) (hrow : rows[n.toNat]? = some row)
    (hlen : row.length = re.size) : QOp P L s ⟨some d, .indexAddr T x ix, ty, pos, af, g⟩ (.dref row 0) := .idx rfl hr hs hre (.inl hx) hix h0 hrow hlen
theorem q_idxF {ix : Operand} {rows : List (List PV)} {row : List PV} {k : IntKind} {n : Int} (hr : L T = some r) (hs : r.sh = .sl E) (hre : L E = some re) (hx : s.ev x = .fsl rows) (hix : s.ev ix = .int k n) (h0 : 0 ≤ n) (hrow : rows[n.toNat]? = some row)
    (hlen : row.length = re.size) : QOp P L s ⟨some d, .indexAddr T x ix, ty, pos, af, g⟩ (.dref row 0) := .idx rfl hr hs hre (.inr hx) hix h0 hrow hlen
/-- Into the image of a list. -/
theorem q_idxm {α : Type} {enc : α → List PV} {l : List α} {a : α} {ix : Operand} {k : IntKind} {n : Int} (hr : L T = some r) (hs : r.sh = .sl E) (hre : L E = some re) (hx : s.ev x = .sl (l.map enc)) (hix : s.ev ix = .int k n) (h0 : 0 ≤ n) (hget : l[n.toNat]? = some a)
    (hlen : (enc a).length = re.size) : QOp P L s ⟨some d, .indexAddr T x ix, ty, pos, af, g⟩ (.dref (enc a) 0) := q_idx hr hs hre hx hix h0 (by rw [List.getElem?_map, hget]; rfl) hlen
theorem q_idxmF {α : Type} {enc : α → List PV} {l : List α} {a : α} {ix : Operand} {k : IntKind} {n : Int} (hr : L T = some r) (hs : r.sh = .sl E) (hre : L E = some re) (hx : s.ev x = .fsl (l.map enc)) (hix : s.ev ix = .int k n) (h0 : 0 ≤ n) (hget : l[n.toNat]? = some a)
    (hlen : (enc a).length = re.size) : QOp P L s ⟨some d, .indexAddr T x ix, ty, pos, af, g⟩ (.dref (enc a) 0) := q_idxF hr hs hre hx hix h0 (by rw [List.getElem?_map, hget]; rfl) hlen
theorem q_idxA {ix : Operand} {k : IntKind} {n : Int} {st gn i m : Nat} {c : Cont} (hr : L T = some r) (hs : r.sh = .sl E) (hre : L E = some re) (hx : s.ev x = .als st gn i m) (hown : s.own st = (gn, some c)) (hsz : c.sz = re.size) (hix : s.ev ix = .int k n) (h0 : 0 ≤ n) (hlt : n < m) :
    QOp P L s ⟨some d, .indexAddr T x ix, ty, pos, af, g⟩ (.ptr st gn (i + n.toNat) 0) := .idxA rfl hr hs hre hx hown hsz hix h0 hlt
theorem q_seq {x y : Operand} {T' : TypeId} {ks : List Sh} {us vs : List PV} {r neg : Bool} (hT : eqT P T ks = true) (hx : s.ev x = .agg us) (hy : s.ev y = .agg vs) (hl : leqs ks us vs = some r) :
    QOp P L s ⟨some d, .binOp (bif neg then .neq else .eql) T x y T', ty, pos, af, g⟩ (.bool (bif neg then !r else r)) := .seq rfl hT hx hy hl
theorem q_seqN {x y : Operand} {T' : TypeId} {ks : List Sh} {us vs : List PV} {r : Bool} (hT : eqT P T ks = true) (hx : s.ev x = .agg us) (hy : s.ev y = .agg vs) (hl : leqs ks us vs = some r) :
    QOp P L s ⟨some d, .binOp .neq T x y T', ty, pos, af, g⟩ (.bool (!r)) := .seq (neg := true) rfl hT hx hy hl
theorem q_seqE {x y : Operand} {T' : TypeId} {ks : List Sh} {us vs : List PV} {r : Bool} (hT : eqT P T ks = true) (hx : s.ev x = .agg us) (hy : s.ev y = .agg vs) (hl : leqs ks us vs = some r) :
    QOp P L s ⟨some d, .binOp .eql T x y T', ty, pos, af, g⟩ (.bool r) := .seq (neg := false) rfl hT hx hy hl
theorem q_ldp {st gn i jj : Nat} {c : Cont} {row : List PV} {pv : PV} (hr : L T = some r) (hx : s.ev x = .ptr st gn i jj) (hown : s.own st = (gn, some c)) (hrow : c.rows[i]? = some row) (hp : part r row jj = some pv) :
    QOp P L s ⟨some d, .load T x, ty, pos, af, g⟩ pv := .ldp rfl hr hx hown hrow hp
theorem q_call {fop : Operand} {args : Array Operand} {tys : Array TypeId} {f : FuncId} {caps pargs : List PV} {Cd : Prop} {b : Fl} {rr : PV} (hf : s.ev fop = .clo f caps) (hret : Ret P .shared f pargs rr) (hres : resL (res s 4) (args.toList.map s.ev ++ caps) = some (pargs, Cd, b)) (hc : Cd) (hb : b.cl = true) :
    QOp P L s ⟨some d, .call ⟨.value fop, args, tys⟩, ty, pos, af, g⟩ rr := .call rfl hf hres hc hb hret
theorem q_callF {fop : Operand} {args : Array Operand} {tys : Array TypeId} {f : FuncId} {caps pargs : List PV} {Cd : Prop} {b : Fl} {rr rf : PV} (hf : s.ev fop = .clo f caps) (hret : Ret P .fresh f pargs rr) (hres : resL (res s 4) (args.toList.map s.ev ++ caps) = some (pargs, Cd, b)) (hc : Cd) (hrf : rr.frs.fz = some rf) :
    QOp P L s ⟨some d, .call ⟨.value fop, args, tys⟩, ty, pos, af, g⟩ rf := by
  rw [PV.fz_eq] at hrf
  have := QOp.callF (P := P) (L := L) (o := ⟨some d, .call ⟨.value fop, args, tys⟩, ty, pos, af, g⟩) rfl hf hres hc hret
  rwa [Option.some.inj hrf] at this
/-- A callee whose result holds no memory: whatever the arguments. -/
theorem q_callP {fop : Operand} {args : Array Operand} {tys : Array TypeId} {f : FuncId} {caps pargs : List PV} {Cd : Prop} {b : Fl} {rr rf : PV} (hf : s.ev fop = .clo f caps) (hret : Ret P .shared f pargs rr) (hres : resL (res s 4) (args.toList.map s.ev ++ caps) = some (pargs, Cd, b)) (hc : Cd) (hfl : rr.flat = true) (hrf : rr.frs.fz = some rf) :
    QOp P L s ⟨some d, .call ⟨.value fop, args, tys⟩, ty, pos, af, g⟩ rf := q_callF hf (hret.fresh_of_flat hfl) hres hc hrf

theorem o_box {v : PV} {gn : Nat} {oc : Option Cont} {Pr : Prop} (hx : (s.ev x).fz = some v) (hown : s.own d = (gn, oc)) (h1 : oneL s v.cells = some Pr) (h2 : Pr) (h0 : Nat.blt 0 v.cells.length = true)
    (h : K ((s.setOwn d (gn + 1) (some ⟨T, v.cells.length, [v.cells], 2⟩)).putR d (.ptr d (gn + 1) 0 0))) : POp P L s ⟨some d, .box T x, ty, pos, af, g⟩ K := by
  rw [PV.fz_eq] at hx
  have hx' := Option.some.inj hx
  refine .inr (.inl ⟨_, .box rfl rfl (by rw [hx']; exact h1) h2 (by rw [hx']; simpa using h0), ?_⟩)
  rw [hx', St.fin, hown]; exact h
theorem o_alloc {z : List PV} {gn : Nat} {oc : Option Cont} (hr : L T = some r) (hz : r.zero = some z) (hown : s.own d = (gn, oc)) (h0 : Nat.blt 0 z.length = true)
    (h : K ((s.setOwn d (gn + 1) (some ⟨T, z.length, [z], 2⟩)).putR d (.ptr d (gn + 1) 0 0))) : POp P L s ⟨some d, .alloc T, ty, pos, af, g⟩ K := by
  refine .inr (.inl ⟨_, .alloc rfl rfl hr hz (by simpa using h0), ?_⟩)
  rw [St.fin, hown]; exact h
/-- A store into a site of one row whose cells stand written out (a variable). -/
theorem o_store1 {v : PV} {k gn jj : Nat} {tc : TypeId} {sz : Nat} {row new : List PV} {Pr : Prop} (hr : L T = some r) (hx : s.ev x = .ptr k gn 0 jj) (hown : s.own k = (gn, some ⟨tc, sz, [row], 2⟩)) (hv : (s.ev y).fz = some v) (h1 : oneL s v.cells = some Pr) (h2 : Pr)
    (hsz : v.cells.length = r.size) (hle : Nat.ble (jj + r.size) row.length = true) (hnew : splc row jj v.cells = new) (h : K (s.setOwn k gn (some ⟨tc, sz, [new], 2⟩))) : POp P L s ⟨none, .store T x y, ty, pos, af, g⟩ K := by
  rw [PV.fz_eq] at hv
  have hv' := Option.some.inj hv
  refine .inr (.inl ⟨_, .store 2 rfl rfl hr hx hown (by rfl) (by rw [hv']; exact h1) h2 (by rw [hv']; exact hsz) (by simpa using hle) (Nat.le_refl _) (by rw [List.all_eq_true]; intro c _; cases c <;> rfl), ?_⟩)
  have hm : ∀ l : List PV, l.map (nrm 2) = l := by intro l; induction l with | nil => rfl | cons c l ih => rw [List.map_cons, ih]; cases c <;> rfl
  rw [hv', hm]
  have : ([row] : List (List PV)).set 0 (splc row jj v.cells) = [new] := by rw [hnew]; rfl
  rw [this]; exact h
/-- A store into a row of a site of data. -/
theorem o_store {v : PV} {k gn i jj kd kd' : Nat} {tc : TypeId} {sz : Nat} {rows : List (List PV)} {row : List PV} {Pr : Prop} (hr : L T = some r) (hx : s.ev x = .ptr k gn i jj) (hown : s.own k = (gn, some ⟨tc, sz, rows, kd⟩)) (hrow : rows[i]? = some row) (hv : (s.ev y).fz = some v) (h1 : oneL s v.cells = some Pr) (h2 : Pr)
    (hsz : v.cells.length = r.size) (hle : Nat.ble (jj + r.size) row.length = true) (hk : Nat.ble kd kd' = true) (hkd : v.cells.all (kOk kd') = true) (h : K (s.setOwn k gn (some ⟨tc, sz, rows.set i (splc row jj (v.cells.map (nrm kd'))), kd'⟩))) : POp P L s ⟨none, .store T x y, ty, pos, af, g⟩ K := by
  rw [PV.fz_eq] at hv
  have hv' := Option.some.inj hv
  refine .inr (.inl ⟨_, .store kd' rfl rfl hr hx hown hrow (by rw [hv']; exact h1) h2 (by rw [hv']; exact hsz) (by simpa using hle) (by simpa using hk) (by rw [hv']; exact hkd), ?_⟩)
  rw [hv']; exact h
theorem o_appN {gn k2 : Nat} {oc : Option Cont} {rows2 : List (List PV)} {Cd2 : Prop} (hr : L T = some r) (hs : r.sh = .sl E) (hre : L E = some re) (hz : re.zero.isSome = true) (hsz : Nat.blt 0 re.size = true) (hx : s.ev x = .nil) (hq : srcOf s (s.ev y) = some (rows2, k2, Cd2)) (hown : s.own d = (gn, oc))
    (hc2 : Cd2) (hlen : ∀ row ∈ rows2, row.length = re.size) (hb : rows2.length * re.bytes ≤ 140737488355328) (h63 : rows2.length ≤ 9223372036854775807) (h : K ((s.setOwn d (gn + 1) (some ⟨E, re.size, rows2, k2⟩)).putR d (.als d (gn + 1) 0 rows2.length))) :
    POp P L s ⟨some d, .call ⟨.builtin .append, #[x, y], #[T, T]⟩, ty, pos, af, g⟩ K := by
  refine .inr (.inl ⟨_, .appN rfl rfl hr hs hre hz (by simpa using hsz) hx hq hc2 hlen hb h63, ?_⟩)
  rw [St.fin, hown]; exact h
theorem o_app {k gn m k1 k2 : Nat} {tc : TypeId} {sz : Nat} {rows1 rows2 : List (List PV)} {Cd2 : Prop} (kd : Nat) (hr : L T = some r) (hs : r.sh = .sl E) (hre : L E = some re) (hz : re.zero.isSome = true) (hsz : Nat.blt 0 re.size = true) (hx : s.ev x = .als k gn 0 m) (hown : s.own k = (gn, some ⟨tc, sz, rows1, k1⟩))
    (hcs : sz = re.size) (hct : tc = E) (hq : srcOf s (s.ev y) = some (rows2, k2, Cd2)) (hm : m = rows1.length) (hc2 : Cd2) (hlen : ∀ row ∈ rows2, row.length = re.size) (hk1 : Nat.ble k1 kd = true) (hk2 : Nat.ble k2 kd = true) (hb : (rows1.length + rows2.length) * re.bytes ≤ 140737488355328) (h63 : rows1.length + rows2.length ≤ 9223372036854775807)
    (h : K ((s.setOwn k (gn + 1) (some ⟨E, re.size, rows1 ++ rows2, kd⟩)).putR d (.als k (gn + 1) 0 (rows1 ++ rows2).length))) :
    POp P L s ⟨some d, .call ⟨.builtin .append, #[x, y], #[T, T]⟩, ty, pos, af, g⟩ K := by
  refine .inr (.inl ⟨_, .app kd rfl rfl hr hs hre hz (by simpa using hsz) hx hown hm hcs hct hq hc2 hlen (by simpa using hk1) (by simpa using hk2) hb h63, ?_⟩)
  rw [St.fin, hown]; exact h
theorem o_make {l c : Operand} {kl kc : IntKind} {n : Int} {z : List PV} {gn : Nat} {oc : Option Cont} (hr : L T = some r) (hs : r.sh = .sl E) (hre : L E = some re) (hz : re.zero = some z) (hsz : Nat.blt 0 re.size = true) (hl : s.ev l = .int kl n) (hc : s.ev c = .int kc n) (hown : s.own d = (gn, oc))
    (h0 : 0 ≤ n) (hb : (re.bytes : Int) * n ≤ 140737488355328) (h63 : n ≤ 9223372036854775807) (h : K ((s.setOwn d (gn + 1) (some ⟨E, re.size, List.replicate n.toNat z, 0⟩)).putR d (.als d (gn + 1) 0 (List.replicate n.toNat z).length))) :
    POp P L s ⟨some d, .makeSlice T l c, ty, pos, af, g⟩ K := by
  refine .inr (.inl ⟨_, .make rfl rfl hr hs hre hz (by simpa using hsz) hl hc h0 hb h63, ?_⟩)
  rw [St.fin, hown]; exact h
/-- The rows of a slice literal. -/
def litRows (s : St) (kd : Nat) : List (Nat × Operand) → Option (List (List PV))
  | [] => some []
  | p :: ps => match (s.ev p.2).fz with
    | some v => (match litRows s kd ps with | some rs => some (v.cells.map (nrm kd) :: rs) | none => none)
    | none => none
theorem litRows_eq (kd : Nat) : ∀ (ps : List (Nat × Operand)) (rows : List (List PV)), litRows s kd ps = some rows → rows = ps.map fun p => (s.ev p.2).cells.map (nrm kd)
  | [], rows, h => by simp [litRows] at h; exact h
  | p :: ps, rows, h => by
    simp only [litRows, PV.fz_eq] at h
    split at h
    · rename_i rs hrs
      have := litRows_eq kd ps rs hrs
      have h' := Option.some.inj h
      rw [← h', this]; rfl
    · cases h
def nats : Nat → Nat → List Nat
  | _, 0 => []
  | k, n + 1 => k :: nats (k + 1) n
theorem nats_range : ∀ (n k : Nat), nats k n = (List.range n).map (k + ·)
  | 0, k => rfl
  | n + 1, k => by
    rw [nats, nats_range n (k + 1), List.range_succ_eq_map]
    simp only [List.map_cons, List.map_map, Nat.add_zero]
    congr 1
    apply List.map_congr_left
    intro i _
    simp; omega
theorem o_slit {n gn : Nat} {ps : List (Nat × Operand)} {oc : Option Cont} {rows : List (List PV)} {Pr : Prop} (kd : Nat) (hr : L T = some r) (hs : r.sh = .sl E) (hre : L E = some re) (hz : re.zero.isSome = true) (hsz : Nat.blt 0 re.size = true) (hown : s.own d = (gn, oc)) (hrows : litRows s kd ps = some rows)
    (hn : ps.map (·.1) = nats 0 n) (hN : Nat.ble (n * re.size) 16777216 = true) (hcells : ps.all (fun p => Nat.beq (s.ev p.2).cells.length re.size) = true) (h1 : oneL s (ps.flatMap fun p => (s.ev p.2).cells) = some Pr) (h2 : Pr) (hkd : (ps.flatMap fun p => (s.ev p.2).cells).all (kOk kd) = true)
    (h : K ((s.setOwn d (gn + 1) (some ⟨E, re.size, rows, kd⟩)).putR d (.als d (gn + 1) 0 rows.length))) : POp P L s ⟨some d, .buildSlice T n ps.toArray, ty, pos, af, g⟩ K := by
  refine .inr (.inl ⟨_, .slit kd rfl rfl hr hs hre hz (by simpa using hsz) (by rw [nats_range] at hn; simpa using hn) (by simpa using hN) (fun p hp => ?_) h1 h2 hkd, ?_⟩)
  · have := List.all_eq_true.1 hcells p hp
    simpa using this
  · rw [St.fin, hown]
    rw [litRows_eq kd ps rows hrows] at h
    exact h
/-! Maps -/
theorem o_mkmap {gn : Nat} {oc : Option Cont} (hown : s.own d = (gn, oc)) (h : K ((s.setOwn d (gn + 1) (some ⟨T, 0, [], 0⟩)).putR d (.mp d (gn + 1)))) : POp P L s ⟨some d, .makeMap T none, ty, pos, af, g⟩ K := by
  refine .inr (.inl ⟨_, .makeMap rfl rfl, ?_⟩)
  rw [St.fin, hown]; exact h
theorem o_ment {V : TypeId} {rv : LRow} {k gn kd : Nat} {rows : List (List PV)} {T' : TypeId} {key z : PV} (hr : L T = some r) (hs : r.sh = .map E V) (hre : L E = some re) (hrv : L V = some rv) (hz : rv.zero = some [z]) (hz1 : zone P V = true) (hx : s.ev x = .mp k gn) (hown : s.own k = (gn, some ⟨T', 0, rows, kd⟩)) (hkd : Nat.blt kd 3 = true)
    (hy : (s.ev y).fz = some key) (hky : re.sh.key key = true) (hkeys : keyed re.sh rows = true)
    (h1 : ∀ i row v, mix key rows = some i → rows[i]? = some row → row[1]? = some v → K (s.putR d (.tup [v, .int .i64 i])))
    (h0 : mix key rows = none → K ((s.setOwn k gn (some ⟨T', 0, rows ++ [[key, z]], kd⟩)).putR d (.tup [z, .int .i64 rows.length])))
    (htwo : ∀ row ∈ rows, row.length = 2) : POp P L s ⟨some d, .mapEntry T x y, ty, pos, af, g⟩ K := by
  rw [PV.fz_eq] at hy
  have hy := Option.some.inj hy
  cases hm : mix key rows with
  | none => exact .inr (.inl ⟨_, .mapNew rfl rfl hr hs hre hrv hz hz1 hx hown (by simpa using hkd) (by rw [hy]; exact hky) hkeys (by rw [hy]; exact hm), by rw [hy]; exact h0 hm⟩)
  | some i =>
    have hi := mix_lt hm
    have h2 := htwo rows[i] (by simp)
    have hv : rows[i][1]? = some rows[i][1] := by simp [h2]
    exact .inr (.inl ⟨_, .mapOld rfl rfl hr hs hre hx hown (by simpa using hkd) (by rw [hy]; exact hky) hkeys (by rw [hy]; exact hm) (List.getElem?_eq_getElem hi) hv, h1 i _ _ hm (List.getElem?_eq_getElem hi) hv⟩)
theorem o_est {st : Operand} {k gn i kd : Nat} {ki : IntKind} {rows : List (List PV)} {row : List PV} {T' : TypeId} {v : PV} (kd' : Nat) (hx : s.ev x = .mp k gn) (hown : s.own k = (gn, some ⟨T', 0, rows, kd⟩)) (hst : s.ev st = .int ki i) (hrow : rows[i]? = some row) (hy : (s.ev y).fz = some v) (hk : Nat.ble kd kd' = true) (hk3 : Nat.blt kd' 3 = true) (hkd : kOk kd' v = true)
    (h : K (s.setOwn k gn (some ⟨T', 0, rows.set i (row.set 1 (nrm kd' v)), kd'⟩))) : POp P L s ⟨none, .entryStore T x st y, ty, pos, af, g⟩ K := by
  rw [PV.fz_eq] at hy
  have hy := Option.some.inj hy
  exact .inr (.inl ⟨_, .entStore kd' rfl rfl hx hown hst hrow (by simpa using hk) (by simpa using hk3) (by rw [hy]; exact hkd), by rw [hy]; exact h⟩)
theorem o_mset {V : TypeId} {x y v : Operand} {k gn kd : Nat} {rows : List (List PV)} {T' : TypeId} {key pv : PV} (kd' : Nat) (hr : L T = some r) (hs : r.sh = .map E V) (hre : L E = some re) (hx : s.ev x = .mp k gn) (hown : s.own k = (gn, some ⟨T', 0, rows, kd⟩)) (hk1 : Nat.ble kd kd' = true) (hk3 : Nat.blt kd' 3 = true)
    (hy : (s.ev y).fz = some key) (hky : re.sh.key key = true) (hkeys : keyed re.sh rows = true) (hv : (s.ev v).fz = some pv) (hkd : kOk kd' pv = true) (h : K (s.setOwn k gn (some ⟨T', 0, mput key (nrm kd' pv) rows, kd'⟩))) : POp P L s ⟨none, .mapUpdate T x y v, ty, pos, af, g⟩ K := by
  rw [PV.fz_eq] at hy hv
  have hy := Option.some.inj hy
  have hv := Option.some.inj hv
  exact .inr (.inl ⟨_, .mapSet kd' rfl rfl hr hs hre hx hown (by simpa using hk1) (by simpa using hk3) (by rw [hy]; exact hky) hkeys (by rw [hv]; exact hkd), by rw [hy, hv]; exact h⟩)
theorem q_look {V : TypeId} {rv : LRow} {k gn kd : Nat} {rows : List (List PV)} {T' : TypeId} {key z : PV} (hr : L T = some r) (hs : r.sh = .map E V) (hre : L E = some re) (hrv : L V = some rv) (hz : rv.zero = some [z]) (hz1 : zone P V = true) (hx : s.ev x = .mp k gn) (hown : s.own k = (gn, some ⟨T', 0, rows, kd⟩)) (hkd : Nat.blt kd 3 = true)
    (hy : (s.ev y).fz = some key) (hky : re.sh.key key = true) (hkeys : keyed re.sh rows = true) : QOp P L s ⟨some d, .lookup T x y false, ty, pos, af, g⟩ (mval z key rows) := by
  rw [PV.fz_eq] at hy
  have hy := Option.some.inj hy
  have := QOp.look (P := P) (L := L) (s := s) (o := ⟨some d, .lookup T x y false, ty, pos, af, g⟩) rfl hr hs hre hrv hz hz1 hx hown (by simpa using hkd) (by rw [hy]; exact hky) hkeys
  rw [hy] at this
  exact this
theorem q_look2 {V : TypeId} {rv : LRow} {k gn kd : Nat} {rows : List (List PV)} {T' : TypeId} {key z : PV} (hr : L T = some r) (hs : r.sh = .map E V) (hre : L E = some re) (hrv : L V = some rv) (hz : rv.zero = some [z]) (hz1 : zone P V = true) (hx : s.ev x = .mp k gn) (hown : s.own k = (gn, some ⟨T', 0, rows, kd⟩)) (hkd : Nat.blt kd 3 = true)
    (hy : (s.ev y).fz = some key) (hky : re.sh.key key = true) (hkeys : keyed re.sh rows = true) : QOp P L s ⟨some d, .lookup T x y true, ty, pos, af, g⟩ (.tup [mval z key rows, .bool (mix key rows).isSome]) := by
  rw [PV.fz_eq] at hy
  have hy := Option.some.inj hy
  have := QOp.look (P := P) (L := L) (s := s) (o := ⟨some d, .lookup T x y true, ty, pos, af, g⟩) rfl hr hs hre hrv hz hz1 hx hown (by simpa using hkd) (by rw [hy]; exact hky) hkeys
  rw [hy] at this
  exact this
theorem q_entry {k gn : Nat} {T' : TypeId} {ck cv : PV} {rem : List PV} (hx : s.ev x = .mi k gn) (hown : s.own k = (gn, some ⟨T', 0, [.agg [ck, cv] :: rem], 3⟩)) : QOp P L s ⟨some d, .entry x, ty, pos, af, g⟩ (.tup [ck, cv]) :=
  .entry rfl hx hown rfl rfl
theorem o_range {V : TypeId} {rows : List (List PV)} {gn : Nat} {oc : Option Cont} (hr : L T = some r) (hs : r.sh = .map E V) (hx : s.ev x = .mapd rows) (hown : s.own d = (gn, oc))
    (h : K ((s.setOwn d (gn + 1) (some ⟨T, 0, pairs rows, 3⟩)).putR d (.mi d (gn + 1)))) : POp P L s ⟨some d, .range T x, ty, pos, af, g⟩ K := by
  refine .inr (.inl ⟨_, .range rfl rfl hr hs hx, ?_⟩)
  rw [St.fin, hown]; exact h
theorem o_next {k gn : Nat} {T' : TypeId} {last : PV} {rem : List PV} (hx : s.ev x = .mi k gn) (hown : s.own k = (gn, some ⟨T', 0, [last :: rem], 3⟩))
    (h0 : rem = [] → K (s.putR d (.tup [.bool false]))) (h1 : ∀ i ck cv, rem[i]? = some (.agg [ck, cv]) → K ((s.setOwn k gn (some ⟨T', 0, [.agg [ck, cv] :: rem.eraseIdx i], 3⟩)).putR d (.tup [.bool true, ck, cv]))) : POp P L s ⟨some d, .next x false, ty, pos, af, g⟩ K :=
  .inr (.inr (.next rfl rfl hx hown rfl rfl h0 h1))
end ops

/-! ### A weaker post -/
theorem POp.mono {K' : St → Prop} (hk : ∀ s, K s → K' s) (h : POp P L s o K) : POp P L s o K' := by
  rcases h with ⟨pv, h1, h2⟩ | ⟨s', h1, h2⟩ | h1
  · exact .inl ⟨pv, h1, hk _ h2⟩
  · exact .inr (.inl ⟨s', h1, hk _ h2⟩)
  · exact .inr (.inr (h1.mono hk))
theorem POps.mono {K' : St → Prop} (hk : ∀ s, K s → K' s) : ∀ (l : List Oper) (s : St), POps P L ops K l s → POps P L ops K' l s
  | [], s, h => hk s h
  | _ :: l, _, h => h.imp (fun x => ⟨x.1, x.2.mono (fun s' h' => POps.mono hk l s' h')⟩) (fun x => ⟨x.1, POps.mono hk l _ x.2⟩)
theorem PSem.mono {K' : St → Prop} (hk : ∀ s, K s → K' s) : ∀ (l : List Oper) (s : St), PSem P L ops K l s → PSem P L ops K' l s
  | [], s, h => hk s h
  | _ :: l, _, h => h.imp (fun x => ⟨x.1, x.2.imp (POp.mono' fun s' h' => PSem.mono hk l s' h') (fun y C a w Q hG hs hN => Oper.wp_mono (fun _ _ ⟨s', e1, e2⟩ => ⟨s', e1, PSem.mono hk l s' e2⟩) (y C a w Q hG hs hN))⟩) (fun x => ⟨x.1, PSem.mono hk l _ x.2⟩)
theorem PQuiet.mono {K' : St → Prop} (hk : ∀ s, K s → K' s) : ∀ (l : List Oper) (s : St), PQuiet P L ops K l s → PQuiet P L ops K' l s
  | [], s, h => hk s h
  | _ :: l, _, h => h.imp (fun ⟨x, pv, y, z⟩ => ⟨x, pv, y, PQuiet.mono hk l _ z⟩) (fun x => ⟨x.1, PQuiet.mono hk l _ x.2⟩)
theorem P3.mono {K' : St → Prop} (hk : ∀ s, K s → K' s) {Z : List Nat} {cls : Nat → Bool} : ∀ (l : List Oper) (i : Nat) (s : St), P3 P L ops Z cls K i l s → P3 P L ops Z cls K' i l s
  | [], _, s, h => hk s h
  | _ :: l, i, _, ⟨s', h1, h2⟩ => ⟨s', h1, P3.mono hk l (i + 1) s' h2⟩
theorem Gh.mono {K K' : St → Prop} (hk : ∀ s, K s → K' s) {s : St} (h : Gh K s) : Gh K' s := let ⟨s1, h1, h2⟩ := h; ⟨s1, h1, hk s1 h2⟩
theorem PWP.mono {c : Code} : ∀ {Q Q' : Exit → St → Prop}, (∀ e s, Q e s → Q' e s) → ∀ s, PWP P L c Q s → PWP P L c Q' s := by
  induction c with
  | skip => intro Q Q' hq s h; exact Gh.mono (hq _) h
  | region id ops d =>
    intro Q Q' hq s h
    refine Gh.mono (fun s h => ?_) h
    cases d with
    | true =>
      rcases h with ⟨n, ds, h1, h2⟩ | ⟨n, m, ds, F, h1, h3, h2⟩ | ⟨Z, ch, h1, h2⟩
      · exact Or.inl ⟨n, ds, h1, PQuiet.mono (fun s' h' => POps.mono (hq _) _ s' h') _ _ h2⟩
      · exact Or.inr (Or.inl ⟨n, m, ds, F, h1, h3, PQuiet.mono (fun s' h' => ⟨h'.1, POps.mono (hq _) _ s' h'.2⟩) _ _ h2⟩)
      · exact Or.inr (Or.inr ⟨Z, ch, h1, P3.mono (hq _) _ _ _ h2⟩)
    | false => exact h.imp (POps.mono (hq _) _ s) (PSem.mono (hq _) _ s)
  | seq x y ihx ihy =>
    intro Q Q' hq s h
    refine ihx ?_ s h
    intro e s' he
    cases e
    case normal => exact ihy hq s' he
    all_goals exact hq _ _ he
  | cond c x y ihx ihy =>
    intro Q Q' hq s h
    refine Gh.mono (fun s h => ?_) h
    obtain ⟨b, h1, h2, h3⟩ := h
    exact ⟨b, h1, fun hb => ihx hq s (h2 hb), fun hb => ihy hq s (h3 hb)⟩
  | block id c ih =>
    intro Q Q' hq s h
    refine ih ?_ s h
    intro e s' he
    cases e
    case exit id' =>
      show if id' = id then _ else _
      have he' : if id' = id then Q .normal s' else Q (.exit id') s' := he
      split
      · rename_i hid; rw [if_pos hid] at he'; exact hq _ _ he'
      · rename_i hid; rw [if_neg hid] at he'; exact hq _ _ he'
    all_goals exact hq _ _ he
  | loop c ih =>
    intro Q Q' hq s h
    refine Gh.mono (fun s h => ?_) h
    obtain ⟨I, μ, h0, hr⟩ := h
    refine ⟨I, μ, h0, fun s1 hs1 => ih ?_ s1 (hr s1 hs1)⟩
    intro e s' he
    cases e
    case normal => exact he
    all_goals exact hq _ _ he
  | exit id => intro Q Q' hq s h; exact Gh.mono (hq _) h
  | ret => intro Q Q' hq s h; exact Gh.mono (hq _) h
  | label l => intro Q Q' hq s h; exact Gh.mono (hq _) h
  | goto l => intro Q Q' hq s h; exact h.elim
  | rangeFunc => intro Q Q' hq s h; exact h.elim
  | scope => intro Q Q' hq s h; exact h.elim
  | refuse => intro Q Q' hq s h; exact h.elim

/-! ### Loops -/
/-- The registers and sites that are known. -/
def St.over (s : St) (l : List (Nat × PV)) (m : List (Nat × Nat × Cont)) : St :=
  ⟨l.foldr (fun p f r => bif Nat.beq r p.1 then p.2 else f r) s.reg, m.foldr (fun p f r => bif Nat.beq r p.1 then (p.2.1, some p.2.2) else f r) s.own⟩

def St.fits (s : St) (l : List (Nat × PV)) (m : List (Nat × Nat × Cont)) : Prop := (∀ p ∈ l, s.reg p.1 = p.2) ∧ ∀ p ∈ m, s.own p.1 = (p.2.1, some p.2.2)

def FitO (s : St) : List (Nat × Nat × Cont) → Prop
  | [] => True
  | (k, g, c) :: m => s.own k = (g, some c) ∧ FitO s m
def Fit (s : St) (l : List (Nat × PV)) (m : List (Nat × Nat × Cont)) : Prop :=
  match l with
  | [] => FitO s m
  | (r, v) :: l => s.reg r = v ∧ Fit s l m

theorem over_reg (s : St) : ∀ l : List (Nat × PV), (∀ p ∈ l, s.reg p.1 = p.2) → l.foldr (fun p f r => bif Nat.beq r p.1 then p.2 else f r) s.reg = s.reg
  | [], _ => rfl
  | (r, v) :: l, h => by
    rw [List.foldr_cons, over_reg s l (fun p hp => h p (by simp [hp]))]
    funext t
    by_cases ht : t = r
    · subst ht; simp; exact (h (t, v) (by simp)).symm
    · simp [nbeq_ne ht]
theorem over_own (s : St) : ∀ m : List (Nat × Nat × Cont), (∀ p ∈ m, s.own p.1 = (p.2.1, some p.2.2)) → m.foldr (fun p f r => bif Nat.beq r p.1 then (p.2.1, some p.2.2) else f r) s.own = s.own
  | [], _ => rfl
  | (k, g, c) :: m, h => by
    rw [List.foldr_cons, over_own s m (fun p hp => h p (by simp [hp]))]
    funext t
    by_cases ht : t = k
    · subst ht; simp; exact (h (t, g, c) (by simp)).symm
    · simp [nbeq_ne ht]

theorem FitO.fits {s : St} : ∀ {m : List (Nat × Nat × Cont)}, FitO s m → ∀ p ∈ m, s.own p.1 = (p.2.1, some p.2.2)
  | [], _ => by simp
  | (k, g, c) :: m, h => fun p hp => by
    have h' : s.own k = (g, some c) ∧ FitO s m := h
    rcases List.mem_cons.1 hp with rfl | hp
    · exact h'.1
    · exact FitO.fits h'.2 p hp
theorem Fit.fits {s : St} : ∀ {l : List (Nat × PV)} {m : List (Nat × Nat × Cont)}, Fit s l m → s.fits l m
  | [], m, h => ⟨by simp, FitO.fits h⟩
  | (r, v) :: l, m, h => by
    have h' : s.reg r = v ∧ Fit s l m := h
    have := Fit.fits h'.2
    refine ⟨fun p hp => ?_, this.2⟩
    rcases List.mem_cons.1 hp with rfl | hp
    · exact h'.1
    · exact this.1 p hp

theorem Fit.over {s : St} {l : List (Nat × PV)} {m : List (Nat × Nat × Cont)} (h : Fit s l m) : s.over l m = s := by
  have := h.fits
  exact St.ext' (over_reg s l this.1) (over_own s m this.2)

/-- A loop: what is known at each round's head, by a parameter; the measure of the parameter. -/
theorem pw_loop {ι : Type} (I : ι → Prop) (regs : ι → List (Nat × PV)) (owns : ι → List (Nat × Nat × Cont)) (μ : ι → Nat) {c : Code} (i0 : ι) (h0 : I i0) (hs : Fit s (regs i0) (owns i0))
    (round : ∀ (i : ι) (s : St), I i → PWP P L c (XThen (fun s' => ∃ j, I j ∧ μ j < μ i ∧ Fit s' (regs j) (owns j)) Q) (s.over (regs i) (owns i))) : PWP P L (.loop c) Q s := by
  let J : St → Nat → Prop := fun s n => ∃ i, I i ∧ Fit s (regs i) (owns i) ∧ μ i = n
  have least : ∀ s, (∃ n, J s n) → ∃ n, J s n ∧ ∀ m, J s m → n ≤ m := by
    intro s ⟨n, hn⟩
    induction n using Nat.strongRecOn with
    | _ n ih =>
      by_cases hx : ∃ m, m < n ∧ J s m
      · obtain ⟨m, hm, hj⟩ := hx
        exact ih m hm hj
      · exact ⟨n, hn, fun m hm => by
          rcases Nat.lt_or_ge m n with h | h
          · exact absurd ⟨m, h, hm⟩ hx
          · exact h⟩
  have hμ : ∃ f : St → Nat, ∀ s, (∃ n, J s n) → J s (f s) ∧ ∀ m, J s m → f s ≤ m :=
    ⟨fun s => Classical.epsilon fun n => J s n ∧ ∀ m, J s m → n ≤ m, fun s hx => Classical.epsilon_spec (least s hx)⟩
  obtain ⟨f, hf⟩ := hμ
  refine Gh.of ⟨fun s => ∃ i, I i ∧ Fit s (regs i) (owns i), f, ⟨i0, h0, hs⟩, ?_⟩
  rintro s1 ⟨i1, hi1, hfit1⟩
  obtain ⟨⟨i, hi, hfit, hm⟩, _⟩ := hf s1 ⟨_, i1, hi1, hfit1, rfl⟩
  have := round i s1 hi
  rw [hfit.over] at this
  refine PWP.mono ?_ _ this
  intro e s' hq
  cases e
  case normal =>
    obtain ⟨j, hj, hlt, hfj⟩ := hq
    refine ⟨⟨j, hj, hfj⟩, ?_⟩
    have := (hf s' ⟨_, j, hj, hfj, rfl⟩).2 _ ⟨j, hj, hfj, rfl⟩
    omega
  all_goals exact hq

end
end Go.Pv

/- The seat's types, as a table that is asked by halving, and its check against the program. -/
namespace Go.Pv
open Go.Proofs
set_option maxRecDepth 100000
def lay : Tr := (.nd 89 (.nd 44 (.nd 22 (.nd 11 (.nd 5 (.nd 2 (.nd 1 (.lf 0 ⟨1, 0, .other, none⟩)
 (.lf 1 ⟨1, 8, .other, (some [(.raw .nilFunc)])⟩))
 (.nd 3 (.lf 2 ⟨1, 8, (.int .i64), (some [(.int .i64 0)])⟩)
 (.nd 4 (.lf 3 ⟨1, 8, (.int .i64), (some [(.int .i64 0)])⟩)
 (.lf 4 ⟨1, 1, .bool, (some [(.bool false)])⟩))))
 (.nd 8 (.nd 6 (.lf 5 ⟨1, 1, (.int .u8), (some [(.int .u8 0)])⟩)
 (.nd 7 (.lf 6 ⟨1, 1, (.int .u8), (some [(.int .u8 0)])⟩)
 (.lf 7 ⟨4, 24, (.st [(0, 2), (1, 3), (2, 4), (3, 6)]), (some [(.int .i64 0), (.int .i64 0), (.bool false), (.int .u8 0)])⟩)))
 (.nd 9 (.lf 8 ⟨4, 24, (.st [(0, 2), (1, 3), (2, 4), (3, 6)]), (some [(.int .i64 0), (.int .i64 0), (.bool false), (.int .u8 0)])⟩)
 (.nd 10 (.lf 9 ⟨1, 16, .str, (some [(.str [])])⟩)
 (.lf 10 ⟨1, 16, .str, (some [(.str [])])⟩)))))
 (.nd 16 (.nd 13 (.nd 12 (.lf 11 ⟨1, 16, .str, (some [(.str [])])⟩)
 (.lf 12 ⟨1, 8, (.int .u64), (some [(.int .u64 0)])⟩))
 (.nd 14 (.lf 13 ⟨2, 24, (.st [(0, 9), (1, 12)]), (some [(.str []), (.int .u64 0)])⟩)
 (.nd 15 (.lf 14 ⟨2, 24, (.st [(0, 9), (1, 12)]), (some [(.str []), (.int .u64 0)])⟩)
 (.lf 15 ⟨1, 8, (.ptr 163), (some [(.raw (.pointer none))])⟩))))
 (.nd 19 (.nd 17 (.lf 16 ⟨1, 8, (.ptr 166), (some [(.raw (.pointer none))])⟩)
 (.nd 18 (.lf 17 ⟨1, 8, (.ptr 176), (some [(.raw (.pointer none))])⟩)
 (.lf 18 ⟨1, 8, (.st [(0, 17)]), (some [(.raw (.pointer none))])⟩)))
 (.nd 20 (.lf 19 ⟨1, 8, (.st [(0, 17)]), (some [(.raw (.pointer none))])⟩)
 (.nd 21 (.lf 20 ⟨1, 16, .other, (some [(.raw .nilIface)])⟩)
 (.lf 21 ⟨1, 4, (.int .i32), (some [(.int .i32 0)])⟩))))))
 (.nd 33 (.nd 27 (.nd 24 (.nd 23 (.lf 22 ⟨1, 24, (.sl 69), (some [.nil])⟩)
 (.lf 23 ⟨1, 24, (.sl 45), (some [.nil])⟩))
 (.nd 25 (.lf 24 ⟨1, 24, (.sl 66), (some [.nil])⟩)
 (.nd 26 (.lf 25 ⟨1, 24, (.sl 118), (some [.nil])⟩)
 (.lf 26 ⟨1, 24, (.sl 120), (some [.nil])⟩))))
 (.nd 30 (.nd 28 (.lf 27 ⟨9, 152, (.st [(0, 22), (1, 23), (2, 24), (3, 25), (4, 26), (5, 3), (6, 3), (7, 3), (8, 3)]), (some [.nil, .nil, .nil, .nil, .nil, (.int .i64 0), (.int .i64 0), (.int .i64 0), (.int .i64 0)])⟩)
 (.nd 29 (.lf 28 ⟨9, 152, (.st [(0, 22), (1, 23), (2, 24), (3, 25), (4, 26), (5, 3), (6, 3), (7, 3), (8, 3)]), (some [.nil, .nil, .nil, .nil, .nil, (.int .i64 0), (.int .i64 0), (.int .i64 0), (.int .i64 0)])⟩)
 (.lf 29 ⟨1, 24, (.sl 59), (some [.nil])⟩)))
 (.nd 31 (.lf 30 ⟨1, 8, .other, (some [(.raw .nilFunc)])⟩)
 (.nd 32 (.lf 31 ⟨1, 8, .other, (some [(.raw .nilFunc)])⟩)
 (.lf 32 ⟨1, 8, .other, (some [(.raw .nilFunc)])⟩)))))
 (.nd 38 (.nd 35 (.nd 34 (.lf 33 ⟨1, 8, (.int .i64), (some [(.int .i64 0)])⟩)
 (.lf 34 ⟨1, 0, .other, none⟩))
 (.nd 36 (.lf 35 ⟨1, 8, .other, (some [(.raw .nilFunc)])⟩)
 (.nd 37 (.lf 36 ⟨1, 24, (.sl 3), (some [.nil])⟩)
 (.lf 37 ⟨1, 0, .other, none⟩))))
 (.nd 41 (.nd 39 (.lf 38 ⟨1, 8, .other, (some [(.raw .nilFunc)])⟩)
 (.nd 40 (.lf 39 ⟨1, 8, .other, (some [(.raw .nilFunc)])⟩)
 (.lf 40 ⟨1, 8, .other, (some [(.raw .nilFunc)])⟩)))
 (.nd 42 (.lf 41 ⟨1, 8, .other, (some [(.raw .nilFunc)])⟩)
 (.nd 43 (.lf 42 ⟨1, 8, .other, (some [(.raw .nilFunc)])⟩)
 (.lf 43 ⟨1, 8, .other, (some [(.raw .nilFunc)])⟩)))))))
 (.nd 66 (.nd 55 (.nd 49 (.nd 46 (.nd 45 (.lf 44 ⟨3, 32, (.st [(0, 9), (1, 3), (2, 3)]), (some [(.str []), (.int .i64 0), (.int .i64 0)])⟩)
 (.lf 45 ⟨3, 32, (.st [(0, 9), (1, 3), (2, 3)]), (some [(.str []), (.int .i64 0), (.int .i64 0)])⟩))
 (.nd 47 (.lf 46 ⟨1, 8, .other, (some [(.raw .nilFunc)])⟩)
 (.nd 48 (.lf 47 ⟨1, 24, (.sl 9), (some [.nil])⟩)
 (.lf 48 ⟨1, 8, .other, (some [(.raw .nilFunc)])⟩))))
 (.nd 52 (.nd 50 (.lf 49 ⟨1, 0, .other, none⟩)
 (.nd 51 (.lf 50 ⟨1, 8, .other, (some [(.raw .nilFunc)])⟩)
 (.lf 51 ⟨1, 8, .other, (some [(.raw .nilFunc)])⟩)))
 (.nd 53 (.lf 52 ⟨1, 0, .other, none⟩)
 (.nd 54 (.lf 53 ⟨1, 8, .other, (some [(.raw .nilFunc)])⟩)
 (.lf 54 ⟨1, 8, .other, (some [(.raw .nilFunc)])⟩)))))
 (.nd 60 (.nd 57 (.nd 56 (.lf 55 ⟨1, 8, .other, (some [(.raw .nilFunc)])⟩)
 (.lf 56 ⟨1, 8, .other, (some [(.raw .nilFunc)])⟩))
 (.nd 58 (.lf 57 ⟨1, 8, .other, (some [(.raw .nilFunc)])⟩)
 (.nd 59 (.lf 58 ⟨3, 32, (.st [(0, 9), (1, 3), (2, 3)]), (some [(.str []), (.int .i64 0), (.int .i64 0)])⟩)
 (.lf 59 ⟨3, 32, (.st [(0, 9), (1, 3), (2, 3)]), (some [(.str []), (.int .i64 0), (.int .i64 0)])⟩))))
 (.nd 63 (.nd 61 (.lf 60 ⟨3, 48, (.st [(0, 3), (1, 47), (2, 9)]), (some [(.int .i64 0), .nil, (.str [])])⟩)
 (.nd 62 (.lf 61 ⟨3, 48, (.st [(0, 3), (1, 47), (2, 9)]), (some [(.int .i64 0), .nil, (.str [])])⟩)
 (.lf 62 ⟨1, 0, .other, none⟩)))
 (.nd 64 (.lf 63 ⟨1, 8, .other, (some [(.raw .nilFunc)])⟩)
 (.nd 65 (.lf 64 ⟨1, 8, .other, (some [(.raw .nilFunc)])⟩)
 (.lf 65 ⟨3, 48, (.st [(0, 9), (1, 4), (2, 47)]), (some [(.str []), (.bool false), .nil])⟩))))))
 (.nd 77 (.nd 71 (.nd 68 (.nd 67 (.lf 66 ⟨3, 48, (.st [(0, 9), (1, 4), (2, 47)]), (some [(.str []), (.bool false), .nil])⟩)
 (.lf 67 ⟨1, 24, (.sl 87), (some [.nil])⟩))
 (.nd 69 (.lf 68 ⟨7, 112, (.st [(0, 9), (1, 9), (2, 67), (3, 9), (4, 3), (5, 4), (6, 47)]), (some [(.str []), (.str []), .nil, (.str []), (.int .i64 0), (.bool false), .nil])⟩)
 (.nd 70 (.lf 69 ⟨7, 112, (.st [(0, 9), (1, 9), (2, 67), (3, 9), (4, 3), (5, 4), (6, 47)]), (some [(.str []), (.str []), .nil, (.str []), (.int .i64 0), (.bool false), .nil])⟩)
 (.lf 70 ⟨1, 24, (.sl 102), (some [.nil])⟩))))
 (.nd 74 (.nd 72 (.lf 71 ⟨1, 0, .other, none⟩)
 (.nd 73 (.lf 72 ⟨1, 8, .other, (some [(.raw .nilFunc)])⟩)
 (.lf 73 ⟨1, 8, .other, (some [(.raw .nilFunc)])⟩)))
 (.nd 75 (.lf 74 ⟨1, 8, .other, (some [(.raw .nilFunc)])⟩)
 (.nd 76 (.lf 75 ⟨1, 8, .other, (some [(.raw .nilFunc)])⟩)
 (.lf 76 ⟨1, 8, (.map 3 3), (some [(.raw (.map none))])⟩)))))
 (.nd 83 (.nd 80 (.nd 78 (.lf 77 ⟨1, 8, .other, (some [(.raw .nilFunc)])⟩)
 (.nd 79 (.lf 78 ⟨1, 8, .other, (some [(.raw .nilFunc)])⟩)
 (.lf 79 ⟨1, 8, .other, (some [(.raw .nilFunc)])⟩)))
 (.nd 81 (.lf 80 ⟨1, 8, .other, (some [(.raw .nilFunc)])⟩)
 (.nd 82 (.lf 81 ⟨1, 24, (.sl 84), (some [.nil])⟩)
 (.lf 82 ⟨1, 8, .other, (some [(.raw .nilFunc)])⟩))))
 (.nd 86 (.nd 84 (.lf 83 ⟨3, 40, (.st [(0, 9), (1, 9), (2, 33)]), (some [(.str []), (.str []), (.int .i64 0)])⟩)
 (.nd 85 (.lf 84 ⟨3, 40, (.st [(0, 9), (1, 9), (2, 33)]), (some [(.str []), (.str []), (.int .i64 0)])⟩)
 (.lf 85 ⟨1, 8, .other, (some [(.raw .nilFunc)])⟩)))
 (.nd 87 (.lf 86 ⟨2, 16, (.st [(0, 3), (1, 3)]), (some [(.int .i64 0), (.int .i64 0)])⟩)
 (.nd 88 (.lf 87 ⟨2, 16, (.st [(0, 3), (1, 3)]), (some [(.int .i64 0), (.int .i64 0)])⟩)
 (.lf 88 ⟨1, 8, .other, (some [(.raw .nilFunc)])⟩))))))))
 (.nd 133 (.nd 111 (.nd 100 (.nd 94 (.nd 91 (.nd 90 (.lf 89 ⟨1, 8, .other, (some [(.raw .nilFunc)])⟩)
 (.lf 90 ⟨1, 8, .other, (some [(.raw .nilFunc)])⟩))
 (.nd 92 (.lf 91 ⟨1, 8, (.ptr 99), (some [(.raw (.pointer none))])⟩)
 (.nd 93 (.lf 92 ⟨1, 8, .other, (some [(.raw .nilFunc)])⟩)
 (.lf 93 ⟨1, 8, .other, (some [(.raw .nilFunc)])⟩))))
 (.nd 97 (.nd 95 (.lf 94 ⟨1, 8, .other, (some [(.raw .nilFunc)])⟩)
 (.nd 96 (.lf 95 ⟨1, 8, .other, (some [(.raw .nilFunc)])⟩)
 (.lf 96 ⟨1, 24, (.sl 36), (some [.nil])⟩)))
 (.nd 98 (.lf 97 ⟨1, 24, (.sl 129), (some [.nil])⟩)
 (.nd 99 (.lf 98 ⟨13, 248, (.st [(0, 28), (9, 96), (10, 97), (11, 36), (12, 70)]), (some [.nil, .nil, .nil, .nil, .nil, (.int .i64 0), (.int .i64 0), (.int .i64 0), (.int .i64 0), .nil, .nil, .nil, .nil])⟩)
 (.lf 99 ⟨13, 248, (.st [(0, 28), (9, 96), (10, 97), (11, 36), (12, 70)]), (some [.nil, .nil, .nil, .nil, .nil, (.int .i64 0), (.int .i64 0), (.int .i64 0), (.int .i64 0), .nil, .nil, .nil, .nil])⟩)))))
 (.nd 105 (.nd 102 (.nd 101 (.lf 100 ⟨1, 8, .other, (some [(.raw .nilFunc)])⟩)
 (.lf 101 ⟨3, 24, (.st [(0, 3), (1, 3), (2, 4)]), (some [(.int .i64 0), (.int .i64 0), (.bool false)])⟩))
 (.nd 103 (.lf 102 ⟨3, 24, (.st [(0, 3), (1, 3), (2, 4)]), (some [(.int .i64 0), (.int .i64 0), (.bool false)])⟩)
 (.nd 104 (.lf 103 ⟨1, 0, .other, none⟩)
 (.lf 104 ⟨1, 8, .other, (some [(.raw .nilFunc)])⟩))))
 (.nd 108 (.nd 106 (.lf 105 ⟨1, 8, .other, (some [(.raw .nilFunc)])⟩)
 (.nd 107 (.lf 106 ⟨1, 8, .other, (some [(.raw .nilFunc)])⟩)
 (.lf 107 ⟨1, 8, .other, (some [(.raw .nilFunc)])⟩)))
 (.nd 109 (.lf 108 ⟨1, 8, .other, (some [(.raw .nilFunc)])⟩)
 (.nd 110 (.lf 109 ⟨1, 0, .other, none⟩)
 (.lf 110 ⟨1, 8, .other, (some [(.raw .nilFunc)])⟩))))))
 (.nd 122 (.nd 116 (.nd 113 (.nd 112 (.lf 111 ⟨1, 8, .other, (some [(.raw .nilFunc)])⟩)
 (.lf 112 ⟨1, 8, .other, (some [(.raw .nilFunc)])⟩))
 (.nd 114 (.lf 113 ⟨1, 8, .other, (some [(.raw .nilFunc)])⟩)
 (.nd 115 (.lf 114 ⟨1, 8, .other, (some [(.raw .nilFunc)])⟩)
 (.lf 115 ⟨1, 8, .other, (some [(.raw .nilFunc)])⟩))))
 (.nd 119 (.nd 117 (.lf 116 ⟨1, 8, .other, (some [(.raw .nilFunc)])⟩)
 (.nd 118 (.lf 117 ⟨3, 24, (.st [(0, 3), (1, 3), (2, 3)]), (some [(.int .i64 0), (.int .i64 0), (.int .i64 0)])⟩)
 (.lf 118 ⟨3, 24, (.st [(0, 3), (1, 3), (2, 3)]), (some [(.int .i64 0), (.int .i64 0), (.int .i64 0)])⟩)))
 (.nd 120 (.lf 119 ⟨2, 16, (.st [(0, 3), (1, 3)]), (some [(.int .i64 0), (.int .i64 0)])⟩)
 (.nd 121 (.lf 120 ⟨2, 16, (.st [(0, 3), (1, 3)]), (some [(.int .i64 0), (.int .i64 0)])⟩)
 (.lf 121 ⟨1, 8, .other, (some [(.raw .nilFunc)])⟩)))))
 (.nd 127 (.nd 124 (.nd 123 (.lf 122 ⟨1, 8, .other, (some [(.raw .nilFunc)])⟩)
 (.lf 123 ⟨1, 8, .other, (some [(.raw .nilFunc)])⟩))
 (.nd 125 (.lf 124 ⟨1, 8, .other, (some [(.raw .nilFunc)])⟩)
 (.nd 126 (.lf 125 ⟨1, 8, .other, (some [(.raw .nilFunc)])⟩)
 (.lf 126 ⟨1, 8, .other, (some [(.raw .nilFunc)])⟩))))
 (.nd 130 (.nd 128 (.lf 127 ⟨1, 8, .other, (some [(.raw .nilFunc)])⟩)
 (.nd 129 (.lf 128 ⟨1, 8, .other, (some [(.raw .nilFunc)])⟩)
 (.lf 129 ⟨1, 24, (.sl 4), (some [.nil])⟩)))
 (.nd 131 (.lf 130 ⟨1, 8, .other, (some [(.raw .nilFunc)])⟩)
 (.nd 132 (.lf 131 ⟨1, 8, .other, (some [(.raw .nilFunc)])⟩)
 (.lf 132 ⟨1, 8, .other, (some [(.raw .nilFunc)])⟩)))))))
 (.nd 155 (.nd 144 (.nd 138 (.nd 135 (.nd 134 (.lf 133 ⟨1, 8, .other, (some [(.raw .nilFunc)])⟩)
 (.lf 134 ⟨1, 8, .other, (some [(.raw .nilFunc)])⟩))
 (.nd 136 (.lf 135 ⟨1, 8, .other, (some [(.raw .nilFunc)])⟩)
 (.nd 137 (.lf 136 ⟨1, 0, .other, none⟩)
 (.lf 137 ⟨1, 8, .other, (some [(.raw .nilFunc)])⟩))))
 (.nd 141 (.nd 139 (.lf 138 ⟨1, 24, (.sl 142), (some [.nil])⟩)
 (.nd 140 (.lf 139 ⟨1, 8, .other, (some [(.raw .nilFunc)])⟩)
 (.lf 140 ⟨1, 8, .other, (some [(.raw .nilFunc)])⟩)))
 (.nd 142 (.lf 141 ⟨1, 8, (.st [(0, 140)]), (some [(.raw .nilFunc)])⟩)
 (.nd 143 (.lf 142 ⟨1, 8, (.st [(0, 140)]), (some [(.raw .nilFunc)])⟩)
 (.lf 143 ⟨1, 8, .other, (some [(.raw .nilFunc)])⟩)))))
 (.nd 149 (.nd 146 (.nd 145 (.lf 144 ⟨1, 8, .other, (some [(.raw .nilFunc)])⟩)
 (.lf 145 ⟨1, 8, .other, (some [(.raw .nilFunc)])⟩))
 (.nd 147 (.lf 146 ⟨1, 8, .other, (some [(.raw .nilFunc)])⟩)
 (.nd 148 (.lf 147 ⟨1, 8, .other, (some [(.raw .nilFunc)])⟩)
 (.lf 148 ⟨1, 8, .other, (some [(.raw .nilFunc)])⟩))))
 (.nd 152 (.nd 150 (.lf 149 ⟨1, 8, .other, (some [(.raw .nilFunc)])⟩)
 (.nd 151 (.lf 150 ⟨1, 8, .other, (some [(.raw .nilFunc)])⟩)
 (.lf 151 ⟨1, 8, .other, (some [(.raw .nilFunc)])⟩)))
 (.nd 153 (.lf 152 ⟨1, 8, .other, (some [(.raw .nilFunc)])⟩)
 (.nd 154 (.lf 153 ⟨1, 8, .other, (some [(.raw .nilFunc)])⟩)
 (.lf 154 ⟨1, 8, .other, (some [(.raw .nilFunc)])⟩))))))
 (.nd 166 (.nd 160 (.nd 157 (.nd 156 (.lf 155 ⟨1, 8, .other, (some [(.raw .nilFunc)])⟩)
 (.lf 156 ⟨1, 8, .other, (some [(.raw .nilFunc)])⟩))
 (.nd 158 (.lf 157 ⟨1, 8, .other, (some [(.raw .nilFunc)])⟩)
 (.nd 159 (.lf 158 ⟨1, 8, .other, (some [(.raw .nilFunc)])⟩)
 (.lf 159 ⟨1, 8, .other, (some [(.raw .nilFunc)])⟩))))
 (.nd 163 (.nd 161 (.lf 160 ⟨1, 8, .other, (some [(.raw .nilFunc)])⟩)
 (.nd 162 (.lf 161 ⟨1, 8, .other, (some [(.raw .nilFunc)])⟩)
 (.lf 162 ⟨4, 40, (.st [(0, 17), (1, 17), (2, 17), (3, 9)]), (some [(.raw (.pointer none)), (.raw (.pointer none)), (.raw (.pointer none)), (.str [])])⟩)))
 (.nd 164 (.lf 163 ⟨4, 40, (.st [(0, 17), (1, 17), (2, 17), (3, 9)]), (some [(.raw (.pointer none)), (.raw (.pointer none)), (.raw (.pointer none)), (.str [])])⟩)
 (.nd 165 (.lf 164 ⟨0, 0, (.arr 0 16), (some [])⟩)
 (.lf 165 ⟨0, 0, (.st [(0, 164)]), (some [])⟩)))))
 (.nd 172 (.nd 169 (.nd 167 (.lf 166 ⟨0, 0, (.st [(0, 164)]), (some [])⟩)
 (.nd 168 (.lf 167 ⟨1, 8, .other, (some [(.raw .nilFunc)])⟩)
 (.lf 168 ⟨1, 4, (.int .u32), (some [(.int .u32 0)])⟩)))
 (.nd 170 (.lf 169 ⟨1, 1, (.int .u8), (some [(.int .u8 0)])⟩)
 (.nd 171 (.lf 170 ⟨1, 1, (.int .u8), (some [(.int .u8 0)])⟩)
 (.lf 171 ⟨1, 8, .other, (some [(.raw .nilFunc)])⟩))))
 (.nd 175 (.nd 173 (.lf 172 ⟨1, 8, (.ptr 5), (some [(.raw (.pointer none))])⟩)
 (.nd 174 (.lf 173 ⟨1, 4, (.int .i32), (some [(.int .i32 0)])⟩)
 (.lf 174 ⟨1, 4, (.int .i32), (some [(.int .i32 0)])⟩)))
 (.nd 176 (.lf 175 ⟨11, 48, (.st [(0, 12), (1, 12), (2, 168), (3, 169), (4, 5), (5, 5), (6, 170), (7, 171), (8, 172), (9, 173), (10, 174)]), (some [(.int .u64 0), (.int .u64 0), (.int .u32 0), (.int .u8 0), (.int .u8 0), (.int .u8 0), (.int .u8 0), (.raw .nilFunc), (.raw (.pointer none)), (.int .i32 0), (.int .i32 0)])⟩)
 (.nd 177 (.lf 176 ⟨11, 48, (.st [(0, 12), (1, 12), (2, 168), (3, 169), (4, 5), (5, 5), (6, 170), (7, 171), (8, 172), (9, 173), (10, 174)]), (some [(.int .u64 0), (.int .u64 0), (.int .u32 0), (.int .u8 0), (.int .u8 0), (.int .u8 0), (.int .u8 0), (.raw .nilFunc), (.raw (.pointer none)), (.int .i32 0), (.int .i32 0)])⟩)
 (.lf 177 ⟨1, 8, .other, (some [(.raw (.pointer none))])⟩)))))))))
theorem lay_fits : lay.fits Tryz.prog = true := by kernel_rfl
theorem layOk : LOk Tryz.prog lay.get := Tr.ok lay_fits
theorem mixed : Tryz.prog.follows .mixedOrders = true := by kernel_rfl
end Go.Pv
