/- Texts of one hand, gathered: PvO, PvP, PvY, PvZ, SdA, SdB, SdC, SdD, SdE, SdF, SdG, SdH, SdI, SdJ, SdK, SdL, SdM, SdN, SdO, SdP, SdQ. -/
import Derived.Test.YtfnjhhndbgidmaaGreatLi2
/- Steps, continued: the case split where a boolean comes to be, and the ends of functions. -/
namespace Go.Pv
open Go.RowKit

section
variable {P : Program} {L : Lay} {Q : Exit → St → Prop} {K : St → Prop} {s : St} {ops : Array Oper} {rest : List Oper} {o : Oper}
variable {d e j : Nat} {op : Op} {ty : TypeId} {pos : String} {af : Array Edge} {want : Bool} {g : Option (Nat × Bool)}

theorem op_case {b : Bool} {Cd : Prop} (hq : qv L s op = some (.bool b, Cd)) (hc : Cd) (h1 : b = true → K (s.putR d (.bool true))) (h0 : b = false → K (s.putR d (.bool false))) : POp P L s ⟨some d, op, ty, pos, af, g⟩ K := by
  cases b
  · exact op_v hq hc (h0 rfl)
  · exact op_v hq hc (h1 rfl)
theorem op_qcase {b : Bool} (hq : QOp P L s ⟨some d, op, ty, pos, af, g⟩ (.bool b)) (h1 : b = true → K (s.putR d (.bool true))) (h0 : b = false → K (s.putR d (.bool false))) : POp P L s ⟨some d, op, ty, pos, af, g⟩ K := by
  cases b
  · exact op_q hq (h0 rfl)
  · exact op_q hq (h1 rfl)
theorem ps_case {b : Bool} {Cd : Prop} (hq : qv L s op = some (.bool b, Cd)) (hc : Cd) (h1 : b = true → POps P L ops K rest (s.putR d (.bool true))) (h0 : b = false → POps P L ops K rest (s.putR d (.bool false))) : POps P L ops K (⟨some d, op, ty, pos, af, none⟩ :: rest) s := ps_run (op_case hq hc h1 h0)
theorem ps_qcase {b : Bool} (hq : QOp P L s ⟨some d, op, ty, pos, af, none⟩ (.bool b)) (h1 : b = true → POps P L ops K rest (s.putR d (.bool true))) (h0 : b = false → POps P L ops K rest (s.putR d (.bool false))) : POps P L ops K (⟨some d, op, ty, pos, af, none⟩ :: rest) s := ps_run (op_qcase hq h1 h0)
theorem pq_qcase {b : Bool} (hq : QOp P L s ⟨some d, op, ty, pos, af, none⟩ (.bool b)) (h1 : b = true → PQuiet P L ops K rest (s.putR d (.bool true))) (h0 : b = false → PQuiet P L ops K rest (s.putR d (.bool false))) : PQuiet P L ops K (⟨some d, op, ty, pos, af, none⟩ :: rest) s := by
  cases b
  · exact pq_q hq (h0 rfl)
  · exact pq_q hq (h1 rfl)
theorem pq_case {b : Bool} {Cd : Prop} (hq : qv L s op = some (.bool b, Cd)) (hc : Cd) (h1 : b = true → PQuiet P L ops K rest (s.putR d (.bool true))) (h0 : b = false → PQuiet P L ops K rest (s.putR d (.bool false))) : PQuiet P L ops K (⟨some d, op, ty, pos, af, none⟩ :: rest) s := pq_qcase (.v hq hc) h1 h0
theorem pq_yescase {b : Bool} (hd : (ops[j]?).bind (·.dst) = some e) (hr : s.reg e = .bool want) (hq : QOp P L s ⟨some d, op, ty, pos, af, some (j, want)⟩ (.bool b)) (h1 : b = true → PQuiet P L ops K rest (s.putR d (.bool true))) (h0 : b = false → PQuiet P L ops K rest (s.putR d (.bool false))) :
    PQuiet P L ops K (⟨some d, op, ty, pos, af, some (j, want)⟩ :: rest) s := by
  cases b
  · exact pq_yes hd hr hq (h0 rfl)
  · exact pq_yes hd hr hq (h1 rfl)
theorem ps_yesv {pv : PV} {Cd : Prop} (hd : (ops[j]?).bind (·.dst) = some e) (hr : s.reg e = .bool want) (hq : qv L s op = some (pv, Cd)) (hc : Cd) (h : POps P L ops K rest (s.putR d pv)) : POps P L ops K (⟨some d, op, ty, pos, af, some (j, want)⟩ :: rest) s :=
  ps_yes hd hr (op_v hq hc h)

theorem putR_same {b : Bool} (hr : s.reg e = .bool b) : s.putR e (.bool b) = s := by
  refine St.ext' ?_ rfl
  funext t
  show (bif Nat.beq t e then PV.bool b else s.reg t) = s.reg t
  by_cases ht : t = e
  · subst ht; simp [hr]
  · simp [nbeq_ne ht]
/-- The split at a guard. -/
theorem ps_split {b : Bool} (_hd : (ops[j]?).bind (·.dst) = some e) (hr : s.reg e = .bool b) (h1 : b = true → POps P L ops K (⟨some d, op, ty, pos, af, some (j, want)⟩ :: rest) (s.putR e (.bool true))) (h0 : b = false → POps P L ops K (⟨some d, op, ty, pos, af, some (j, want)⟩ :: rest) (s.putR e (.bool false))) :
    POps P L ops K (⟨some d, op, ty, pos, af, some (j, want)⟩ :: rest) s := by
  have := putR_same hr
  cases b
  · have h := h0 rfl; rwa [this] at h
  · have h := h1 rfl; rwa [this] at h
theorem pq_split {b : Bool} (_hd : (ops[j]?).bind (·.dst) = some e) (hr : s.reg e = .bool b) (h1 : b = true → PQuiet P L ops K (⟨some d, op, ty, pos, af, some (j, want)⟩ :: rest) (s.putR e (.bool true))) (h0 : b = false → PQuiet P L ops K (⟨some d, op, ty, pos, af, some (j, want)⟩ :: rest) (s.putR e (.bool false))) :
    PQuiet P L ops K (⟨some d, op, ty, pos, af, some (j, want)⟩ :: rest) s := by
  have := putR_same hr
  cases b
  · have h := h0 rfl; rwa [this] at h
  · have h := h1 rfl; rwa [this] at h
/-- A nil slice that is to be appended to: an empty site of its own. -/
theorem o_nilm {x : Operand} {gn : Nat} {oc : Option Cont} (T : TypeId) (sz kd : Nat) (hx : s.ev x = .nil) (hown : s.own d = (gn, oc)) (h : K ((s.setOwn d (gn + 1) (some ⟨T, sz, [], kd⟩)).putR d (.als d (gn + 1) 0 0))) : POp P L s ⟨some d, .move x, ty, pos, af, g⟩ K := by
  refine .inr (.inl ⟨_, .nils T sz kd (.inl rfl) rfl hx, ?_⟩)
  rw [St.fin, hown]; exact h
theorem o_nila {x : Operand} {gn : Nat} {oc : Option Cont} (T : TypeId) (sz kd : Nat) (hx : s.ev x = .nil) (hown : s.own d = (gn, oc)) (h : K ((s.setOwn d (gn + 1) (some ⟨T, sz, [], kd⟩)).putR d (.als d (gn + 1) 0 0))) : POp P L s ⟨some d, .assign x, ty, pos, af, g⟩ K := by
  refine .inr (.inl ⟨_, .nils T sz kd (.inr rfl) rfl hx, ?_⟩)
  rw [St.fin, hown]; exact h

/-- A slice literal of data that is only read. -/
theorem q_slit {T E : TypeId} {r re : LRow} {n : Nat} {ps : List (Nat × Operand)} {rows : List (List PV)} {Pr : Prop} (hr : L T = some r) (hs : r.sh = .sl E) (hre : L E = some re) (hz : re.zero.isSome = true) (hsz : Nat.blt 0 re.size = true) (hrows : litRows s 0 ps = some rows)
    (hn : ps.map (·.1) = nats 0 n) (hN : Nat.ble (n * re.size) 16777216 = true) (hcells : ps.all (fun p => Nat.beq (s.ev p.2).cells.length re.size) = true) (h1 : oneL s (ps.flatMap fun p => (s.ev p.2).cells) = some Pr) (h2 : Pr) (hkd : (ps.flatMap fun p => (s.ev p.2).cells).all (kOk 0) = true) :
    QOp P L s ⟨some d, .buildSlice T n ps.toArray, ty, pos, af, g⟩ (.fsl rows) := by
  have := QOp.slit (P := P) (L := L) (s := s) (o := ⟨some d, .buildSlice T n ps.toArray, ty, pos, af, g⟩) rfl hr hs hre hz (by simpa using hsz) (by rw [nats_range] at hn; simpa using hn) (by simpa using hN) (fun p hp => by
    have := List.all_eq_true.1 hcells p (by simpa using hp)
    simpa using this) h1 h2 hkd
  rw [litRows_eq 0 ps rows hrows]
  exact this

/-- Made slices that are only read. -/
theorem q_mks {T E : TypeId} {r re : LRow} {l c : Operand} {kl kc : IntKind} {n : Int} {z : List PV} (hr : L T = some r) (hs : r.sh = .sl E) (hre : L E = some re) (hz : re.zero = some z) (hsz : Nat.blt 0 re.size = true) (hl : s.ev l = .int kl n) (hc : s.ev c = .int kc n)
    (h0 : 0 ≤ n) (hb : (re.bytes : Int) * n ≤ 140737488355328) (h63 : n ≤ 9223372036854775807) : QOp P L s ⟨some d, .makeSlice T l c, ty, pos, af, g⟩ (.fsl (List.replicate n.toNat z)) :=
  .mks rfl hr hs hre hz (by simpa using hsz) hl hc h0 hb h63

/-! ### The end of a function -/
variable {fn : Func} {r : PV}
theorem end1 {t : Nat} {v d : PV} {Cd : Prop} {fl : Fl} (h : fn.results.toList = [.tmp t]) (hv : (s.reg t).fz = some v) (hres : res s 5 v = some (d, Cd, fl)) (hc : Cd) (hd : d = r) : RetPost L fn .shared r .ret s := by
  rw [PV.fz_eq] at hv
  have hv := Option.some.inj hv
  subst hv
  exact ⟨[s.reg t], True ∧ True, d, Cd, fl, by rw [h]; rfl, ⟨trivial, trivial⟩, hres, hc, trivial, hd⟩
theorem end1b {t : Nat} {b : Bool} (h : fn.results.toList = [.tmp t]) (hv : s.reg t = .bool b) (hd : PV.bool b = r) : RetPost L fn .shared r .ret s :=
  end1 h (v := .bool b) (by rw [hv]; rfl) rfl trivial hd
theorem end1i {t : Nat} {k : IntKind} {n : Int} (h : fn.results.toList = [.tmp t]) (hv : s.reg t = .int k n) (hd : PV.int k n = r) : RetPost L fn .shared r .ret s :=
  end1 h (v := .int k n) (by rw [hv]; rfl) rfl trivial hd
/-- Two results. -/
theorem end2 {t1 t2 : Nat} {v1 v2 d1 d2 : PV} {C1 C2 : Prop} {f1 f2 : Fl} (h : fn.results.toList = [.tmp t1, .tmp t2]) (h1 : (s.reg t1).fz = some v1) (h2 : (s.reg t2).fz = some v2) (r1 : res s 4 v1 = some (d1, C1, f1)) (r2 : res s 4 v2 = some (d2, C2, f2)) (c1 : C1) (c2 : C2)
    (hd : PV.tup [d1, d2] = r) : RetPost L fn .shared r .ret s := by
  rw [PV.fz_eq] at h1 h2
  have h1 := Option.some.inj h1
  have h2 := Option.some.inj h2
  subst h1 h2
  refine ⟨[s.reg t1, s.reg t2], True ∧ True ∧ True, .tup [d1, d2], C1 ∧ C2 ∧ True, f1.and (f2.and ⟨true, true⟩), by rw [h]; rfl, ⟨trivial, trivial, trivial⟩, ?_, ⟨c1, c2, trivial⟩, trivial, hd⟩
  show (match resL (res s 4) [s.reg t1, s.reg t2] with | some (ds, C1, b) => some (PV.tup ds, C1, b) | none => none) = _
  simp only [resL, r1, r2]
/-- What comes back lies in new memory alone. -/
theorem end1f {t : Nat} {v d : PV} {Cd : Prop} {c : Bool} (h : fn.results.toList = [.tmp t]) (hv : (s.reg t).fz = some v) (hres : res s 5 v = some (d, Cd, ⟨c, true⟩)) (hc : Cd) (hd : d = r) : RetPost L fn .fresh r .ret s := by
  rw [PV.fz_eq] at hv
  have hv := Option.some.inj hv
  subst hv
  exact ⟨[s.reg t], True ∧ True, d, Cd, ⟨c, true⟩, by rw [h]; rfl, ⟨trivial, trivial⟩, hres, hc, rfl, hd⟩
theorem end2f {t1 t2 : Nat} {v1 v2 d1 d2 : PV} {C1 C2 : Prop} {b1 b2 : Bool} (h : fn.results.toList = [.tmp t1, .tmp t2]) (h1 : (s.reg t1).fz = some v1) (h2 : (s.reg t2).fz = some v2) (r1 : res s 4 v1 = some (d1, C1, ⟨b1, true⟩)) (r2 : res s 4 v2 = some (d2, C2, ⟨b2, true⟩)) (c1 : C1) (c2 : C2)
    (hd : PV.tup [d1, d2] = r) : RetPost L fn .fresh r .ret s := by
  rw [PV.fz_eq] at h1 h2
  have h1 := Option.some.inj h1
  have h2 := Option.some.inj h2
  subst h1 h2
  refine ⟨[s.reg t1, s.reg t2], True ∧ True ∧ True, .tup [d1, d2], C1 ∧ C2 ∧ True, (⟨b1, true⟩ : Fl).and ((⟨b2, true⟩ : Fl).and ⟨true, true⟩), by rw [h]; rfl, ⟨trivial, trivial, trivial⟩, ?_, ⟨c1, c2, trivial⟩, rfl, hd⟩
  show (match resL (res s 4) [s.reg t1, s.reg t2] with | some (ds, C1, b) => some (PV.tup ds, C1, b) | none => none) = _
  simp only [resL, r1, r2]
end

/-! ### Cuts: what is known in the middle -/
section
variable {P : Program} {L : Lay} {Q : Exit → St → Prop} {K : St → Prop} {s : St} {ops : Array Oper}
theorem POps.app {K : St → Prop} : ∀ (l1 l2 : List Oper) (s : St), POps P L ops (fun s' => POps P L ops K l2 s') l1 s → POps P L ops K (l1 ++ l2) s
  | [], _, _, h => h
  | _ :: l1, l2, _, h => h.imp (fun x => ⟨x.1, x.2.mono fun s' h' => POps.app l1 l2 s' h'⟩) fun x => ⟨x.1, POps.app l1 l2 _ x.2⟩
theorem PQuiet.app {K : St → Prop} : ∀ (l1 l2 : List Oper) (s : St), PQuiet P L ops (fun s' => PQuiet P L ops K l2 s') l1 s → PQuiet P L ops K (l1 ++ l2) s
  | [], _, _, h => h
  | _ :: l1, l2, _, h => h.imp (fun ⟨x, pv, y, z⟩ => ⟨x, pv, y, PQuiet.app l1 l2 _ z⟩) fun x => ⟨x.1, PQuiet.app l1 l2 _ x.2⟩
theorem ps_cut {l : List Oper} (n : Nat) (regs : List (Nat × PV)) (owns : List (Nat × Nat × Cont)) (h1 : POps P L ops (fun s' => Fit s' regs owns) (l.take n) s) (h2 : ∀ s : St, POps P L ops K (l.drop n) (s.over regs owns)) : POps P L ops K l s := by
  have := POps.app (K := K) (l.take n) (l.drop n) s (h1.mono (fun s' hf => by have := h2 s'; rwa [hf.over] at this) _ _)
  rwa [List.take_append_drop] at this
theorem pq_cut {l : List Oper} (n : Nat) (regs : List (Nat × PV)) (owns : List (Nat × Nat × Cont)) (h1 : PQuiet P L ops (fun s' => Fit s' regs owns) (l.take n) s) (h2 : ∀ s : St, PQuiet P L ops K (l.drop n) (s.over regs owns)) : PQuiet P L ops K l s := by
  have := PQuiet.app (K := K) (l.take n) (l.drop n) s (h1.mono (fun s' hf => by have := h2 s'; rwa [hf.over] at this) _ _)
  rwa [List.take_append_drop] at this
theorem ps_cutP {l : List Oper} (X : Prop) (n : Nat) (regs : List (Nat × PV)) (owns : List (Nat × Nat × Cont)) (h1 : POps P L ops (fun s' => X ∧ Fit s' regs owns) (l.take n) s) (h2 : X → ∀ s : St, POps P L ops K (l.drop n) (s.over regs owns)) : POps P L ops K l s := by
  have := POps.app (K := K) (l.take n) (l.drop n) s (h1.mono (fun s' hf => by have := h2 hf.1 s'; rwa [hf.2.over] at this) _ _)
  rwa [List.take_append_drop] at this
theorem pq_cutP {l : List Oper} (X : Prop) (n : Nat) (regs : List (Nat × PV)) (owns : List (Nat × Nat × Cont)) (h1 : PQuiet P L ops (fun s' => X ∧ Fit s' regs owns) (l.take n) s) (h2 : X → ∀ s : St, PQuiet P L ops K (l.drop n) (s.over regs owns)) : PQuiet P L ops K l s := by
  have := PQuiet.app (K := K) (l.take n) (l.drop n) s (h1.mono (fun s' hf => by have := h2 hf.1 s'; rwa [hf.2.over] at this) _ _)
  rwa [List.take_append_drop] at this
theorem pw_cutP {x y : Code} (X : Prop) (regs : List (Nat × PV)) (owns : List (Nat × Nat × Cont)) (h1 : PWP P L x (XThen (fun s' => X ∧ Fit s' regs owns) Q) s) (h2 : X → ∀ s : St, PWP P L y Q (s.over regs owns)) : PWP P L (.seq x y) Q s := by
  refine pw_seq (PWP.mono ?_ _ h1)
  intro e s' h
  cases e
  case normal =>
    have := h2 h.1 s'
    rwa [Fit.over h.2] at this
  all_goals exact h
/-- Between two pieces of code. -/
theorem pw_cut {x y : Code} (regs : List (Nat × PV)) (owns : List (Nat × Nat × Cont)) (h1 : PWP P L x (XThen (fun s' => Fit s' regs owns) Q) s) (h2 : ∀ s : St, PWP P L y Q (s.over regs owns)) : PWP P L (.seq x y) Q s := by
  refine pw_seq (PWP.mono ?_ _ h1)
  intro e s' h
  cases e
  case normal =>
    have := h2 s'
    rwa [Fit.over h] at this
  all_goals exact h
end

/-! ### Reckoning with 64 bits -/
theorem wrap_i64 {n : Int} (h1 : -9223372036854775808 ≤ n) (h2 : n ≤ 9223372036854775807) : IntKind.i64.wrap n = n := by
  rw [IntKind.wrap_i64]; omega
theorem i64_next {n : Int} (h1 : -9223372036854775808 ≤ n) (h2 : n < 9223372036854775807) : PV.int .i64 (IntKind.i64.wrap (n + 1)) = .int .i64 (n + 1) := by rw [wrap_i64 (by omega) (by omega)]
theorem get_lt {α : Type} {l : List α} {k : Nat} (h : k < l.length) : ∃ x, l[k]? = some x := ⟨l[k], List.getElem?_eq_getElem h⟩
end Go.Pv

/- Steps that the machine does not take: lists within lists. -/
namespace Go.Pv
open Go.RowKit

section
variable {C : Ctx} {γ : Nat → Option Nat} {s : St} {a : Act} {w : World}

theorem envOf_recell {k0 g0 : Nat} {c0 c1 : Cont} (ho : s.own k0 = (g0, some c0)) (ht : c1.ty = c0.ty) (hs : c1.sz = c0.sz) (hl : c1.rows.length = c0.rows.length) :
    envOf C γ (s.setOwn k0 g0 (some c1)) w = envOf C γ s w := by
  have hown : ∀ k, ((s.setOwn k0 g0 (some c1)).own k).1 = (s.own k).1 ∧ (((s.setOwn k0 g0 (some c1)).own k).2.map fun c => (⟨γ k, c.ty, c.sz, c.rows.length⟩ : SLoc)) = (s.own k).2.map fun c => (⟨γ k, c.ty, c.sz, c.rows.length⟩ : SLoc) := by
    intro k
    by_cases hk : k = k0
    · subst hk; rw [setOwn_same, ho]; simp [ht, hs, hl]
    · rw [setOwn_ne hk]; exact ⟨rfl, rfl⟩
  have hok : ∀ b, okOf C γ (s.setOwn k0 g0 (some c1)) w b = okOf C γ s w b := by
    intro b
    refine propext ⟨fun h => ⟨h.1, h.2.1, fun k c hc => ?_⟩, fun h => ⟨h.1, h.2.1, fun k c hc => ?_⟩⟩
    · by_cases hk : k = k0
      · subst hk; exact h.2.2 k c1 (by rw [setOwn_same])
      · exact h.2.2 k c (by rw [setOwn_ne hk]; exact hc)
    · by_cases hk : k = k0
      · subst hk; exact h.2.2 k c0 (by rw [ho])
      · rw [setOwn_ne hk] at hc; exact h.2.2 k c hc
  unfold envOf
  congr 1
  · funext b; exact hok b
  · funext b; rw [hok b]
  · funext k; exact (hown k).1
  · funext k; exact (hown k).2

theorem SiteOk.rowlen {E : Env} {blk : Option Nat} {c : Cont} (h : SiteOk E blk c) (hz : 0 < c.sz) : ∀ r ∈ c.rows, r.length = c.sz := by
  intro r hr
  cases blk with
  | none => rw [h.emp rfl] at hr; cases hr
  | some b => obtain ⟨cur, _, _, _, f4, _⟩ := h.at_ b rfl hz; exact f4 r hr
/-- Other words for the cells of a site. -/
theorem Sim.recell (h : Sim C γ s a w) {k0 g0 : Nat} {c0 c1 : Cont} (ho : s.own k0 = (g0, some c0)) (ht : c1.ty = c0.ty) (hs : c1.sz = c0.sz) (hz0 : 0 < c0.sz) (hl : c1.rows.length = c0.rows.length) (hrl : ∀ row ∈ c1.rows, row.length = c1.sz)
    (hcell : ∀ (i j : Nat) (row1 : List PV) (pv1 : PV), c1.rows[i]? = some row1 → row1[j]? = some pv1 → ∃ row0 pv0, c0.rows[i]? = some row0 ∧ row0[j]? = some pv0 ∧ ∀ v, KRep (envOf C γ s w) c0.kind pv0 v → KRep (envOf C γ s w) c1.kind pv1 v) :
    Sim C γ (s.setOwn k0 g0 (some c1)) a w := by
  have he := envOf_recell (C := C) (γ := γ) (w := w) ho ht hs hl
  have hsome : ∀ k c, ((s.setOwn k0 g0 (some c1)).own k).2 = some c → ∃ c', (s.own k).2 = some c' := by
    intro k c hc
    by_cases hk : k = k0
    · subst hk; exact ⟨c0, by rw [ho]⟩
    · rw [setOwn_ne hk] at hc; exact ⟨c, hc⟩
  refine ⟨h.defers, h.size, fun r => by rw [he]; exact h.regs r, fun k c hc => ?_, fun k k' c c' b e1 e2 e3 e4 => ?_, fun k c b e1 e2 => ?_, h.below, h.top, fun c v hk => by rw [he]; exact h.kept c v hk⟩
  · rw [he]
    by_cases hk : k = k0
    · subst hk
      rw [setOwn_same] at hc
      have hc : c1 = c := Option.some.inj hc
      subst hc
      have hsite := h.sites k c0 (by rw [ho])
      refine ⟨fun hb => ?_, (fun b _ hz => by omega), (fun b _ hz => by omega), fun b hb _ => ?_⟩
      · have := hsite.emp hb
        exact List.eq_nil_of_length_eq_zero (by rw [hl, this]; rfl)
      · obtain ⟨cur, f1, f2, f3, f4, f5⟩ := hsite.at_ b hb hz0
        refine ⟨cur, by rw [ht]; exact f1, by rw [hs]; exact f2, by rw [hl, hs]; exact f3, hrl, fun i j row pv e1 e2 => ?_⟩
        obtain ⟨row0, pv0, g1, g2, g3⟩ := hcell i j row pv e1 e2
        obtain ⟨v, u1, u2, u3⟩ := f5 i j row0 pv0 g1 g2
        exact ⟨v, by rw [hs]; exact u1, u2, g3 v u3⟩
    · rw [setOwn_ne hk] at hc
      exact h.sites k c hc
  · obtain ⟨d, hd⟩ := hsome k c e1
    obtain ⟨d', hd'⟩ := hsome k' c' e2
    exact h.inj k k' d d' b hd hd' e3 e4
  · obtain ⟨d, hd⟩ := hsome k c e1
    exact h.base k d b hd e2

/-- A site given up: its memory may be read as data from now on. -/
theorem Sim.drop (hX : ∀ b, C.X b → b < C.B) (h : Sim C γ s a w) {k g : Nat} {c : Cont} (ho : s.own k = (g, some c)) :
    Sim C γ (s.setOwn k (g + 1) none) a w ∧ (envOf C γ s w).Le (envOf C γ (s.setOwn k (g + 1) none) w) ∧
      (c.kind = 0 → ∀ v, Rep (envOf C γ s w) (.als k g 0 c.rows.length) v → DRep w (envOf C γ (s.setOwn k (g + 1) none) w).okf (.sl c.rows) v) := by
  have hok : ∀ b, okOf C γ s w b → okOf C γ (s.setOwn k (g + 1) none) w b := fun b hb => ⟨hb.1, hb.2.1, fun k' c' hc' => by
    by_cases hk : k' = k
    · subst hk; rw [setOwn_same] at hc'; cases hc'
    · rw [setOwn_ne hk] at hc'; exact hb.2.2 k' c' hc'⟩
  have hle : (envOf C γ s w).Le (envOf C γ (s.setOwn k (g + 1) none) w) := by
    refine ⟨hok, fun b hb => ⟨hb.1, hok b hb.2⟩, fun b hb => hb.2, fun b o v _ hc => hc, fun b es n _ hc => hc, fun k' => ?_, fun k' l' hg hl => ?_, fun k' l' b cur hg hl hb hh => ⟨cur, hh, rfl⟩⟩
    · show (s.own k').1 ≤ ((s.setOwn k (g + 1) none).own k').1
      by_cases hk : k' = k
      · subst hk; rw [setOwn_same, ho]; simp
      · rw [setOwn_ne hk]; exact Nat.le_refl _
    · by_cases hk : k' = k
      · subst hk
        simp only [envOf, setOwn_same, Option.map_none] at hl
        cases hl
      · refine ⟨l', ?_, rfl, rfl, rfl, Nat.le_refl _⟩
        simp only [envOf, setOwn_ne hk] at hl ⊢
        exact hl
  refine ⟨⟨h.defers, h.size, fun r => (h.regs r).mono hle, fun k' c' hc' => ?_, fun k1 k2 c1 c2 b e1 e2 e3 e4 => ?_, fun k' c' b e1 e2 => ?_, h.below, h.top, fun c v hk => (h.kept c v hk).mono hle⟩, hle, fun hk v hv => ?_⟩
  · by_cases hk : k' = k
    · subst hk; rw [setOwn_same] at hc'; cases hc'
    · rw [setOwn_ne hk] at hc'
      exact (h.sites k' c' hc').mono hle fun b hb => rfl
  · have hne : ∀ {k' c'}, ((s.setOwn k (g + 1) none).own k').2 = some c' → (s.own k').2 = some c' := by
      intro k' c' hc'
      by_cases hk : k' = k
      · subst hk; rw [setOwn_same] at hc'; cases hc'
      · rwa [setOwn_ne hk] at hc'
    exact h.inj k1 k2 c1 c2 b (hne e1) (hne e2) e3 e4
  · by_cases hk : k' = k
    · subst hk; rw [setOwn_same] at e1; cases e1
    · rw [setOwn_ne hk] at e1; exact h.base k' c' b e1 e2
  · rcases h.als_at hv ho with ⟨h1, _, h3, rfl⟩ | ⟨b, cap, cur, h1, rfl, h3, h4, h5, h6, h7⟩
    · have : c.rows = [] := (h.sites k c (by rw [ho])).emp h1
      rw [this]
      exact .sl0 _ _
    · obtain ⟨cur', g1, g2, g3, g4, g5⟩ := h.site_at ho h1 (h.cells_sz ho h1 h3)
      have hb : (envOf C γ (s.setOwn k (g + 1) none) w).okf b := by
        have hbase := h.base k c b (by rw [ho]) h1
        refine ⟨hbase.1, hbase.2, fun hx => ?_, fun k' c' hc' hb' => ?_⟩
        · have := hX b hx; omega
        · by_cases hk' : k' = k
          · subst hk'; rw [setOwn_same] at hc'; cases hc'
          · rw [setOwn_ne hk'] at hc'
            exact hk' (h.inj k' k c' c b hc' (by rw [ho]) hb' h1)
      simp only [Nat.zero_mul]
      refine .sl c.rows b 0 cap c.sz (fun i j => cur'.getD (i * c.sz + j) undef) hb g2 h4 g4 (fun i j row pv e1 e2 => ?_) (fun i j row pv e1 e2 => ?_)
      · obtain ⟨u, f1, f2, _⟩ := g5 i j row pv e1 e2
        rw [cell_of_cells g1, Nat.zero_add, f1]
        simp [f1, f2]
      · obtain ⟨u, f1, _, f3⟩ := g5 i j row pv e1 e2
        have : cur'.getD (i * c.sz + j) undef = u := by simp [f1]
        simp only [this]
        rw [hk] at f3
        exact hle.drepf f3
end

section
variable {s : St}

/-- A site given up, whatever it held. -/
theorem Ghost.drop {k g : Nat} {oc : Option Cont} (ho : s.own k = (g, oc)) : Ghost s (s.setOwn k (g + 2) none) := by
  intro C a w hX ⟨γ, h⟩
  have ht : Turn C γ s w w k none := ⟨rfl, rfl, rfl, Nat.le_refl _, fun b _ => .inl rfl, fun b hb => by cases hb⟩
  have h1 := ht.sim h (c := ⟨0, 0, [], 0⟩) (.none_ rfl)
  have hfin : s.fin k ⟨0, 0, [], 0⟩ = s.setOwn k (g + 1) (some ⟨0, 0, [], 0⟩) := by rw [St.fin, ho]
  rw [hfin] at h1
  have h2 := (h1.drop hX (setOwn_same _ _ _ _)).1
  have he : (s.setOwn k (g + 1) (some ⟨0, 0, [], 0⟩)).setOwn k (g + 1 + 1) none = s.setOwn k (g + 2) none := by
    refine St.ext' rfl (funext fun r => ?_)
    show (bif Nat.beq r k then _ else (bif Nat.beq r k then _ else _)) = (bif Nat.beq r k then _ else _)
    cases Nat.beq r k <;> rfl
  rw [he] at h2
  exact ⟨_, h2⟩

/-- A site under another key; pointers of old no longer count, but that in one register. -/
theorem Ghost.move {k g k' g' t i j : Nat} {c : Cont} {oc' : Option Cont} (hk : Nat.beq k k' = false) (ho : s.own k = (g, some c)) (ho' : s.own k' = (g', oc')) (hr : s.reg t = .ptr k g i j) :
    Ghost s (((s.setOwn k (g + 1) none).setOwn k' (g' + 1) (some c)).putR t (.ptr k' (g' + 1) i j)) := by
  intro C a w hX ⟨γ, h⟩
  have hne : k ≠ k' := fun e => by subst e; simp at hk
  have o1 : ((s.setOwn k (g + 1) none).setOwn k' (g' + 1) (some c)).own k = (g + 1, none) := by rw [setOwn_ne hne, setOwn_same]
  have o2 : ((s.setOwn k (g + 1) none).setOwn k' (g' + 1) (some c)).own k' = (g' + 1, some c) := setOwn_same _ _ _ _
  have o3 : ∀ q, q ≠ k → q ≠ k' → ((s.setOwn k (g + 1) none).setOwn k' (g' + 1) (some c)).own q = s.own q := fun q h1 h2 => by rw [setOwn_ne h2, setOwn_ne h1]
  have hregs : ((s.setOwn k (g + 1) none).setOwn k' (g' + 1) (some c)).reg = s.reg := rfl
  generalize (s.setOwn k (g + 1) none).setOwn k' (g' + 1) (some c) = s1 at *
  have hval : ∀ {q : Nat} {d : Cont}, (s1.own q).2 = some d → ∃ q0, (s.own q0).2 = some d ∧ γ q0 = upg γ k' (γ k) q ∧ ((q = k' ∧ q0 = k) ∨ (q ≠ k' ∧ q ≠ k ∧ q0 = q)) := by
    intro q d hd
    by_cases h2 : q = k'
    · subst h2
      rw [o2] at hd
      exact ⟨k, by rw [ho]; exact hd, by rw [upg_same], .inl ⟨rfl, rfl⟩⟩
    · by_cases h1 : q = k
      · subst h1; rw [o1] at hd; cases hd
      · rw [o3 q h1 h2] at hd
        exact ⟨q, hd, by rw [upg_ne h2], .inr ⟨h2, h1, rfl⟩⟩
  have hok : ∀ b, okOf C γ s w b → okOf C (upg γ k' (γ k)) s1 w b := fun b hb => ⟨hb.1, hb.2.1, fun q d hd => by
    obtain ⟨q0, e1, e2, _⟩ := hval hd
    rw [← e2]; exact hb.2.2 q0 d e1⟩
  have hle : (envOf C γ s w).Le (envOf C (upg γ k' (γ k)) s1 w) := by
    refine ⟨hok, fun b hb => ⟨hb.1, hok b hb.2⟩, fun b hb => hb.2, fun b o v _ hc => hc, fun b es n _ hc => hc, fun q => ?_, fun q l' hg hl => ?_, fun q l' b cur hg hl hb hh => ⟨cur, hh, rfl⟩⟩
    · show (s.own q).1 ≤ (s1.own q).1
      by_cases h2 : q = k'
      · subst h2; rw [o2, ho']; simp
      · by_cases h1 : q = k
        · subst h1; rw [o1, ho]; simp
        · rw [o3 q h1 h2]; exact Nat.le_refl _
    · have hgg : (s1.own q).1 = (s.own q).1 := hg
      by_cases h2 : q = k'
      · subst h2; rw [o2, ho'] at hgg; simp at hgg
      · by_cases h1 : q = k
        · subst h1; rw [o1, ho] at hgg; simp at hgg
        · refine ⟨l', ?_, rfl, rfl, rfl, Nat.le_refl _⟩
          simp only [envOf, o3 q h1 h2, upg_ne h2] at hl ⊢
          exact hl
  refine ⟨upg γ k' (γ k), h.defers, h.size, fun r => ?_, fun q d hd => ?_, fun q1 q2 d1 d2 b e1 e2 e3 e4 => ?_, fun q d b e1 e2 => ?_, h.below, h.top, fun d v hd => (h.kept d v hd).mono hle⟩
  · show Rep (envOf C (upg γ k' (γ k)) s1 w) (bif Nat.beq r t then _ else s1.reg r) _
    by_cases hrt : r = t
    · subst hrt
      have hp := h.regs r
      rw [hr] at hp
      simp only [Nat.beq_refl, cond_true]
      have hp' := h.ptr_at hp ho
      refine .ptr ?_ fun _ l hl => ?_
      · show g' + 1 ≤ (s1.own k').1
        rw [o2]; exact Nat.le_refl _
      · simp only [envOf, o2, upg_same, Option.map_some, Option.some.injEq] at hl
        subst hl
        exact hp'
    · rw [nbeq_ne hrt, hregs]; exact (h.regs r).mono hle
  · obtain ⟨q0, e1, e2, _⟩ := hval hd
    have := (h.sites q0 d e1).mono hle fun b _ => rfl
    rwa [e2] at this
  · obtain ⟨p1, f1, f2, f3⟩ := hval e1
    obtain ⟨p2, f4, f5, f6⟩ := hval e2
    have := h.inj p1 p2 d1 d2 b f1 f4 (by rw [f2]; exact e3) (by rw [f5]; exact e4)
    rcases f3 with ⟨a1, a2⟩ | ⟨a1, a2, a3⟩ <;> rcases f6 with ⟨b1, b2⟩ | ⟨b1, b2, b3⟩
    · rw [a1, b1]
    · exact absurd (by rw [← b3, ← this, a2]) b2
    · exact absurd (by rw [← a3, this, b2]) a2
    · rw [← a3, ← b3, this]
  · obtain ⟨q0, f1, f2, _⟩ := hval e1
    exact h.base q0 d b f1 (by rw [f2]; exact e2)

/-- A variable that is not written any more, read as data through one register. -/
theorem Ghost.data {k g t kd : Nat} {T : TypeId} {row : List PV} (ho : s.own k = (g, some ⟨T, row.length, [row], kd⟩)) (hr : s.reg t = .ptr k g 0 0) (hall : row.all (kOk 1) = true) (hz0 : Nat.blt 0 row.length = true) :
    Ghost s ((s.setOwn k (g + 1) none).putR t (.dref (row.map (nrm 1)) 0)) := by
  intro C a w hX ⟨γ, h⟩
  obtain ⟨h1, hle, _⟩ := h.drop hX ho
  have hz0 : 0 < row.length := by simpa using hz0
  have hp := h.regs t
  rw [hr] at hp
  obtain ⟨b, hb, hv, hi, hj⟩ := h.ptr_at hp ho
  obtain ⟨cur, f1, f2, f3, f4, f5⟩ := h.site_at ho hb hz0
  have hokb : okOf C γ (s.setOwn k (g + 1) none) w b := by
    have hbase := h.base k _ b (by rw [ho]) hb
    refine ⟨hbase.2, fun hx => ?_, fun k' c' hc' hb' => ?_⟩
    · have := hX b hx; omega
    · by_cases hk' : k' = k
      · subst hk'; rw [setOwn_same] at hc'; cases hc'
      · rw [setOwn_ne hk'] at hc'
        exact hk' (h.inj k' k c' _ b hc' (by rw [ho]) hb' hb)
  have hd : Rep (envOf C γ (s.setOwn k (g + 1) none) w) (.dref (row.map (nrm 1)) 0) (a.tmps.getD t undef) := by
    rw [hv]
    simp only [Nat.zero_mul, Nat.zero_add]
    have key : ∀ (i : Nat) (c : PV), (row.map (nrm 1))[i]? = some c → ∃ c0 u, row[i]? = some c0 ∧ c = nrm 1 c0 ∧ cur[i]? = some u ∧ u.oneCell' = true ∧ KRep (envOf C γ s w) kd c0 u := by
      intro i c hc
      rw [List.getElem?_map] at hc
      cases hq : row[i]? with
      | none => rw [hq] at hc; simp at hc
      | some c0 =>
        rw [hq] at hc; simp at hc
        obtain ⟨u, e1, e2, e3⟩ := f5 0 i row c0 rfl hq
        exact ⟨c0, u, rfl, hc.symm, by simpa using e1, e2, e3⟩
    have := DRep.dref (w := w) (ok := (envOf C γ (s.setOwn k (g + 1) none) w).ok) (row.map (nrm 1)) 0 b 0 (fun i => cur.getD i undef) hokb (fun i c hc => by
      obtain ⟨c0, u, e1, e2, e3, e4, e5⟩ := key i c hc
      rw [cell_of_cells f1, Nat.zero_add, e3]
      simp [e3, e4]) (fun i c hc => by
      obtain ⟨c0, u, e1, rfl, e3, e4, e5⟩ := key i c hc
      have hu : cur.getD i undef = u := by simp [e3]
      rw [hu]
      exact hle.drep (kOk_spec (k := 1) envOf_okfok (List.all_eq_true.1 hall c0 (List.mem_of_getElem? e1)) (e5.rep envOf_okfok)))
    exact .d this
  refine ⟨γ, h1.defers, h1.size, fun r => ?_, h1.sites, h1.inj, h1.base, h1.below, h1.top, h1.kept⟩
  show Rep (envOf C γ (s.setOwn k (g + 1) none) w) (bif Nat.beq r t then _ else s.reg r) _
  by_cases hrt : r = t
  · subst hrt; simpa using hd
  · rw [nbeq_ne hrt]; exact h1.regs r

/-- A nil cell, as an empty list of its own. -/
theorem Ghost.nilcell {k gk k0 g0 i j : Nat} {oc : Option Cont} {c0 : Cont} {row : List PV} (T : TypeId) (sz kd : Nat) (hk : Nat.beq k0 k = false) (ho : s.own k = (gk, oc)) (h0 : s.own k0 = (g0, some c0)) (hkind : c0.kind = 2) (hrow : c0.rows[i]? = some row) (hj : row[j]? = some .nil) (hz0 : Nat.blt 0 c0.sz = true) :
    Ghost s ((s.setOwn k (gk + 1) (some ⟨T, sz, [], kd⟩)).setOwn k0 g0 (some ⟨c0.ty, c0.sz, c0.rows.set i (row.set j (.als k (gk + 1) 0 0)), 2⟩)) := by
  intro C a w hX ⟨γ, h⟩
  have hne : k0 ≠ k := fun e => by subst e; simp at hk
  have ht : Turn C γ s w w k none := ⟨rfl, rfl, rfl, Nat.le_refl _, fun b _ => .inl rfl, fun b hb => by cases hb⟩
  have h1 := ht.sim h (c := ⟨T, sz, [], kd⟩) (.none_ rfl)
  have hfin : s.fin k ⟨T, sz, [], kd⟩ = s.setOwn k (gk + 1) (some ⟨T, sz, [], kd⟩) := by rw [St.fin, ho]
  rw [hfin] at h1
  have ho1 : (s.setOwn k (gk + 1) (some ⟨T, sz, [], kd⟩)).own k0 = (g0, some c0) := by rw [setOwn_ne hne]; exact h0
  have hz0 : 0 < c0.sz := by simpa using hz0
  refine ⟨_, h1.recell ho1 rfl rfl hz0 (by simp) (fun r hr => ?_) fun i' j' row1 pv1 e1 e2 => ?_⟩
  · rcases List.mem_or_eq_of_mem_set hr with hr | rfl
    · exact (h.sites k0 c0 (by rw [h0])).rowlen hz0 r hr
    · simpa using (h.sites k0 c0 (by rw [h0])).rowlen hz0 row (List.mem_of_getElem? hrow)
  · by_cases hi : i' = i
    · subst hi
      have hlt := (List.getElem?_eq_some_iff.1 hrow).1
      rw [List.getElem?_set_self hlt] at e1
      have e1 := Option.some.inj e1
      subst e1
      by_cases hjj : j' = j
      · subst hjj
        have hlt2 := (List.getElem?_eq_some_iff.1 hj).1
        rw [List.getElem?_set_self hlt2] at e2
        have e2 := Option.some.inj e2
        subst e2
        refine ⟨row, .nil, hrow, hj, fun v hv => ?_⟩
        rw [hkind] at hv
        have hv : Rep _ PV.nil v := hv
        rw [hv.nil_inv]
        refine Rep.als ?_ fun _ l hl => ?_
        · show _ ≤ ((s.setOwn k (gk + 1) (some ⟨T, sz, [], kd⟩)).own k).1
          rw [setOwn_same]; exact Nat.le_refl _
        · simp only [envOf, setOwn_same, upg_same, Option.map_some, Option.some.injEq] at hl
          subst hl
          exact .inl ⟨rfl, rfl, rfl, rfl⟩
      · rw [List.getElem?_set_ne (Ne.symm hjj)] at e2
        exact ⟨row, pv1, hrow, e2, fun v hv => by rw [hkind] at hv; exact hv⟩
    · rw [List.getElem?_set_ne (Ne.symm hi)] at e1
      exact ⟨row1, pv1, e1, e2, fun v hv => by rw [hkind] at hv; exact hv⟩

/-- A list in a cell, given up: data from now on. -/
theorem Ghost.freeze {k gk k0 g0 i j n : Nat} {c c0 : Cont} {row : List PV} (hk : Nat.beq k0 k = false) (ho : s.own k = (gk, some c)) (hc : c.kind = 0) (h0 : s.own k0 = (g0, some c0)) (hkind : c0.kind = 2) (hrow : c0.rows[i]? = some row) (hj : row[j]? = some (.als k gk 0 n)) (hz0 : Nat.blt 0 c0.sz = true) (hn : n = c.rows.length) :
    Ghost s ((s.setOwn k (gk + 1) none).setOwn k0 g0 (some ⟨c0.ty, c0.sz, c0.rows.set i (row.set j (.fsl c.rows)), 2⟩)) := by
  intro C a w hX ⟨γ, h⟩
  subst hn
  have hne : k0 ≠ k := fun e => by subst e; simp at hk
  obtain ⟨h1, hle, hfr⟩ := h.drop hX ho
  have ho1 : (s.setOwn k (gk + 1) none).own k0 = (g0, some c0) := by rw [setOwn_ne hne]; exact h0
  have hsite := h.sites k0 c0 (by rw [h0])
  have hlt := (List.getElem?_eq_some_iff.1 hrow).1
  have hlt2 := (List.getElem?_eq_some_iff.1 hj).1
  have he := envOf_recell (C := C) (γ := γ) (w := w) (c1 := ⟨c0.ty, c0.sz, c0.rows.set i (row.set j (.fsl c.rows)), 2⟩) ho1 rfl rfl (by simp)
  have hother : ∀ k', k' ≠ k0 → ((s.setOwn k (gk + 1) none).setOwn k0 g0 (some ⟨c0.ty, c0.sz, c0.rows.set i (row.set j (.fsl c.rows)), 2⟩)).own k' = (s.setOwn k (gk + 1) none).own k' := fun k' hk' => setOwn_ne hk'
  have hsome : ∀ k' c', (((s.setOwn k (gk + 1) none).setOwn k0 g0 (some ⟨c0.ty, c0.sz, c0.rows.set i (row.set j (.fsl c.rows)), 2⟩)).own k').2 = some c' → ∃ c'', ((s.setOwn k (gk + 1) none).own k').2 = some c'' := by
    intro k' c' hc'
    by_cases hk' : k' = k0
    · subst hk'; exact ⟨c0, by rw [ho1]⟩
    · rw [hother k' hk'] at hc'; exact ⟨c', hc'⟩
  refine ⟨γ, h1.defers, h1.size, fun r => by rw [he]; exact h1.regs r, fun k' c' hc' => ?_, fun k1 k2 c1 c2 b e1 e2 e3 e4 => ?_, fun k' c' b e1 e2 => ?_, h1.below, h1.top, fun c v hk => by rw [he]; exact h1.kept c v hk⟩
  · rw [he]
    by_cases hk' : k' = k0
    · subst hk'
      rw [setOwn_same] at hc'
      have hc' := Option.some.inj hc'
      subst hc'
      have hz0 : 0 < c0.sz := by simpa using hz0
      refine ⟨fun hb => ?_, (fun b _ hz => by simp only at hz; omega), (fun b _ hz => by simp only at hz; omega), fun b hb _ => ?_⟩
      · have := hsite.emp hb
        rw [this] at hrow; simp at hrow
      · obtain ⟨cur, f1, f2, f3, f4, f5⟩ := hsite.at_ b hb hz0
        refine ⟨cur, f1, f2, by simpa using f3, fun r hr => ?_, fun i' j' row1 pv1 e1 e2 => ?_⟩
        · rcases List.mem_or_eq_of_mem_set hr with hr | rfl
          · exact f4 r hr
          · simpa using f4 row (List.mem_of_getElem? hrow)
        · by_cases hi : i' = i
          · subst hi
            rw [List.getElem?_set_self hlt] at e1
            have e1 := Option.some.inj e1
            subst e1
            by_cases hjj : j' = j
            · subst hjj
              rw [List.getElem?_set_self hlt2] at e2
              have e2 := Option.some.inj e2
              subst e2
              obtain ⟨v, u1, u2, u3⟩ := f5 i' j' row _ hrow hj
              rw [hkind] at u3
              exact ⟨v, u1, u2, Rep.fsl (hfr hc v u3)⟩
            · rw [List.getElem?_set_ne (Ne.symm hjj)] at e2
              obtain ⟨v, u1, u2, u3⟩ := f5 i' j' row pv1 hrow e2
              rw [hkind] at u3
              exact ⟨v, u1, u2, Rep.mono hle u3⟩
          · rw [List.getElem?_set_ne (Ne.symm hi)] at e1
            obtain ⟨v, u1, u2, u3⟩ := f5 i' j' row1 pv1 e1 e2
            rw [hkind] at u3
            exact ⟨v, u1, u2, Rep.mono hle u3⟩
    · rw [hother k' hk'] at hc'
      exact h1.sites k' c' hc'
  · obtain ⟨d, hd⟩ := hsome k1 c1 e1
    obtain ⟨d', hd'⟩ := hsome k2 c2 e2
    exact h1.inj k1 k2 d d' b hd hd' e3 e4
  · obtain ⟨d, hd⟩ := hsome k' c' e1
    exact h1.base k' d b hd e2

/-- Data of the call's own, as they may stand beside lists that are still written. -/
def up0 : PV → PV
  | .sl rows => .fsl rows
  | c => c
theorem up0_spec {E : Env} (hf : ∀ b, E.okf b → E.ok b) {c : PV} {v : Value} (h : DRep E.w E.okf c v) : Rep E (up0 c) v := by
  unfold up0
  split
  · exact .fsl h
  · exact .d (h.weaken hf)
theorem map_at {α β : Type} {f : α → β} {l : List (List α)} {i j : Nat} {row1 : List β} {b : β} (h1 : (l.map (·.map f))[i]? = some row1) (h2 : row1[j]? = some b) : ∃ row0 a, l[i]? = some row0 ∧ row0[j]? = some a ∧ f a = b := by
  rw [List.getElem?_map] at h1
  cases h : l[i]? with
  | none => rw [h] at h1; simp at h1
  | some row0 =>
    rw [h] at h1
    simp at h1
    subst h1
    rw [List.getElem?_map] at h2
    cases h' : row0[j]? with
    | none => rw [h'] at h2; simp at h2
    | some a => rw [h'] at h2; simp at h2; exact ⟨row0, a, rfl, h', h2⟩
theorem Ghost.raise {k0 g0 : Nat} {c0 : Cont} (h0 : s.own k0 = (g0, some c0)) (hk : c0.kind = 0) (hz0 : Nat.blt 0 c0.sz = true) : Ghost s (s.setOwn k0 g0 (some ⟨c0.ty, c0.sz, c0.rows.map (·.map up0), 2⟩)) := by
  intro C a w hX ⟨γ, h⟩
  have hz0 : 0 < c0.sz := by simpa using hz0
  refine ⟨γ, h.recell h0 rfl rfl hz0 (by simp) (fun r hr => ?_) fun i j row1 pv1 e1 e2 => ?_⟩
  · obtain ⟨r0, hr0, rfl⟩ := List.mem_map.1 hr
    simpa using (h.sites k0 c0 (by rw [h0])).rowlen hz0 r0 hr0
  · obtain ⟨row0, pv0, f1, f2, rfl⟩ := map_at e1 e2
    exact ⟨row0, pv0, f1, f2, fun v hv => by rw [hk] at hv; exact up0_spec envOf_okfok hv⟩
theorem Ghost.lower {k0 g0 : Nat} {c0 : Cont} (kd : Nat) (h0 : s.own k0 = (g0, some c0)) (hk : c0.kind = 2) (hz0 : Nat.blt 0 c0.sz = true) (hall : ∀ row ∈ c0.rows, row.all (kOk kd) = true) : Ghost s (s.setOwn k0 g0 (some ⟨c0.ty, c0.sz, c0.rows.map (·.map (nrm kd)), kd⟩)) := by
  intro C a w hX ⟨γ, h⟩
  have hz0 : 0 < c0.sz := by simpa using hz0
  refine ⟨γ, h.recell h0 rfl rfl hz0 (by simp) (fun r hr => ?_) fun i j row1 pv1 e1 e2 => ?_⟩
  · obtain ⟨r0, hr0, rfl⟩ := List.mem_map.1 hr
    simpa using (h.sites k0 c0 (by rw [h0])).rowlen hz0 r0 hr0
  · obtain ⟨row0, pv0, f1, f2, rfl⟩ := map_at e1 e2
    refine ⟨row0, pv0, f1, f2, fun v hv => ?_⟩
    rw [hk] at hv
    exact kOk_spec envOf_okfok (List.all_eq_true.1 (hall row0 (List.mem_of_getElem? f1)) pv0 (List.mem_of_getElem? f2)) hv
end
end Go.Pv

/- Callees that hand back memory of their own, to be written on. -/
namespace Go.Pv
open Go.RowKit

/-- 'v' is a slice over all of a new block. -/
def OwnV (w w' : World) (T : TypeId) (sz : Nat) (rows : List (List PV)) (v : Value) : Prop :=
  (rows = [] ∧ v = .slice none 0 0) ∨
  ∃ (b cap : Nat) (cur : Array Value), w.heap.size ≤ b ∧ v = .slice (some ⟨b, 0, none⟩) rows.length cap ∧ w'.heap[b]? = some (.cells cur T (0, 0)) ∧ rows.length ≤ cap ∧ cap ≤ maxLen ∧ cur.size = cap * sz ∧ 0 < sz ∧ rows.length * sz ≤ cur.size ∧ (∀ row ∈ rows, row.length = sz) ∧
    ∀ (i j : Nat) (row : List PV) (c : PV), rows[i]? = some row → row[j]? = some c → ∃ u, cur[i * sz + j]? = some u ∧ u.oneCell' = true ∧ ∀ (w : World) (ok : Nat → Prop), DRep w ok c u

/-- Called with values that read as 'pargs', the function returns a slice over new memory of its own that reads as 'rows'. -/
def RetO (P : Program) (f : FuncId) (pargs : List PV) (T : TypeId) (sz : Nat) (rows : List (List PV)) : Prop :=
  callable P f ∧ ∀ (w : World) (X : Nat → Prop) (args : List Value), (∀ b, X b → b < w.heap.size) → pargs.length = args.length →
    (∀ (i : Nat) (c : PV) (v : Value), pargs[i]? = some c → args[i]? = some v → DRep w (fun b => b < w.heap.size ∧ ¬ X b) c v) →
    Calls P f args.toArray w (fun e w' => ∃ v, e = .returned v ∧ Below w.heap.size w w' ∧ OwnV w w' T sz rows v)

def PostO (fn : Func) (T : TypeId) (sz : Nat) (rows : List (List PV)) (s : St) : Prop :=
  ∃ t k g m kd, fn.results.toList = [.tmp t] ∧ s.reg t = .als k g 0 m ∧ s.own k = (g, some ⟨T, sz, rows, kd⟩) ∧ m = rows.length ∧ rows.all (·.all PV.flat1) = true
def RetPostO (fn : Func) (T : TypeId) (sz : Nat) (rows : List (List PV)) : Exit → St → Prop
  | .normal, s | .ret, s => PostO fn T sz rows s
  | _, _ => False

theorem flat1_any {E : Env} {k : Nat} {c : PV} {v : Value} (hf : c.flat1 = true) (h : KRep E k c v) (hE : ∀ b, E.okf b → E.ok b) (w : World) (ok : Nat → Prop) : DRep w ok c v := by
  have hr := h.rep hE
  cases c with
  | bool b => rw [hr.bool_inv]; exact .bool _
  | int k n => rw [hr.int_inv]; exact .int _ _
  | str s => rw [hr.str_inv]; exact .str _
  | raw u => rw [hr.raw_inv]; exact .raw _
  | nil => rw [hr.nil_inv]; exact .nil
  | _ => simp [PV.flat1] at hf

section
variable {P : Program} {L : Lay} {s : St}

theorem RetO.of_pwp {f : FuncId} {fn : Func} {body : Code} {pargs : List PV} {T : TypeId} {sz : Nat} {rows : List (List PV)} (hL : LOk P L) (hm : P.follows .mixedOrders = true) (hf : P.funcs[f]? = some fn) (hb : fn.body = some body) (hn : (fn.name == "runtime.NumGoroutine") = false)
    (hlen : Nat.ble pargs.length fn.ntmps = true) (hc : codeOk fn.ntmps body = true) (h : PWP P L body (RetPostO fn T sz rows) (initSt pargs)) : RetO P f pargs T sz rows := by
  refine ⟨⟨fn, hf, hn, by simp [hb]⟩, fun w X args hX hl hargs => ?_⟩
  let C : Ctx := ⟨w.heap.size, X, w, fn.ntmps, fun _ _ => False⟩
  have hG : Good P L C := ⟨hL, hX, hm⟩
  have hle : args.length ≤ fn.ntmps := by rw [← hl]; simpa using hlen
  have hsim : SimE C (initSt pargs) { tmps := args.toArray ++ Array.replicate (fn.ntmps - args.toArray.size) undef, defers := [] } w := by
    refine ⟨fun _ => none, rfl, by simp [C]; omega, fun t => ?_, fun k c hk => by simp [initSt] at hk, fun k k' c c' b hk => by simp [initSt] at hk, fun k c b hk => by simp [initSt] at hk, Below.refl _ _, Nat.le_refl _, fun c v hk => hk.elim⟩
    show Rep _ (pargs.getD t (.raw undef)) _
    rcases Nat.lt_or_ge t args.length with hlt | hge
    · have hlt' : t < pargs.length := by omega
      have e1 : pargs.getD t (.raw undef) = pargs[t] := by simp [hlt']
      have e2 : (args.toArray ++ Array.replicate (fn.ntmps - args.toArray.size) undef).getD t undef = args[t] := by
        rw [Array.getD_eq_getD_getElem?, Array.getElem?_append_left (by simpa using hlt)]
        simp [hlt]
      rw [e1, e2]
      refine .d ((hargs t pargs[t] args[t] (List.getElem?_eq_getElem hlt') (List.getElem?_eq_getElem hlt)).weaken fun b hb => ⟨hb.1, hb.2, fun k c hk => by simp [initSt] at hk⟩)
    · have e1 : pargs.getD t (.raw undef) = .raw undef := by simp [List.getElem?_eq_none (by omega : pargs.length ≤ t)]
      have e2 : (args.toArray ++ Array.replicate (fn.ntmps - args.toArray.size) undef).getD t undef = undef := by
        rw [Array.getD_eq_getD_getElem?, Array.getElem?_append_right (by simpa using hge)]
        rcases Nat.lt_or_ge (t - args.toArray.size) (fn.ntmps - args.toArray.size) with h1 | h1
        · rw [Array.getElem?_replicate, if_pos h1]; rfl
        · rw [Array.getElem?_eq_none (by simpa using h1)]; rfl
      rw [e1, e2]
      exact .d (.raw _)
  refine calls_of_wp hf hb (wp_mono (PWP.sound hG body _ _ _ w hc hsim h) ?_)
  have fin : ∀ {s : St} {a : Act} {w' : World}, SimE C s a w' → PostO fn T sz rows s → a.defers = [] ∧ ∃ v, (results fn a.tmps).run P w' = .ok v w' ∧ ∃ u, Ending.returned v = .returned u ∧ Below w.heap.size w w' ∧ OwnV w w' T sz rows u := by
    rintro s a w' ⟨γ, hs⟩ ⟨t, k, g, m, kd, h1, h2, h3, h4, h5⟩
    refine ⟨hs.defers, a.tmps.getD t undef, ?_, _, rfl, hs.below, ?_⟩
    · unfold results
      rw [← Array.toArray_toList (xs := fn.results), h1]
      simp
    · have hr := hs.regs t
      rw [h2] at hr
      subst h4
      rcases hs.als_at hr h3 with ⟨e1, _, _, e4⟩ | ⟨b, cap, cur, e1, e2, e3, e4, e5, e6, e7⟩
      · exact .inl ⟨(hs.sites k _ (by rw [h3])).emp e1, e4⟩
      · obtain ⟨cur', g1, g2, g3, g4, g5⟩ := hs.site_at h3 e1 (hs.cells_sz h3 e1 e3)
        have hcc : cur' = cur := by
          have e3 : w'.heap[b]? = some (.cells cur T (0, 0)) := e3
          have g1 : w'.heap[b]? = some (.cells cur' T (0, 0)) := g1
          rw [g1] at e3
          simpa using e3
        subst hcc
        refine .inr ⟨b, cap, cur', (hs.base k _ b (by rw [h3]) e1).1, by simpa using e2, e3, e4, e5, by simpa using e6, g2, g3, g4, fun i j row c r1 r2 => ?_⟩
        obtain ⟨u, u1, u2, u3⟩ := g5 i j row c r1 r2
        have hfl : c.flat1 = true := List.all_eq_true.1 (List.all_eq_true.1 h5 row (List.mem_of_getElem? r1)) c (List.mem_of_getElem? r2)
        exact ⟨u, u1, u2, fun w ok => flat1_any hfl u3 envOf_okfok w ok⟩
  rintro e a w' ⟨s, hs, hq⟩
  cases e
  case normal => exact fin hs hq
  case ret => exact fin hs hq
  all_goals exact hq.elim

/-- The end of such a function. -/
theorem endO {fn : Func} {T : TypeId} {sz : Nat} {rows rows' : List (List PV)} {t k g m kd : Nat} (h : fn.results.toList = [.tmp t]) (hv : s.reg t = .als k g 0 m) (ho : s.own k = (g, some ⟨T, sz, rows, kd⟩)) (hm : m = rows.length) (hf : rows.all (·.all PV.flat1) = true) (hr : rows = rows') : RetPostO fn T sz rows' .ret s := by
  subst hr
  exact ⟨t, k, g, m, kd, h, hv, ho, hm, hf⟩

theorem sm_callO {d : Nat} {ty : TypeId} {pos : String} {af : Array Edge} {fop : Operand} {args : Array Operand} {tys : Array TypeId} {f : FuncId} {caps pargs : List PV} {Cd : Prop} {b : Fl} {T : TypeId} {sz gn : Nat} {oc : Option Cont} {rows : List (List PV)} {K : St → Prop}
    (hf : s.ev fop = .clo f caps) (hret : RetO P f pargs T sz rows) (hres : resL (res s 4) (args.toList.map s.ev ++ caps) = some (pargs, Cd, b)) (hc : Cd) (hown : s.own d = (gn, oc))
    (h : K ((s.setOwn d (gn + 1) (some ⟨T, sz, rows, 0⟩)).putR d (.als d (gn + 1) 0 rows.length))) : Sm P L s ⟨some d, .call ⟨.value fop, args, tys⟩, ty, pos, af, none⟩ K := by
  intro C a w Q hG hs hN
  obtain ⟨γ, hs⟩ := hs
  have hfv := hs.ev fop
  rw [hf] at hfv
  obtain ⟨vs, hv, hl, hd⟩ := hfv.clo_inv
  have hspec := resL_spec (S := Rep (envOf C γ s w)) (R := fun b => DRep w (okArg C γ s w b)) (fun b1 b2 c v => ⟨fun hd => hd.weaken fun k => okArg_and.1, fun hd => hd.weaken fun k => okArg_and.2⟩) (fun c d Cd b v e1 e2 e3 => res_spec hG.x hs 4 c d Cd b v e1 e2 e3) _ _ _ _ (args.toList.map a.eval ++ vs) hres hc
    (by simp [hl]) (fun i c v e1 e2 => by
      rw [List.getElem?_append] at e1 e2
      simp only [List.length_map] at e1 e2
      split at e1
      · rename_i hlt
        rw [if_pos hlt] at e2
        rw [List.getElem?_map] at e1 e2
        cases hx : args.toList[i]? with
        | none => rw [hx] at e1; simp at e1
        | some x => rw [hx] at e1 e2; simp at e1 e2; subst e1; subst e2; exact hs.ev x
      · rename_i hlt
        rw [if_neg hlt] at e2
        exact hd _ c v e1 e2)
  unfold Oper.wp
  rw [run_call (f := f) rfl hv hret.1, Oper.upon_enter]
  refine (hret.2 w (fun k => k < w.heap.size ∧ ¬ okArg C γ s w b k) _ (fun _ hb => hb.1) hspec.1 (fun i c v e1 e2 => (hspec.2 i c v e1 e2).weaken fun k hk => ⟨hk.1, fun hn => hn.2 hk⟩)).mono ?_
  rintro e w' ⟨v, rfl, hbel, hov⟩
  have main : ∀ (blk : Option Nat), (∀ b, blk = some b → b < w'.heap.size ∧ w.heap.size ≤ b) → SiteOk (envOf C (upg γ d blk) (s.fin d ⟨T, sz, rows, 0⟩) w') blk ⟨T, sz, rows, 0⟩ → AlsAt w' ⟨blk, T, sz, rows.length⟩ 0 rows.length v → ∃ s', SimE C s' (a.put (some d) v) w' ∧ K s' := by
    intro blk hblk hsite hals
    have ht : Turn C γ s w w' d blk := ⟨hbel.os, hbel.tape, hbel.output, hbel.size, fun b hb => .inl (hbel.block b hb), fun b hb => ⟨(hblk b hb).1, .inl (hblk b hb).2⟩⟩
    have hsim := ht.sim hs hsite
    have hfin : s.fin d ⟨T, sz, rows, 0⟩ = s.setOwn d (gn + 1) (some ⟨T, sz, rows, 0⟩) := by rw [St.fin, hown]
    rw [hfin] at hsim
    refine ⟨_, ⟨_, hsim.put (d := some d) hN (.als ?_ fun _ l hl => ?_)⟩, h⟩
    · show _ ≤ ((s.setOwn d (gn + 1) (some ⟨T, sz, rows, 0⟩)).own d).1
      rw [setOwn_same]; exact Nat.le_refl _
    · simp only [envOf, setOwn_same, upg_same, Option.map_some, Option.some.injEq] at hl
      subst hl
      exact hals
  rcases hov with ⟨rfl, rfl⟩ | ⟨b, cap, cur, h1, rfl, h3, h4, h5, h6, h7, h8, h9, h10⟩
  · exact main none (fun b hb => by cases hb) (.none_ rfl) (.inl ⟨rfl, rfl, rfl, rfl⟩)
  · have hb : b < w'.heap.size := (Array.getElem?_eq_some_iff.1 h3).1
    refine main (some b) (fun b' hb' => by simp at hb'; subst hb'; exact ⟨hb, h1⟩) ⟨(fun e => by cases e), (fun b' _ hz => by simp only at hz; omega), (fun b' _ hz => by simp only at hz; omega), fun b' hb' _ => ?_⟩ (.inr ⟨b, cap, cur, rfl, by simp, h3, h4, h5, by simpa using h6, by simp⟩)
    simp at hb'; subst hb'
    refine ⟨cur, h3, h7, h8, h9, fun i j row pv e1 e2 => ?_⟩
    obtain ⟨u, u1, u2, u3⟩ := h10 i j row pv e1 e2
    exact ⟨u, u1, u2, u3 _ _⟩
end
end Go.Pv

/- One rule for each kind of goal: the next plain step, found by computing. -/
namespace Go.Pv
open Go.RowKit

/-- Whether the guard lets the operation run, where that is known. -/
def gB (ops : Array Oper) (s : St) : Option (Nat × Bool) → Option Bool
  | none => some true
  | some (j, want) => match (ops[j]?).bind (·.dst) with
    | some e => match s.reg e with
      | .bool b => match b, want with
        | true, true => some true
        | false, false => some true
        | true, false => some false
        | false, true => some false
      | .raw u => match u with
        | .tuple a => match a with
          | ⟨[]⟩ => some false
          | _ => none
        | _ => none
      | _ => none
    | none => none

/-- A plain operation: the state behind it, and its condition. -/
def sOp (L : Lay) (s : St) : Option Nat → Op → Option (St × Prop)
  | some d, .box T x => match (s.ev x).fz, s.own d with
    | some v, (gn, _) => match oneL s v.cells with
      | some Pr => some ((s.setOwn d (gn + 1) (some ⟨T, v.cells.length, [v.cells], 2⟩)).putR d (.ptr d (gn + 1) 0 0), Nat.blt 0 v.cells.length = true ∧ Pr)
      | none => none
    | none, _ => none
  | some d, .alloc T => match L T with
    | some r => match r.zero, s.own d with
      | some z, (gn, _) => some ((s.setOwn d (gn + 1) (some ⟨T, z.length, [z], 2⟩)).putR d (.ptr d (gn + 1) 0 0), Nat.blt 0 z.length = true)
      | none, _ => none
    | none => none
  | none, .store T x y => match L T with
    | some r => match s.ev x with
      | .ptr k gn i jj => match i with
        | 0 => match s.own k with
          | (gn', some ⟨tc, sz, rows, kd⟩) => match rows, kd with
            | [row], 2 => match (s.ev y).fz with
              | some v => match oneL s v.cells with
                | some Pr => some (s.setOwn k gn (some ⟨tc, sz, [splc row jj v.cells], 2⟩), gn' = gn ∧ v.cells.length = r.size ∧ Nat.ble (jj + r.size) row.length = true ∧ Pr)
                | none => none
              | none => none
            | _, _ => none
          | (_, none) => none
        | _ => none
      | _ => none
    | none => none
  | some d, op => match qv L s op with
    | some (pv, Cd) => some (s.putR d pv, Cd)
    | none => none
  | none, _ => none

section
variable {P : Program} {L : Lay} {s s' : St} {ops : Array Oper} {K : St → Prop} {Q : Exit → St → Prop} {rest : List Oper}

theorem gB_yes {o : Oper} (h : gB ops s o.guard = some true) : Wants ops s o true := by
  cases hg : o.guard with
  | none => exact .none hg
  | some p =>
    obtain ⟨j, want⟩ := p
    rw [hg] at h
    simp only [gB] at h
    split at h
    · rename_i e hd
      split at h
      · rename_i b hr
        cases b <;> cases want <;> simp at h
        · exact .yes hg hd hr
        · exact .yes hg hd hr
      · split at h
        · split at h <;> cases h
        · cases h
      · cases h
    · cases h
theorem gB_no {o : Oper} (h : gB ops s o.guard = some false) : Wants ops s o false := by
  cases hg : o.guard with
  | none => rw [hg] at h; cases h
  | some p =>
    obtain ⟨j, want⟩ := p
    rw [hg] at h
    simp only [gB] at h
    split at h
    · rename_i e hd
      split at h
      · rename_i b hr
        cases b <;> cases want <;> simp at h
        · exact .no hg hd hr (by simp)
        · exact .no hg hd hr (by simp)
      · rename_i hr
        split at h
        · split at h
          · exact .junk hg hd hr
          · cases h
        · cases h
      · cases h
    · cases h
theorem sOp_ok {d : Option Nat} {op : Op} {Cd : Prop} {ty : TypeId} {pos : String} {af : Array Edge} {g : Option (Nat × Bool)} (h : sOp L s d op = some (s', Cd)) (hc : Cd) (hk : K s') : POp P L s ⟨d, op, ty, pos, af, g⟩ K := by
  unfold sOp at h
  split at h
  · split at h
    · rename_i hx hown
      split at h
      · rename_i h1
        cases h
        exact o_box hx hown h1 hc.2 hc.1 hk
      · cases h
    · cases h
  · split at h
    · rename_i hr
      split at h
      · rename_i hz hown
        cases h
        exact o_alloc hr hz hown hc hk
      · cases h
    · cases h
  · split at h
    · rename_i r hr
      split at h
      · rename_i hx
        split at h
        · split at h
          · rename_i hown
            split at h
            · split at h
              · rename_i hv
                split at h
                · rename_i h1
                  cases h
                  obtain ⟨c1, c2, c3, c4⟩ := hc
                  subst c1
                  exact o_store1 hr hx hown hv h1 c4 c2 c3 rfl hk
                · cases h
              · cases h
            · cases h
          · cases h
        · cases h
      · cases h
    · cases h
  · split at h
    · rename_i hq
      cases h
      exact op_v hq hc hk
    · cases h
  · cases h

/-- The next of a list of operations. -/
def stS (P : Program) (L : Lay) (ops : Array Oper) (K : St → Prop) : List Oper → St → Option (Prop × Prop)
  | [], s => some (True, K s)
  | o :: rest, s => match o with
    | ⟨d, op, _, _, _, g⟩ => match gB ops s g with
      | some true => match sOp L s d op with
        | some (s', Cd) => some (Cd, POps P L ops K rest s')
        | none => none
      | some false => some (True, POps P L ops K rest (s.put d (.raw undef)))
      | none => none
theorem zs {l : List Oper} {Cd A : Prop} (h : stS P L ops K l s = some (Cd, A)) (hc : Cd) (k : A) : POps P L ops K l s := by
  cases l with
  | nil => cases h; exact k
  | cons o rest =>
    obtain ⟨d, op, ty, pos, af, g⟩ := o
    unfold stS at h
    dsimp only at h
    split at h
    · rename_i hg
      split at h
      · rename_i hs
        cases h
        exact .inl ⟨gB_yes hg, sOp_ok hs hc k⟩
      · cases h
    · rename_i hg
      cases h
      exact .inr ⟨gB_no hg, k⟩
    · cases h
/-- The next of the operations ahead of the tail of a drawn order. -/
def stQ (P : Program) (L : Lay) (ops : Array Oper) (K : St → Prop) : List Oper → St → Option (Prop × Prop)
  | [], s => some (True, K s)
  | o :: rest, s => match o with
    | ⟨d, op, _, _, _, g⟩ => match gB ops s g with
      | some true => match d with
        | some d => match qv L s op with
          | some (pv, Cd) => some (Cd, PQuiet P L ops K rest (s.putR d pv))
          | none => none
        | none => none
      | some false => some (True, PQuiet P L ops K rest (s.put d (.raw undef)))
      | none => none
theorem zq {l : List Oper} {Cd A : Prop} (h : stQ P L ops K l s = some (Cd, A)) (hc : Cd) (k : A) : PQuiet P L ops K l s := by
  cases l with
  | nil => cases h; exact k
  | cons o rest =>
    obtain ⟨d, op, ty, pos, af, g⟩ := o
    unfold stQ at h
    dsimp only at h
    split at h
    · rename_i hg
      split at h
      · split at h
        · rename_i hs
          cases h
          exact .inl ⟨gB_yes hg, _, .v hs hc, k⟩
        · cases h
      · cases h
    · rename_i hg
      cases h
      exact .inr ⟨gB_no hg, k⟩
    · cases h
/-- The next of code. -/
def stW (P : Program) (L : Lay) : Code → (Exit → St → Prop) → St → Option Prop
  | .skip, Q, s => some (Q .normal s)
  | .region _ ops false, Q, s => match ops with | ⟨l⟩ => some (POps P L ops (Q .normal) l s)
  | .seq x y, Q, s => some (PWP P L x (XThen (fun s' => PWP P L y Q s') Q) s)
  | .cond c x y, Q, s => match s.ev c with
    | .bool b => match b with
      | true => some (PWP P L x Q s)
      | false => some (PWP P L y Q s)
    | _ => none
  | .block id c, Q, s => some (PWP P L c (XBlock id Q) s)
  | .exit id, Q, s => some (Q (.exit id) s)
  | .ret, Q, s => some (Q .ret s)
  | _, _, _ => none
theorem zw {c : Code} {A : Prop} (h : stW P L c Q s = some A) (k : A) : PWP P L c Q s := by
  unfold stW at h
  split at h
  · cases h; exact pw_skip k
  · cases h; exact pw_region k
  · cases h; exact k
  · split at h
    · rename_i hc
      split at h
      · cases h; exact pw_true hc k
      · cases h; exact pw_false hc k
    · cases h
  · cases h; exact k
  · cases h; exact pw_exit k
  · cases h; exact pw_ret k
  · cases h
def stX (next : St → Prop) (Q : Exit → St → Prop) : Exit → St → Option Prop
  | .normal, s => some (next s)
  | .ret, s => some (Q .ret s)
  | .exit id, s => some (Q (.exit id) s)
  | _, _ => none
theorem zx {next : St → Prop} {e : Exit} {A : Prop} (h : stX next Q e s = some A) (k : A) : XThen next Q e s := by
  unfold stX at h
  split at h <;> cases h <;> exact k
def stB (id : Nat) (Q : Exit → St → Prop) : Exit → St → Option Prop
  | .normal, s => some (Q .normal s)
  | .ret, s => some (Q .ret s)
  | .exit id', s => match Nat.beq id' id with
    | true => some (Q .normal s)
    | false => some (Q (.exit id') s)
  | _, _ => none
theorem zb {id : Nat} {e : Exit} {A : Prop} (h : stB id Q e s = some A) (k : A) : XBlock id Q e s := by
  unfold stB at h
  split at h
  · cases h; exact k
  · cases h; exact k
  · split at h
    · rename_i he
      cases h
      have := Nat.eq_of_beq_eq_true he
      subst this
      exact xb_here k
    · rename_i he
      cases h
      exact xb_away he k
  · cases h
theorem zsq {d : Nat} {op : Op} {ty : TypeId} {pos : String} {af : Array Edge} {g : Option (Nat × Bool)} {pv : PV} (hg : gB ops s g = some true) (hq : QOp P L s ⟨some d, op, ty, pos, af, g⟩ pv) (k : POps P L ops K rest (s.putR d pv)) : POps P L ops K (⟨some d, op, ty, pos, af, g⟩ :: rest) s :=
  .inl ⟨gB_yes hg, op_q hq k⟩
theorem zqq {d : Nat} {op : Op} {ty : TypeId} {pos : String} {af : Array Edge} {g : Option (Nat × Bool)} {pv : PV} (hg : gB ops s g = some true) (hq : QOp P L s ⟨some d, op, ty, pos, af, g⟩ pv) (k : PQuiet P L ops K rest (s.putR d pv)) : PQuiet P L ops K (⟨some d, op, ty, pos, af, g⟩ :: rest) s :=
  .inl ⟨gB_yes hg, _, hq, k⟩
/-! ### Regions in a drawn order: steps in the order of the text -/
def isNx : Op → Bool
  | .next _ _ => true
  | _ => false
/-- The next of a drawn region. -/
def st3 (P : Program) (L : Lay) (ops : Array Oper) (Z : List Nat) (cls : Nat → Bool) (K : St → Prop) (i : Nat) : List Oper → St → Option (Prop × Prop)
  | [], s => some (True, K s)
  | o :: rest, s => match o with
    | ⟨d, op, _, _, _, g⟩ => match gB ops s g with
      | some true => match d with
        | some d => match cls i with
          | true => match qv L s op with
            | some (pv, Cd) => some (Cd, P3 P L ops Z cls K (i + 1) rest (s.putR d pv))
            | none => none
          | false => match qv L (s.erase Z) op with
            | some (pv, Cd) => some (Cd, P3 P L ops Z cls K (i + 1) rest (s.putR d pv))
            | none => none
        | none => none
      | some false => some (True, P3 P L ops Z cls K (i + 1) rest (s.put d (.raw undef)))
      | none => none
theorem z3 {Z : List Nat} {cls : Nat → Bool} {i : Nat} {l : List Oper} {Cd A : Prop} (h : st3 P L ops Z cls K i l s = some (Cd, A)) (hc : Cd) (k : A) : P3 P L ops Z cls K i l s := by
  cases l with
  | nil => cases h; exact k
  | cons o rest =>
    obtain ⟨d, op, ty, pos, af, g⟩ := o
    unfold st3 at h
    dsimp only at h
    split at h
    · rename_i hg
      split at h
      · rename_i dd
        split at h
        · rename_i hcl
          split at h
          · rename_i hs
            cases h
            refine ⟨_, ?_, k⟩
            rw [hcl]
            exact Step3.quiet (o := ⟨some dd, op, ty, pos, af, g⟩) (gB_yes hg) (.v hs hc)
          · cases h
        · rename_i hcl
          split at h
          · rename_i hs
            cases h
            refine ⟨_, ?_, k⟩
            rw [hcl]
            exact Step3.free (o := ⟨some dd, op, ty, pos, af, g⟩) (gB_yes hg) (.v hs hc)
          · cases h
      · cases h
    · rename_i hg
      cases h
      exact ⟨_, .no (gB_no hg), k⟩
    · cases h
theorem z3q {Z : List Nat} {cls : Nat → Bool} {i d : Nat} {op : Op} {ty : TypeId} {pos : String} {af : Array Edge} {g : Option (Nat × Bool)} {pv : PV} (hg : gB ops s g = some true) (hc : cls i = false) (hq : QOp P L (s.erase Z) ⟨some d, op, ty, pos, af, g⟩ pv)
    (k : P3 P L ops Z cls K (i + 1) rest (s.putR d pv)) : P3 P L ops Z cls K i (⟨some d, op, ty, pos, af, g⟩ :: rest) s := by
  refine ⟨_, ?_, k⟩
  rw [hc]
  exact Step3.free (o := ⟨some d, op, ty, pos, af, g⟩) (gB_yes hg) hq
theorem z3c {Z : List Nat} {cls : Nat → Bool} {i d : Nat} {op : Op} {ty : TypeId} {pos : String} {af : Array Edge} {g : Option (Nat × Bool)} {pv : PV} (hg : gB ops s g = some true) (hc : cls i = true) (hq : QOp P L s ⟨some d, op, ty, pos, af, g⟩ pv)
    (k : P3 P L ops Z cls K (i + 1) rest (s.putR d pv)) : P3 P L ops Z cls K i (⟨some d, op, ty, pos, af, g⟩ :: rest) s := by
  refine ⟨_, ?_, k⟩
  rw [hc]
  exact Step3.quiet (o := ⟨some d, op, ty, pos, af, g⟩) (gB_yes hg) hq
/-- What writes. -/
theorem z3e {Z : List Nat} {cls : Nat → Bool} {i : Nat} {d : Option Nat} {op : Op} {ty : TypeId} {pos : String} {af : Array Edge} {g : Option (Nat × Bool)} (hg : gB ops s g = some true) (hc : cls i = true) (hn : isNx op = false)
    (h : POp P L s ⟨d, op, ty, pos, af, g⟩ (fun s' => (∀ k, zin Z k = false → s'.own k = s.own k) ∧ P3 P L ops Z cls K (i + 1) rest s')) : P3 P L ops Z cls K i (⟨d, op, ty, pos, af, g⟩ :: rest) s := by
  rcases h with ⟨pv, h1, h2⟩ | ⟨s', h1, h2⟩ | h1
  · refine ⟨_, ?_, h2.2⟩
    rw [hc]
    exact Step3.quiet (o := ⟨d, op, ty, pos, af, g⟩) (gB_yes hg) h1
  · refine ⟨_, ?_, h2.2⟩
    rw [hc]
    exact Step3.eff (o := ⟨d, op, ty, pos, af, g⟩) (gB_yes hg) h1 h2.1
  · exfalso
    cases h1 with
    | next ho =>
      simp only at ho
      rw [ho] at hn
      cases hn
theorem offz {Z : List Nat} {k g d : Nat} {c : Option Cont} {v : PV} (hz : zin Z k = true) : ∀ q, zin Z q = false → ((s.setOwn k g c).putR d v).own q = s.own q := fun q hq => by
  have hne : q ≠ k := fun e => by rw [e, hz] at hq; cases hq
  show (bif Nat.beq q k then _ else s.own q) = _
  rw [nbeq_ne hne]; rfl
theorem offz0 {Z : List Nat} {k g : Nat} {c : Option Cont} (hz : zin Z k = true) : ∀ q, zin Z q = false → (s.setOwn k g c).own q = s.own q := fun q hq => by
  have hne : q ≠ k := fun e => by rw [e, hz] at hq; cases hq
  show (bif Nat.beq q k then _ else s.own q) = _
  rw [nbeq_ne hne]; rfl
/-- A box, a variable, a store: what 'sOp' reckons, at a site that may be written. -/
def touch (s : St) : Option Nat → Op → Option Nat
  | some d, .box _ _ => some d
  | some d, .alloc _ => some d
  | none, .store _ x _ => match s.ev x with | .ptr k _ _ _ => some k | _ => none
  | _, _ => none
def st3e (P : Program) (L : Lay) (ops : Array Oper) (Z : List Nat) (cls : Nat → Bool) (K : St → Prop) (i : Nat) : List Oper → St → Option (Prop × Prop)
  | [], _ => none
  | o :: rest, s => match o with
    | ⟨d, op, _, _, _, g⟩ => match gB ops s g, cls i, touch s d op, isNx op with
      | some true, true, some t, false => match zin Z t, sOp L s d op with
        | true, some (s', Cd) => some (Cd, P3 P L ops Z cls K (i + 1) rest s')
        | _, _ => none
      | _, _, _, _ => none
theorem touch_off {d : Option Nat} {op : Op} {t : Nat} {Cd : Prop} (ht : touch s d op = some t) (h : sOp L s d op = some (s', Cd)) : ∀ q, q ≠ t → s'.own q = s.own q := by
  intro q hq
  have one : ∀ (g : Nat) (c : Option Cont), (s.setOwn t g c).own q = s.own q := fun g c => by
    show (bif Nat.beq q t then _ else s.own q) = _
    rw [nbeq_ne hq]; rfl
  unfold touch at ht
  split at ht
  · cases ht
    unfold sOp at h
    dsimp only at h
    split at h
    · split at h
      · cases h; exact one _ _
      · cases h
    · cases h
  · cases ht
    unfold sOp at h
    dsimp only at h
    split at h
    · split at h
      · cases h; exact one _ _
      · cases h
    · cases h
  · split at ht
    · rename_i hx
      cases ht
      unfold sOp at h
      dsimp only at h
      split at h
      · rw [hx] at h
        dsimp only at h
        split at h
        · split at h
          · split at h
            · split at h
              · split at h
                · cases h; exact one _ _
                · cases h
              · cases h
            · cases h
          · cases h
        · cases h
      · cases h
    · cases ht
  · cases ht
theorem z3s {Z : List Nat} {cls : Nat → Bool} {i : Nat} {l : List Oper} {Cd A : Prop} (h : st3e P L ops Z cls K i l s = some (Cd, A)) (hc : Cd) (k : A) : P3 P L ops Z cls K i l s := by
  cases l with
  | nil => cases h
  | cons o rest =>
    obtain ⟨d, op, ty, pos, af, g⟩ := o
    unfold st3e at h
    dsimp only at h
    split at h
    · rename_i hg hcl ht hn
      split at h
      · rename_i hz hs
        cases h
        exact z3e hg hcl hn (sOp_ok hs hc ⟨fun q hq => touch_off ht hs q (fun e => by rw [e, hz] at hq; cases hq), k⟩)
      · cases h
    · cases h
theorem p3_split {Z : List Nat} {cls : Nat → Bool} {i d e j : Nat} {op : Op} {ty : TypeId} {pos : String} {af : Array Edge} {want b : Bool} (_hd : (ops[j]?).bind (·.dst) = some e) (hr : s.reg e = .bool b)
    (h1 : b = true → P3 P L ops Z cls K i (⟨some d, op, ty, pos, af, some (j, want)⟩ :: rest) (s.putR e (.bool true))) (h0 : b = false → P3 P L ops Z cls K i (⟨some d, op, ty, pos, af, some (j, want)⟩ :: rest) (s.putR e (.bool false))) :
    P3 P L ops Z cls K i (⟨some d, op, ty, pos, af, some (j, want)⟩ :: rest) s := by
  have := putR_same hr
  cases b
  · rw [← this]; exact h0 rfl
  · rw [← this]; exact h1 rfl

/-! ### One step for all kinds of goals -/
class Nx (G : Prop) where
  nx : Option (Prop × Prop)
  ok : ∀ Cd A, nx = some (Cd, A) → Cd → A → G
theorem stp {G : Prop} [i : Nx G] {Cd A : Prop} (h : i.nx = some (Cd, A)) (hc : Cd) (k : A) : G := i.ok Cd A h hc k
instance {l : List Oper} : Nx (POps P L ops K l s) := ⟨stS P L ops K l s, fun _ _ h hc k => zs h hc k⟩
instance {l : List Oper} : Nx (PQuiet P L ops K l s) := ⟨stQ P L ops K l s, fun _ _ h hc k => zq h hc k⟩
def or3 (a b : Option (Prop × Prop)) : Option (Prop × Prop) := match a with
  | some x => some x
  | none => b
instance {Z : List Nat} {cls : Nat → Bool} {i : Nat} {l : List Oper} : Nx (P3 P L ops Z cls K i l s) := ⟨or3 (st3 P L ops Z cls K i l s) (st3e P L ops Z cls K i l s), fun _ _ h hc k => by
  unfold or3 at h
  split at h
  · cases h; exact z3 ‹_› hc k
  · exact z3s h hc k⟩
def tr1 : Option Prop → Option (Prop × Prop)
  | some A => some (True, A)
  | none => none
theorem tr1_spec {a : Option Prop} {Cd A : Prop} (h : tr1 a = some (Cd, A)) : a = some A := by
  unfold tr1 at h
  split at h
  · cases h; rfl
  · cases h
instance {c : Code} : Nx (PWP P L c Q s) := ⟨tr1 (stW P L c Q s), fun _ _ h _ k => zw (tr1_spec h) k⟩
instance {next : St → Prop} {e : Exit} : Nx (XThen next Q e s) := ⟨tr1 (stX next Q e s), fun _ _ h _ k => zx (tr1_spec h) k⟩
instance {id : Nat} {e : Exit} : Nx (XBlock id Q e s) := ⟨tr1 (stB id Q e s), fun _ _ h _ k => zb (tr1_spec h) k⟩
def fd1 (b : Bool) (A : Prop) : Option (Prop × Prop) := match b with
  | true => some (True, A)
  | false => none
instance {nm : Nat} {F : List Nat} {G : Prop} : Nx (FD ops nm F s = true ∧ G) := ⟨fd1 (FD ops nm F s) G, fun _ _ h _ k => by
  unfold fd1 at h
  split at h
  · cases h; exact ⟨‹_›, k⟩
  · cases h⟩
/-- A quiet operation, in any kind of list. -/
class Qx (G : Prop) (P : outParam Program) (L : outParam Lay) (s : outParam St) (ops : outParam (Array Oper)) (l : outParam (List Oper)) (K : outParam (List Oper → Nat → PV → Prop)) where
  ok : ∀ (d : Nat) (op : Op) (ty : TypeId) (pos : String) (af : Array Edge) (g : Option (Nat × Bool)) (rest : List Oper) (pv : PV), l = ⟨some d, op, ty, pos, af, g⟩ :: rest → gB ops s g = some true → QOp P L s ⟨some d, op, ty, pos, af, g⟩ pv → K rest d pv → G
instance {l : List Oper} : Qx (POps P L ops K l s) P L s ops l (fun rest d pv => POps P L ops K rest (s.putR d pv)) :=
  ⟨fun _ _ _ _ _ _ _ _ hl hg hq k => by subst hl; exact zsq hg hq k⟩
instance {l : List Oper} : Qx (PQuiet P L ops K l s) P L s ops l (fun rest d pv => PQuiet P L ops K rest (s.putR d pv)) :=
  ⟨fun _ _ _ _ _ _ _ _ hl hg hq k => by subst hl; exact zqq hg hq k⟩
def St.era (Z : List Nat) (c : Bool) (s : St) : St := match c with
  | true => s
  | false => s.erase Z
theorem gB_era {Z : List Nat} {c : Bool} {g : Option (Nat × Bool)} : gB ops (s.era Z c) g = gB ops s g := by cases c <;> rfl
instance {Z : List Nat} {cls : Nat → Bool} {i : Nat} {l : List Oper} : Qx (P3 P L ops Z cls K i l s) P L (s.era Z (cls i)) ops l (fun rest d pv => P3 P L ops Z cls K (i + 1) rest (s.putR d pv)) :=
  ⟨fun _ _ _ _ _ _ _ _ hl hg hq k => by
    subst hl
    rw [gB_era] at hg
    cases hc : cls i with
    | true => rw [hc] at hq; exact z3c hg hc hq k
    | false => rw [hc] at hq; exact z3q hg hc hq k⟩
theorem qst {G : Prop} {P : Program} {L : Lay} {s : St} {ops : Array Oper} {l : List Oper} {K : List Oper → Nat → PV → Prop} [i : Qx G P L s ops l K] {d : Nat} {op : Op} {ty : TypeId} {pos : String} {af : Array Edge} {g : Option (Nat × Bool)} {rest : List Oper} {pv : PV}
    (hl : l = ⟨some d, op, ty, pos, af, g⟩ :: rest) (hb : gB ops s g = some true) (hq : QOp P L s ⟨some d, op, ty, pos, af, g⟩ pv) (k : K rest d pv) : G := i.ok d op ty pos af g rest pv hl hb hq k
end
end Go.Pv

/- The data of the chapter, and functions that search lists. -/
set_option maxHeartbeats 2000000
namespace Go.Pv
attribute [local irreducible] PWP POps PQuiet PSem XThen XBlock RetPost InlPost
open Go.Proofs

abbrev Str := List UInt8
structure SMode where
  days : Int
  crew : Int
  deriving DecidableEq
structure SItem where
  name : Str
  trade : Str
  modes : List SMode
  space : Str
  kind : Int
  crane : Bool
  after : List Str
  deriving DecidableEq
structure STrade where
  name : Str
  crew : Int
  rate : Int
structure SSpace where
  name : Str
  enclosed : Bool
  next : List Str
structure SExcl where
  a : Int
  b : Int
  reach : Int
structure SOut where
  frm : Int
  to : Int
structure SWork where
  items : List SItem
  trades : List STrade
  spaces : List SSpace
  excls : List SExcl
  outs : List SOut
  hire : Int
  due : Int
  late : Int
  last : Int
structure SSlot where
  item : Str
  mode : Int
  day : Int
abbrev I (n : Int) : PV := .int .i64 n
def eS (s : Str) : List PV := [.str s]
def eI (n : Int) : List PV := [I n]
def eMode (m : SMode) : List PV := [I m.days, I m.crew]
def eItem (x : SItem) : List PV := [.str x.name, .str x.trade, .sl (x.modes.map eMode), .str x.space, I x.kind, .bool x.crane, .sl (x.after.map eS)]
def eTrade (x : STrade) : List PV := [.str x.name, I x.crew, I x.rate]
def eSpace (x : SSpace) : List PV := [.str x.name, .bool x.enclosed, .sl (x.next.map eS)]
def eExcl (x : SExcl) : List PV := [I x.a, I x.b, I x.reach]
def eOut (x : SOut) : List PV := [I x.frm, I x.to]
def eSlot (x : SSlot) : List PV := [.str x.item, I x.mode, I x.day]
def eWork (w : SWork) : List PV := [.sl (w.items.map eItem), .sl (w.trades.map eTrade), .sl (w.spaces.map eSpace), .sl (w.excls.map eExcl), .sl (w.outs.map eOut), I w.hire, I w.due, I w.late, I w.last]

/-- Where the first one stands for which this holds, or -1. -/
def idx {α : Type} (l : List α) (p : α → Bool) : Int := match l.findIdx? p with | some i => i | none => -1

theorem idx_found {α : Type} {l : List α} {p : α → Bool} {i : Nat} {a : α} (h : l[i]? = some a) (hp : p a = true) (hn : ∀ j b, j < i → l[j]? = some b → p b = false) : idx l p = i := by
  have : l.findIdx? p = some i := by
    rw [List.findIdx?_eq_some_iff_getElem]
    obtain ⟨hi, he⟩ := List.getElem?_eq_some_iff.1 h
    refine ⟨hi, by rw [he]; exact hp, fun j hj => ?_⟩
    have := hn j l[j] hj (List.getElem?_eq_getElem _)
    simp [this]
  simp [idx, this]
theorem idx_none {α : Type} {l : List α} {p : α → Bool} (hn : ∀ (j : Nat) b, l[j]? = some b → p b = false) : idx l p = -1 := by
  have : l.findIdx? p = none := by
    rw [List.findIdx?_eq_none_iff]
    intro x hx
    obtain ⟨j, hj, rfl⟩ := List.getElem_of_mem hx
    exact hn j _ (List.getElem?_eq_getElem hj)
  simp [idx, this]

/-- What is known of the first ones: for none does it hold. -/
def Clear {α : Type} (l : List α) (p : α → Bool) (k : Nat) : Prop := k ≤ l.length ∧ ∀ j b, j < k → l[j]? = some b → p b = false
theorem Clear.zero {α : Type} {l : List α} {p : α → Bool} : Clear l p 0 := ⟨Nat.zero_le _, fun j b h => by omega⟩
theorem Clear.succ {α : Type} {l : List α} {p : α → Bool} {k : Nat} {x : α} (h : Clear l p k) (hx : l[k]? = some x) (hp : p x = false) : Clear l p (k + 1) := by
  have := (List.getElem?_eq_some_iff.1 hx).1
  refine ⟨this, fun j b hj hb => ?_⟩
  rcases Nat.lt_or_ge j k with hlt | hge
  · exact h.2 j b hlt hb
  · have : j = k := by omega
    subst this; rw [hx] at hb; cases hb; exact hp
theorem Clear.found {α : Type} {l : List α} {p : α → Bool} {k : Nat} {x : α} (h : Clear l p k) (hx : l[k]? = some x) (hp : p x = true) : idx l p = k := idx_found hx hp h.2
theorem Clear.all {α : Type} {l : List α} {p : α → Bool} {k : Nat} (h : Clear l p k) (hk : ¬ k < l.length) : ∀ (j : Nat) b, l[j]? = some b → p b = false :=
  fun j b hb => h.2 j b (by have := (List.getElem?_eq_some_iff.1 hb).1; have := h.1; omega) hb
theorem Clear.none {α : Type} {l : List α} {p : α → Bool} {k : Nat} (h : Clear l p k) (hk : ¬ k < l.length) : idx l p = -1 := idx_none (h.all hk)
theorem Clear.any {α : Type} {l : List α} {p : α → Bool} {k : Nat} (h : Clear l p k) (hk : ¬ k < l.length) : l.any p = false := by
  rw [List.any_eq_false]
  intro x hx
  obtain ⟨j, hj, rfl⟩ := List.getElem_of_mem hx
  simp [h.all hk j _ (List.getElem?_eq_getElem hj)]
theorem any_of {α : Type} {l : List α} {p : α → Bool} {k : Nat} {x : α} (hx : l[k]? = some x) (hp : p x = true) : l.any p = true :=
  List.any_eq_true.2 ⟨x, List.mem_of_getElem? hx, hp⟩

theorem itemOf_ret (w : SWork) (n : Str) (hw : w.items.length ≤ 1000000) : Ret Tryz.prog .shared 38 [.agg (eWork w), .str n] (I (idx w.items (·.name == n))) := by
  refine Ret.of_pwp layOk mixed Go.Proofs.Tryz.func38 rfl (by decide) rfl rfl ?_
  repeat (refine stp rfl ?_ ?_;·repeat' constructor)
  refine pw_loop (Clear w.items (·.name == n)) (fun k => [(1, .str n), (2, .ptr 2 1 0 0), (5, I k)]) (fun _ => [(2, 1, ⟨28, 9, [eWork w], 2⟩)]) (fun k => w.items.length - k) 0 .zero ⟨rfl, rfl, rfl, rfl, trivial⟩ ?_
  intro k s hk
  repeat (refine stp rfl ?_ ?_;·repeat' constructor)
  refine pw_cond rfl (fun h => ?_) (fun h => ?_)
  · have hlt : k < w.items.length := by simpa using h
    obtain ⟨x, hx⟩ := get_lt hlt
    repeat (refine stp rfl ?_ ?_;·repeat' constructor)
    apply qst;exact rfl;exact rfl;exact q_idxm rfl rfl rfl rfl rfl (by omega) hx rfl
    repeat (refine stp rfl ?_ ?_;·repeat' constructor)
    refine pw_cond rfl (fun h => ?_) (fun h => ?_)
    · repeat (refine stp rfl ?_ ?_;·repeat' constructor)
      exact end1i rfl rfl (by rw [hk.found hx (by simpa using h)])
    · repeat (refine stp rfl ?_ ?_;·repeat' constructor)
      refine ⟨k + 1, hk.succ hx (by simpa using h), by omega, rfl, rfl, ?_, rfl, trivial⟩
      exact i64_next (by omega) (by omega)
  · repeat (refine stp rfl ?_ ?_;·repeat' constructor)
    exact end1i rfl rfl (by rw [hk.none (by simpa using h)])
end Go.Pv

/- Functions that search lists, look at limits, at names and at lengths. -/
set_option maxHeartbeats 2000000
namespace Go.Pv
attribute [local irreducible] PWP POps PQuiet PSem XThen XBlock RetPost InlPost
open Go.Proofs

theorem idx_nonneg {α : Type} (l : List α) (p : α → Bool) : decide (0 ≤ idx l p) = l.any p := by
  unfold idx
  cases h : l.findIdx? p with
  | none =>
    rw [List.findIdx?_eq_none_iff] at h
    have : l.any p = false := by rw [List.any_eq_false]; intro x hx; simp [h x hx]
    simp [this]
  | some i =>
    rw [List.findIdx?_eq_some_iff_getElem] at h
    obtain ⟨hi, h1, _⟩ := h
    have : l.any p = true := List.any_eq_true.2 ⟨l[i], by simp, h1⟩
    simp [this]
theorem idx_neg {α : Type} (l : List α) (p : α → Bool) : decide (idx l p < 0) = !l.any p := by
  rw [← idx_nonneg]
  by_cases h : 0 ≤ idx l p <;> simp [h] <;> omega
theorem idx_lt {α : Type} {l : List α} {p : α → Bool} (h : 0 ≤ idx l p) : ∃ x, l[(idx l p).toNat]? = some x ∧ p x = true := by
  unfold idx at *
  cases hf : l.findIdx? p with
  | none => rw [hf] at h; simp at h
  | some i =>
    rw [List.findIdx?_eq_some_iff_getElem] at hf
    obtain ⟨hi, h1, _⟩ := hf
    exact ⟨l[i], by simp [hi], h1⟩

theorem tradeOf_ret (w : SWork) (n : Str) (hw : w.trades.length ≤ 1000000) : Ret Tryz.prog .shared 16 [.agg (eWork w), .str n] (I (idx w.trades (·.name == n))) := by
  refine Ret.of_pwp layOk mixed Go.Proofs.Tryz.func16 rfl (by decide) rfl rfl ?_
  repeat (refine stp rfl ?_ ?_;·repeat' constructor)
  refine pw_loop (Clear w.trades (·.name == n)) (fun k => [(1, .str n), (2, .ptr 2 1 0 0), (5, I k)]) (fun _ => [(2, 1, ⟨28, 9, [eWork w], 2⟩)]) (fun k => w.trades.length - k) 0 .zero ⟨rfl, rfl, rfl, rfl, trivial⟩ ?_
  intro k s hk
  repeat (refine stp rfl ?_ ?_;·repeat' constructor)
  refine pw_cond rfl (fun h => ?_) (fun h => ?_)
  · have hlt : k < w.trades.length := by simpa using h
    obtain ⟨x, hx⟩ := get_lt hlt
    repeat (refine stp rfl ?_ ?_;·repeat' constructor)
    apply qst;exact rfl;exact rfl;exact q_idxm rfl rfl rfl rfl rfl (by omega) hx rfl
    repeat (refine stp rfl ?_ ?_;·repeat' constructor)
    refine pw_cond rfl (fun h => ?_) (fun h => ?_)
    · repeat (refine stp rfl ?_ ?_;·repeat' constructor)
      exact end1i rfl rfl (by rw [hk.found hx (by simpa using h)])
    · repeat (refine stp rfl ?_ ?_;·repeat' constructor)
      refine ⟨k + 1, hk.succ hx (by simpa using h), by omega, rfl, rfl, ?_, rfl, trivial⟩
      exact i64_next (by omega) (by omega)
  · repeat (refine stp rfl ?_ ?_;·repeat' constructor)
    exact end1i rfl rfl (by rw [hk.none (by simpa using h)])
theorem spaceOf_ret (w : SWork) (n : Str) (hw : w.spaces.length ≤ 1000000) : Ret Tryz.prog .shared 66 [.agg (eWork w), .str n] (I (idx w.spaces (·.name == n))) := by
  refine Ret.of_pwp layOk mixed Go.Proofs.Tryz.func66 rfl (by decide) rfl rfl ?_
  repeat (refine stp rfl ?_ ?_;·repeat' constructor)
  refine pw_loop (Clear w.spaces (·.name == n)) (fun k => [(1, .str n), (2, .ptr 2 1 0 0), (5, I k)]) (fun _ => [(2, 1, ⟨28, 9, [eWork w], 2⟩)]) (fun k => w.spaces.length - k) 0 .zero ⟨rfl, rfl, rfl, rfl, trivial⟩ ?_
  intro k s hk
  repeat (refine stp rfl ?_ ?_;·repeat' constructor)
  refine pw_cond rfl (fun h => ?_) (fun h => ?_)
  · have hlt : k < w.spaces.length := by simpa using h
    obtain ⟨x, hx⟩ := get_lt hlt
    repeat (refine stp rfl ?_ ?_;·repeat' constructor)
    apply qst;exact rfl;exact rfl;exact q_idxm rfl rfl rfl rfl rfl (by omega) hx rfl
    repeat (refine stp rfl ?_ ?_;·repeat' constructor)
    refine pw_cond rfl (fun h => ?_) (fun h => ?_)
    · repeat (refine stp rfl ?_ ?_;·repeat' constructor)
      exact end1i rfl rfl (by rw [hk.found hx (by simpa using h)])
    · repeat (refine stp rfl ?_ ?_;·repeat' constructor)
      refine ⟨k + 1, hk.succ hx (by simpa using h), by omega, rfl, rfl, ?_, rfl, trivial⟩
      exact i64_next (by omega) (by omega)
  · repeat (refine stp rfl ?_ ?_;·repeat' constructor)
    exact end1i rfl rfl (by rw [hk.none (by simpa using h)])
theorem among_ret (l : List Str) (n : Str) (hw : l.length ≤ 1000000) : Ret Tryz.prog .shared 55 [.sl (l.map eS), .str n] (.bool (l.any (· == n))) := by
  refine Ret.of_pwp layOk mixed Go.Proofs.Tryz.func55 rfl (by decide) rfl rfl ?_
  repeat (refine stp rfl ?_ ?_;·repeat' constructor)
  refine pw_loop (Clear l (· == n)) (fun k => [(0, .sl (l.map eS)), (1, .str n), (5, I k)]) (fun _ => []) (fun k => l.length - k) 0 .zero ⟨rfl, rfl, rfl, trivial⟩ ?_
  intro k s hk
  repeat (refine stp rfl ?_ ?_;·repeat' constructor)
  refine pw_cond rfl (fun h => ?_) (fun h => ?_)
  · have hlt : k < l.length := by simpa using h
    obtain ⟨x, hx⟩ := get_lt hlt
    repeat (refine stp rfl ?_ ?_;·repeat' constructor)
    apply qst;exact rfl;exact rfl;exact q_idxm rfl rfl rfl rfl rfl (by omega) hx rfl
    repeat (refine stp rfl ?_ ?_;·repeat' constructor)
    refine pw_cond rfl (fun h => ?_) (fun h => ?_)
    · repeat (refine stp rfl ?_ ?_;·repeat' constructor)
      exact end1b rfl rfl (by rw [any_of hx (by simpa using h)])
    · repeat (refine stp rfl ?_ ?_;·repeat' constructor)
      refine ⟨k + 1, hk.succ hx (by simpa using h), by omega, rfl, rfl, ?_, trivial⟩
      exact i64_next (by omega) (by omega)
  · repeat (refine stp rfl ?_ ?_;·repeat' constructor)
    exact end1b rfl rfl (by rw [hk.any (by simpa using h)])
theorem index_ret (l : List Str) (n : Str) (hw : l.length ≤ 1000000) : Ret Tryz.prog .shared 49 [.sl (l.map eS), .str n] (I (idx l (· == n))) := by
  refine Ret.of_pwp layOk mixed Go.Proofs.Tryz.func49 rfl (by decide) rfl rfl ?_
  repeat (refine stp rfl ?_ ?_;·repeat' constructor)
  refine pw_loop (Clear l (· == n)) (fun k => [(0, .sl (l.map eS)), (1, .str n), (7, I l.length), (8, I k)]) (fun _ => []) (fun k => l.length - k) 0 .zero ⟨rfl, rfl, ?_, rfl, trivial⟩ ?_
  · show I ((l.map eS).length) = _
    simp
  intro k s hk
  repeat (refine stp rfl ?_ ?_;·repeat' constructor)
  refine pw_cond rfl (fun h => ?_) (fun h => ?_)
  · have hlt : k < l.length := by simpa using h
    obtain ⟨x, hx⟩ := get_lt hlt
    repeat (refine stp rfl ?_ ?_;·repeat' constructor)
    apply qst;exact rfl;exact rfl;exact q_idxm rfl rfl rfl rfl rfl (by omega) hx rfl
    repeat (refine stp rfl ?_ ?_;·repeat' constructor)
    refine pw_cond rfl (fun h => ?_) (fun h => ?_)
    · repeat (refine stp rfl ?_ ?_;·repeat' constructor)
      exact end1i rfl rfl (by rw [hk.found hx (by have := of_decide_eq_true h; simp [this])])
    · repeat (refine stp rfl ?_ ?_;·repeat' constructor)
      refine ⟨k + 1, hk.succ hx (by have := of_decide_eq_false h; simp; exact fun e => this e.symm), by omega, rfl, rfl, rfl, ?_, trivial⟩
      exact i64_next (by omega) (by omega)
  · repeat (refine stp rfl ?_ ?_;·repeat' constructor)
    exact end1i rfl rfl (by rw [hk.none (by simpa using h)])
theorem contains_ret (l : List Str) (n : Str) (hw : l.length ≤ 1000000) : Ret Tryz.prog .shared 32 [.sl (l.map eS), .str n] (.bool (l.any (· == n))) := by
  refine Ret.of_pwp layOk mixed Go.Proofs.Tryz.func32 rfl (by decide) rfl rfl ?_
  repeat (refine stp rfl ?_ ?_;·repeat' constructor)
  apply qst;exact rfl;exact rfl;exact q_callP rfl (index_ret l n hw) rfl (by repeat' constructor) rfl rfl
  repeat (refine stp rfl ?_ ?_;·repeat' constructor)
  exact end1b rfl rfl (by rw [idx_nonneg])
def inside (n a b : Int) : Bool := decide (a ≤ n) && decide (n ≤ b)
theorem inside_ret (n a b : Int) : Ret Tryz.prog .shared 40 [I n, I a, I b] (.bool (inside n a b)) := by
  refine Ret.of_pwp layOk mixed Go.Proofs.Tryz.func40 rfl (by decide) rfl rfl ?_
  repeat (refine stp rfl ?_ ?_;·repeat' constructor)
  (first | refine ps_split rfl rfl (fun h => ?_) (fun h => ?_) | refine pq_split rfl rfl (fun h => ?_) (fun h => ?_) | refine p3_split rfl rfl (fun h => ?_) (fun h => ?_))
  · repeat (refine stp rfl ?_ ?_;·repeat' constructor)
    exact end1b rfl rfl (by simp [inside, of_decide_eq_true h])
  · repeat (refine stp rfl ?_ ?_;·repeat' constructor)
    exact end1b rfl rfl (by simp [inside, h])
theorem within_ret (n b : Int) : Ret Tryz.prog .shared 63 [I n, I b] (.bool (inside n 0 b)) := by
  refine Ret.of_pwp layOk mixed Go.Proofs.Tryz.func63 rfl (by decide) rfl rfl ?_
  repeat (refine stp rfl ?_ ?_;·repeat' constructor)
  (first | refine ps_split rfl rfl (fun h => ?_) (fun h => ?_) | refine pq_split rfl rfl (fun h => ?_) (fun h => ?_) | refine p3_split rfl rfl (fun h => ?_) (fun h => ?_))
  · repeat (refine stp rfl ?_ ?_;·repeat' constructor)
    exact end1b rfl rfl (by simp [inside, of_decide_eq_true h])
  · repeat (refine stp rfl ?_ ?_;·repeat' constructor)
    exact end1b rfl rfl (by simp [inside, h])
theorem texts_ret (l : List Str) (hw : l.length ≤ 1000000) : Ret Tryz.prog .shared 19 [.sl (l.map eS)] (.bool (!l.any fun s => decide (40 < s.length))) := by
  refine Ret.of_pwp layOk mixed Go.Proofs.Tryz.func19 rfl (by decide) rfl rfl ?_
  repeat (refine stp rfl ?_ ?_;·repeat' constructor)
  refine pw_loop (Clear l fun s => decide (40 < s.length)) (fun k => [(0, .sl (l.map eS)), (3, I k)]) (fun _ => []) (fun k => l.length - k) 0 .zero ⟨rfl, rfl, trivial⟩ ?_
  intro k s hk
  repeat (refine stp rfl ?_ ?_;·repeat' constructor)
  refine pw_cond rfl (fun h => ?_) (fun h => ?_)
  · have hlt : k < l.length := by simpa using h
    obtain ⟨x, hx⟩ := get_lt hlt
    repeat (refine stp rfl ?_ ?_;·repeat' constructor)
    apply qst;exact rfl;exact rfl;exact q_idxm rfl rfl rfl rfl rfl (by omega) hx rfl
    repeat (refine stp rfl ?_ ?_;·repeat' constructor)
    refine pw_cond rfl (fun h => ?_) (fun h => ?_)
    · repeat (refine stp rfl ?_ ?_;·repeat' constructor)
      exact end1b rfl rfl (by rw [any_of hx (by have := of_decide_eq_true h; simp; omega)]; rfl)
    · repeat (refine stp rfl ?_ ?_;·repeat' constructor)
      refine ⟨k + 1, hk.succ hx (by have := of_decide_eq_false h; simp; omega), by omega, rfl, ?_, trivial⟩
      exact i64_next (by omega) (by omega)
  · repeat (refine stp rfl ?_ ?_;·repeat' constructor)
    exact end1b rfl rfl (by rw [hk.any (by simpa using h)]; rfl)
theorem few_ret (l : List SSlot) : Ret Tryz.prog .shared 7 [.sl (l.map eSlot)] (.bool (decide (l.length ≤ 50) && !l.any fun s => decide (40 < s.item.length))) := by
  refine Ret.of_pwp layOk mixed Go.Proofs.Tryz.func7 rfl (by decide) rfl rfl ?_
  repeat (refine stp rfl ?_ ?_;·repeat' constructor)
  refine pw_loop (Clear l fun s => decide (40 < s.item.length)) (fun k => [(0, .sl (l.map eSlot)), (3, I k)]) (fun _ => []) (fun k => l.length - k) 0 .zero ⟨rfl, rfl, trivial⟩ ?_
  intro k s hk
  repeat (refine stp rfl ?_ ?_;·repeat' constructor)
  (first | refine ps_split rfl rfl (fun h => ?_) (fun h => ?_) | refine pq_split rfl rfl (fun h => ?_) (fun h => ?_) | refine p3_split rfl rfl (fun h => ?_) (fun h => ?_))
  · have hlt : k < l.length := by simpa using h
    obtain ⟨x, hx⟩ := get_lt hlt
    repeat (refine stp rfl ?_ ?_;·repeat' constructor)
    refine pw_cond rfl (fun h => ?_) (fun h => ?_)
    · have hle : l.length ≤ 50 := by have := of_decide_eq_true h; simp at this; omega
      repeat (refine stp rfl ?_ ?_;·repeat' constructor)
      apply qst;exact rfl;exact rfl;exact q_idxm rfl rfl rfl rfl rfl (by omega) hx rfl
      repeat (refine stp rfl ?_ ?_;·repeat' constructor)
      refine pw_cond rfl (fun h => ?_) (fun h => ?_)
      · repeat (refine stp rfl ?_ ?_;·repeat' constructor)
        exact end1b rfl rfl (by rw [any_of hx (by have := of_decide_eq_true h; simp; omega)]; simp)
      · repeat (refine stp rfl ?_ ?_;·repeat' constructor)
        refine ⟨k + 1, hk.succ hx (by have := of_decide_eq_false h; simp; omega), by omega, rfl, ?_, trivial⟩
        exact i64_next (by omega) (by omega)
    · repeat (refine stp rfl ?_ ?_;·repeat' constructor)
      have hgt : ¬ l.length ≤ 50 := by have := of_decide_eq_false h; simp at this; omega
      exact end1b rfl rfl (by simp [hgt]; omega)
  · repeat (refine stp rfl ?_ ?_;·repeat' constructor)
    exact end1b rfl rfl (by rw [hk.any (by simpa using h)]; simp; omega)
end Go.Pv

/- Names. -/
set_option maxHeartbeats 2000000
namespace Go.Pv
attribute [local irreducible] PWP POps PQuiet PSem XThen XBlock RetPost InlPost
open Go.Proofs

/-- The first error along a list, or 0. -/
def fstE {α : Type} : List α → (Nat → α → Int) → Int
  | [], _ => 0
  | a :: l, f => if f 0 a = 0 then fstE l (fun i => f (i + 1)) else f 0 a
theorem fstE_found {α : Type} : ∀ {l : List α} {f : Nat → α → Int} {i : Nat} {a : α}, l[i]? = some a → f i a ≠ 0 → (∀ j b, j < i → l[j]? = some b → f j b = 0) → fstE l f = f i a
  | [], f, i, a, h, _, _ => by simp at h
  | b :: l, f, 0, a, h, he, _ => by
    simp at h; subst h
    simp [fstE, he]
  | b :: l, f, i + 1, a, h, he, hn => by
    have h0 := hn 0 b (by omega) rfl
    rw [fstE, if_pos h0]
    exact fstE_found (f := fun i => f (i + 1)) (by simpa using h) he fun j c hj hc => hn (j + 1) c (by omega) (by simpa using hc)
theorem fstE_none {α : Type} : ∀ {l : List α} {f : Nat → α → Int}, (∀ (j : Nat) b, l[j]? = some b → f j b = 0) → fstE l f = 0
  | [], f, _ => rfl
  | b :: l, f, hn => by
    rw [fstE, if_pos (hn 0 b rfl)]
    exact fstE_none fun j c hc => hn (j + 1) c (by simpa using hc)
/-- Equal if the functions are equal at the first place at which the first is not 0, and before it. -/
theorem fstE_congr {α : Type} : ∀ {l : List α} {f g : Nat → α → Int}, (∀ (j : Nat) b, l[j]? = some b → (∀ i c, i < j → l[i]? = some c → f i c = 0) → f j b = g j b) → fstE l f = fstE l g
  | [], f, g, _ => rfl
  | b :: l, f, g, h => by
    have h0 := h 0 b rfl (fun i c hi => by omega)
    rw [fstE, fstE, h0]
    split
    · rename_i hz
      refine fstE_congr fun j c hc hn => h (j + 1) c (by simpa using hc) fun i d hi hd => ?_
      cases i with
      | zero => simp at hd; subst hd; rw [h0]; exact hz
      | succ i => exact hn i d (by omega) (by simpa using hd)
    · rfl
theorem fstE_zero {α : Type} : ∀ {l : List α} {f : Nat → α → Int}, fstE l f = 0 → ∀ (j : Nat) b, l[j]? = some b → f j b = 0
  | [], f, _, j, b, h => by simp at h
  | a :: l, f, h, j, b, hb => by
    rw [fstE] at h
    split at h
    · rename_i hz
      cases j with
      | zero => simp at hb; subst hb; exact hz
      | succ j => exact fstE_zero h j b (by simpa using hb)
    · contradiction
def ClearE {α : Type} (l : List α) (f : Nat → α → Int) (k : Nat) : Prop := k ≤ l.length ∧ ∀ j b, j < k → l[j]? = some b → f j b = 0
theorem ClearE.zero' {α : Type} {l : List α} {p : Nat → α → Int} : ClearE l p 0 := ⟨Nat.zero_le _, fun j b h => by omega⟩
theorem ClearE.succ {α : Type} {l : List α} {p : Nat → α → Int} {k : Nat} {x : α} (h : ClearE l p k) (hx : l[k]? = some x) (hp : p k x = 0) : ClearE l p (k + 1) := by
  have := (List.getElem?_eq_some_iff.1 hx).1
  refine ⟨this, fun j b hj hb => ?_⟩
  rcases Nat.lt_or_ge j k with hlt | hge
  · exact h.2 j b hlt hb
  · have : j = k := by omega
    subst this; rw [hx] at hb; cases hb; exact hp
theorem ClearE.found {α : Type} {l : List α} {p : Nat → α → Int} {k : Nat} {x : α} {e : Int} (h : ClearE l p k) (hx : l[k]? = some x) (hp : p k x = e) (he : e ≠ 0) : fstE l p = e := by
  subst hp; exact fstE_found hx he h.2
theorem ClearE.none {α : Type} {l : List α} {p : Nat → α → Int} {k : Nat} (h : ClearE l p k) (hk : ¬ k < l.length) : fstE l p = 0 :=
  fstE_none fun j b hb => h.2 j b (by have := (List.getElem?_eq_some_iff.1 hb).1; have := h.1; omega) hb

theorem take_snoc {α : Type} {l : List α} {k : Nat} {x : α} (hx : l[k]? = some x) : l.take (k + 1) = l.take k ++ [x] := by
  rw [List.take_add_one, hx]; rfl

/-! ### Names -/
def letter (c : UInt8) : Bool := (decide (97 ≤ (c.toNat : Int)) && decide ((c.toNat : Int) ≤ 122)) || (decide (65 ≤ (c.toNat : Int)) && decide ((c.toNat : Int) ≤ 90))
def badc (i : Nat) (c : UInt8) : Bool := !letter c && (decide ((i : Int) = 0) || (!decide ((c.toNat : Int) = 45) && (decide ((c.toNat : Int) < 48) || decide (57 < (c.toNat : Int)))))
def badE (i : Nat) (c : UInt8) : Int := if badc i c then 1 else 0
def isName (s : Str) : Bool := decide (1 ≤ s.length) && decide (s.length ≤ 12) && decide (fstE s badE = 0)

theorem isName_ret (l : Str) : Ret Tryz.prog .shared 92 [.str l] (.bool (isName l)) := by
  refine Ret.of_pwp layOk mixed Go.Proofs.Tryz.func92 rfl (by decide) rfl rfl ?_
  repeat' (first|(refine stp rfl ?_ ?_;·repeat' constructor)|refine ps_split rfl rfl (fun h => ?_) (fun h => ?_)|refine pq_split rfl rfl (fun h => ?_) (fun h => ?_)|refine p3_split rfl rfl (fun h => ?_) (fun h => ?_))
  · have := of_decide_eq_true h
    exact end1b rfl rfl (by simp [isName]; omega)
  have h1 := of_decide_eq_false h
  refine pw_cond rfl (fun h => ?_) (fun h => ?_)
  · have := of_decide_eq_true h
    repeat (refine stp rfl ?_ ?_;·repeat' constructor)
    exact end1b rfl rfl (by simp [isName]; omega)
  have h2 := of_decide_eq_false h
  repeat (refine stp rfl ?_ ?_;·repeat' constructor)
  refine pw_loop (ClearE l badE) (fun k => [(0, .str l), (15, I l.length), (16, I k)]) (fun _ => []) (fun k => l.length - k) 0 .zero' ⟨rfl, rfl, rfl, trivial⟩ ?_
  intro k s hk
  repeat (refine stp rfl ?_ ?_;·repeat' constructor)
  refine pw_cond rfl (fun h => ?_) (fun h => ?_)
  · have hlt : k < l.length := by simpa using h
    obtain ⟨x, hx⟩ := get_lt hlt
    have hget : l.getD k 0 = x := by rw [List.getD_eq_getElem?_getD, hx]; rfl
    repeat (refine stp rfl ?_ ?_;·repeat' constructor)
    refine ps_v rfl ⟨by omega, by omega⟩ ?_
    have hn : ((l.getD (Int.toNat (k : Int)) 0).toNat : Int) = x.toNat := by rw [Int.toNat_natCast, hget]
    rw [hn]
    have hkb : k < 12 := by omega
    clear h hn h1 h2
    refine ps_v rfl trivial ?_
    ((repeat (first | refine ps_nil ?_ | refine pq_nil ?_ | refine x_norm ?_ | refine pw_seq ?_)); refine pw_region ?_)
    refine ps_cut 100 [(0, .str l), (3, I k), (4, .int .u8 x.toNat), (5, .bool (letter x)), (15, I l.length), (16, I k)] [] ?_ ?_
    · repeat' (first|(refine stp rfl ?_ ?_;·repeat' constructor)|refine ps_split rfl rfl (fun h => ?_) (fun h => ?_)|refine pq_split rfl rfl (fun h => ?_) (fun h => ?_)|refine p3_split rfl rfl (fun h => ?_) (fun h => ?_))
      all_goals exact ⟨rfl, rfl, rfl, (congrArg PV.bool (by simp_all [letter] <;> omega)), rfl, rfl, trivial⟩
    intro s
    repeat' (first|(refine stp rfl ?_ ?_;·repeat' constructor)|refine ps_split rfl rfl (fun h => ?_) (fun h => ?_)|refine pq_split rfl rfl (fun h => ?_) (fun h => ?_)|refine p3_split rfl rfl (fun h => ?_) (fun h => ?_))
    all_goals try (refine pw_cond rfl (fun hc => ?_) (fun hc => ?_))
    all_goals repeat (refine stp rfl ?_ ?_;·repeat' constructor)
    all_goals first
      | (refine end1b rfl rfl ?_
         have hb : badE k x = 1 := by simp_all [badE, badc] <;> omega
         have := hk.found hx hb (by omega)
         simp [isName, this])
      | (refine ⟨k + 1, hk.succ hx (by simp_all [badE, badc] <;> omega), by omega, rfl, rfl, ?_, trivial⟩
         exact i64_next (by omega) (by omega))
  · repeat (refine stp rfl ?_ ?_;·repeat' constructor)
    exact end1b rfl rfl (by simp only [isName, hk.none (by simpa using h)]; simp; omega)
theorem isName_ref (l : Str) : Ret Tryz.prog .shared 37 [.str l] (.bool (isName l)) := by
  refine Ret.of_pwp layOk mixed Go.Proofs.Tryz.func37 rfl (by decide) rfl rfl ?_
  repeat' (first|(refine stp rfl ?_ ?_;·repeat' constructor)|refine ps_split rfl rfl (fun h => ?_) (fun h => ?_)|refine pq_split rfl rfl (fun h => ?_) (fun h => ?_)|refine p3_split rfl rfl (fun h => ?_) (fun h => ?_))
  · have := of_decide_eq_true h
    exact end1b rfl rfl (by simp [isName]; omega)
  have h1 := of_decide_eq_false h
  refine pw_cond rfl (fun h => ?_) (fun h => ?_)
  · have := of_decide_eq_true h
    repeat (refine stp rfl ?_ ?_;·repeat' constructor)
    exact end1b rfl rfl (by simp [isName]; omega)
  have h2 := of_decide_eq_false h
  repeat (refine stp rfl ?_ ?_;·repeat' constructor)
  refine pw_loop (ClearE l badE) (fun k => [(0, .str l), (3, I k)]) (fun _ => []) (fun k => l.length - k) 0 .zero' ⟨rfl, rfl, trivial⟩ ?_
  intro k s hk
  repeat (refine stp rfl ?_ ?_;·repeat' constructor)
  refine pw_cond rfl (fun h => ?_) (fun h => ?_)
  · have hlt : k < l.length := by simpa using h
    obtain ⟨x, hx⟩ := get_lt hlt
    have hget : l.getD k 0 = x := by rw [List.getD_eq_getElem?_getD, hx]; rfl
    repeat (refine stp rfl ?_ ?_;·repeat' constructor)
    refine ps_v rfl ⟨by omega, by omega⟩ ?_
    have hn : ((l.getD (Int.toNat (k : Int)) 0).toNat : Int) = x.toNat := by rw [Int.toNat_natCast, hget]
    rw [hn]
    have hkb : k < 12 := by omega
    clear h hn h1 h2
    refine ps_v rfl trivial ?_
    ((repeat (first | refine ps_nil ?_ | refine pq_nil ?_ | refine x_norm ?_ | refine pw_seq ?_)); refine pw_region ?_)
    refine ps_cut 100 [(0, .str l), (3, I k), (4, .int .u8 x.toNat), (5, .bool (letter x))] [] ?_ ?_
    · repeat' (first|(refine stp rfl ?_ ?_;·repeat' constructor)|refine ps_split rfl rfl (fun h => ?_) (fun h => ?_)|refine pq_split rfl rfl (fun h => ?_) (fun h => ?_)|refine p3_split rfl rfl (fun h => ?_) (fun h => ?_))
      all_goals exact ⟨rfl, rfl, rfl, (congrArg PV.bool (by simp_all [letter] <;> omega)), trivial⟩
    intro s
    repeat' (first|(refine stp rfl ?_ ?_;·repeat' constructor)|refine ps_split rfl rfl (fun h => ?_) (fun h => ?_)|refine pq_split rfl rfl (fun h => ?_) (fun h => ?_)|refine p3_split rfl rfl (fun h => ?_) (fun h => ?_))
    all_goals try (refine pw_cond rfl (fun hc => ?_) (fun hc => ?_))
    all_goals repeat (refine stp rfl ?_ ?_;·repeat' constructor)
    all_goals first
      | (refine end1b rfl rfl ?_
         have hb : badE k x = 1 := by simp_all [badE, badc] <;> omega
         have := hk.found hx hb (by omega)
         simp [isName, this])
      | (refine ⟨k + 1, hk.succ hx (by simp_all [badE, badc] <;> omega), by omega, rfl, ?_, trivial⟩
         exact i64_next (by omega) (by omega))
  · repeat (refine stp rfl ?_ ?_;·repeat' constructor)
    exact end1b rfl rfl (by simp only [isName, hk.none (by simpa using h)]; simp; omega)
end Go.Pv

/- Lists of names. -/
set_option maxHeartbeats 2000000
namespace Go.Pv
attribute [local irreducible] PWP POps PQuiet PSem XThen XBlock RetPost InlPost
open Go.Proofs

theorem tradeName_ret (x : STrade) : Ret Tryz.prog .shared 65 [.agg (eTrade x)] (.str x.name) := by
  refine Ret.of_pwp layOk mixed Go.Proofs.Tryz.func65 rfl (by decide) rfl rfl ?_
  repeat (refine stp rfl ?_ ?_;·repeat' constructor)
  exact end1 rfl rfl rfl trivial rfl
theorem spaceName_ret (x : SSpace) : Ret Tryz.prog .shared 94 [.agg (eSpace x)] (.str x.name) := by
  refine Ret.of_pwp layOk mixed Go.Proofs.Tryz.func94 rfl (by decide) rfl rfl ?_
  repeat (refine stp rfl ?_ ?_;·repeat' constructor)
  exact end1 rfl rfl rfl trivial rfl
theorem itemName_ret (x : SItem) : Ret Tryz.prog .shared 82 [.agg (eItem x)] (.str x.name) := by
  refine Ret.of_pwp layOk mixed Go.Proofs.Tryz.func82 rfl (by decide) rfl rfl ?_
  repeat (refine stp rfl ?_ ?_;·repeat' constructor)
  exact end1 rfl rfl rfl trivial rfl

theorem namesT_ret (l : List STrade) (hw : l.length ≤ 1000000) : Ret Tryz.prog .shared 64 [.sl (l.map eTrade), .clo 65 []] (.sl ((l.map (·.name)).map eS)) := by
  have hrows : ∀ (k : Nat) x, l[k]? = some x → ((l.take (k + 1)).map (·.name)).map eS = ((l.take k).map (·.name)).map eS ++ [eS x.name] := fun k x hx => by rw [take_snoc hx, List.map_append, List.map_append]; rfl
  refine Ret.of_pwp layOk mixed Go.Proofs.Tryz.func64 rfl (by decide) rfl rfl ?_
  ((repeat (first | refine ps_nil ?_ | refine pq_nil ?_ | refine x_norm ?_ | refine pw_seq ?_)); refine pw_region ?_)
  refine ps_v rfl trivial ?_
  ((repeat (first | refine ps_nil ?_ | refine pq_nil ?_ | refine x_norm ?_ | refine pw_seq ?_)); refine pw_region ?_)
  (first | refine ps_run (o_nilm 9 1 0 rfl rfl ?_) | refine ps_run (o_nila 9 1 0 rfl rfl ?_))
  repeat (refine stp rfl ?_ ?_;·repeat' constructor)
  refine pw_loop (fun k => k ≤ l.length) (fun k => [(1, .clo 65 []), (5, .als 5 (k + 1) 0 (((l.take k).map (·.name)).map eS).length), (8, .sl (l.map eTrade)), (9, I l.length), (10, I k)]) (fun k => [(5, k + 1, ⟨9, 1, ((l.take k).map (·.name)).map eS, 0⟩)]) (fun k => l.length - k) 0 (Nat.zero_le _) ⟨rfl, rfl, rfl, ?_, rfl, rfl, trivial⟩ ?_
  · show I ((l.map eTrade).length) = _
    simp
  intro k s hk
  repeat (refine stp rfl ?_ ?_;·repeat' constructor)
  refine pw_cond rfl (fun h => ?_) (fun h => ?_)
  · have hlt : k < l.length := by simpa using h
    obtain ⟨x, hx⟩ := get_lt hlt
    repeat (refine stp rfl ?_ ?_;·repeat' constructor)
    apply qst;exact rfl;exact rfl;exact q_idxm rfl rfl rfl rfl rfl (by omega) hx rfl
    repeat (refine stp rfl ?_ ?_;·repeat' constructor)
    apply qst;exact rfl;exact rfl;exact q_callP rfl (tradeName_ret x) rfl (by repeat' constructor) rfl rfl
    repeat (refine stp rfl ?_ ?_;·repeat' constructor)
    refine ps_run (o_slit 0 rfl rfl rfl rfl rfl rfl rfl rfl rfl rfl rfl (by repeat' constructor) rfl ?_)
    repeat (refine stp rfl ?_ ?_;·repeat' constructor)
    refine ps_run (o_app 0 rfl rfl rfl rfl rfl rfl rfl rfl rfl rfl rfl (by repeat' constructor) (by intro row hr; first | (simp at hr; subst hr; rfl) | simp at hr) rfl rfl (by simp; omega) (by simp; omega) ?_)
    repeat (refine stp rfl ?_ ?_;·repeat' constructor)
    refine ⟨k + 1, hlt, by omega, rfl, ?_, rfl, rfl, ?_, ?_, trivial⟩
    · rw [hrows k x hx]; rfl
    · exact i64_next (by omega) (by omega)
    · rw [hrows k x hx]; rfl
  · have hge : k = l.length := by have := of_decide_eq_false h; omega
    repeat (refine stp rfl ?_ ?_;·repeat' constructor)
    exact end1 rfl rfl rfl ⟨rfl, rfl, rfl⟩ (by rw [hge, List.take_length])
theorem namesS_ret (l : List SSpace) (hw : l.length ≤ 1000000) : Ret Tryz.prog .shared 93 [.sl (l.map eSpace), .clo 94 []] (.sl ((l.map (·.name)).map eS)) := by
  have hrows : ∀ (k : Nat) x, l[k]? = some x → ((l.take (k + 1)).map (·.name)).map eS = ((l.take k).map (·.name)).map eS ++ [eS x.name] := fun k x hx => by rw [take_snoc hx, List.map_append, List.map_append]; rfl
  refine Ret.of_pwp layOk mixed Go.Proofs.Tryz.func93 rfl (by decide) rfl rfl ?_
  ((repeat (first | refine ps_nil ?_ | refine pq_nil ?_ | refine x_norm ?_ | refine pw_seq ?_)); refine pw_region ?_)
  refine ps_v rfl trivial ?_
  ((repeat (first | refine ps_nil ?_ | refine pq_nil ?_ | refine x_norm ?_ | refine pw_seq ?_)); refine pw_region ?_)
  (first | refine ps_run (o_nilm 9 1 0 rfl rfl ?_) | refine ps_run (o_nila 9 1 0 rfl rfl ?_))
  repeat (refine stp rfl ?_ ?_;·repeat' constructor)
  refine pw_loop (fun k => k ≤ l.length) (fun k => [(1, .clo 94 []), (5, .als 5 (k + 1) 0 (((l.take k).map (·.name)).map eS).length), (8, .sl (l.map eSpace)), (9, I l.length), (10, I k)]) (fun k => [(5, k + 1, ⟨9, 1, ((l.take k).map (·.name)).map eS, 0⟩)]) (fun k => l.length - k) 0 (Nat.zero_le _) ⟨rfl, rfl, rfl, ?_, rfl, rfl, trivial⟩ ?_
  · show I ((l.map eSpace).length) = _
    simp
  intro k s hk
  repeat (refine stp rfl ?_ ?_;·repeat' constructor)
  refine pw_cond rfl (fun h => ?_) (fun h => ?_)
  · have hlt : k < l.length := by simpa using h
    obtain ⟨x, hx⟩ := get_lt hlt
    repeat (refine stp rfl ?_ ?_;·repeat' constructor)
    apply qst;exact rfl;exact rfl;exact q_idxm rfl rfl rfl rfl rfl (by omega) hx rfl
    repeat (refine stp rfl ?_ ?_;·repeat' constructor)
    apply qst;exact rfl;exact rfl;exact q_callP rfl (spaceName_ret x) rfl (by repeat' constructor) rfl rfl
    repeat (refine stp rfl ?_ ?_;·repeat' constructor)
    refine ps_run (o_slit 0 rfl rfl rfl rfl rfl rfl rfl rfl rfl rfl rfl (by repeat' constructor) rfl ?_)
    repeat (refine stp rfl ?_ ?_;·repeat' constructor)
    refine ps_run (o_app 0 rfl rfl rfl rfl rfl rfl rfl rfl rfl rfl rfl (by repeat' constructor) (by intro row hr; first | (simp at hr; subst hr; rfl) | simp at hr) rfl rfl (by simp; omega) (by simp; omega) ?_)
    repeat (refine stp rfl ?_ ?_;·repeat' constructor)
    refine ⟨k + 1, hlt, by omega, rfl, ?_, rfl, rfl, ?_, ?_, trivial⟩
    · rw [hrows k x hx]; rfl
    · exact i64_next (by omega) (by omega)
    · rw [hrows k x hx]; rfl
  · have hge : k = l.length := by have := of_decide_eq_false h; omega
    repeat (refine stp rfl ?_ ?_;·repeat' constructor)
    exact end1 rfl rfl rfl ⟨rfl, rfl, rfl⟩ (by rw [hge, List.take_length])
theorem namesI_ret (l : List SItem) (hw : l.length ≤ 1000000) : Ret Tryz.prog .shared 81 [.sl (l.map eItem), .clo 82 []] (.sl ((l.map (·.name)).map eS)) := by
  have hrows : ∀ (k : Nat) x, l[k]? = some x → ((l.take (k + 1)).map (·.name)).map eS = ((l.take k).map (·.name)).map eS ++ [eS x.name] := fun k x hx => by rw [take_snoc hx, List.map_append, List.map_append]; rfl
  refine Ret.of_pwp layOk mixed Go.Proofs.Tryz.func81 rfl (by decide) rfl rfl ?_
  ((repeat (first | refine ps_nil ?_ | refine pq_nil ?_ | refine x_norm ?_ | refine pw_seq ?_)); refine pw_region ?_)
  refine ps_v rfl trivial ?_
  ((repeat (first | refine ps_nil ?_ | refine pq_nil ?_ | refine x_norm ?_ | refine pw_seq ?_)); refine pw_region ?_)
  (first | refine ps_run (o_nilm 9 1 0 rfl rfl ?_) | refine ps_run (o_nila 9 1 0 rfl rfl ?_))
  repeat (refine stp rfl ?_ ?_;·repeat' constructor)
  refine pw_loop (fun k => k ≤ l.length) (fun k => [(1, .clo 82 []), (5, .als 5 (k + 1) 0 (((l.take k).map (·.name)).map eS).length), (8, .sl (l.map eItem)), (9, I l.length), (10, I k)]) (fun k => [(5, k + 1, ⟨9, 1, ((l.take k).map (·.name)).map eS, 0⟩)]) (fun k => l.length - k) 0 (Nat.zero_le _) ⟨rfl, rfl, rfl, ?_, rfl, rfl, trivial⟩ ?_
  · show I ((l.map eItem).length) = _
    simp
  intro k s hk
  repeat (refine stp rfl ?_ ?_;·repeat' constructor)
  refine pw_cond rfl (fun h => ?_) (fun h => ?_)
  · have hlt : k < l.length := by simpa using h
    obtain ⟨x, hx⟩ := get_lt hlt
    repeat (refine stp rfl ?_ ?_;·repeat' constructor)
    apply qst;exact rfl;exact rfl;exact q_idxm rfl rfl rfl rfl rfl (by omega) hx rfl
    repeat (refine stp rfl ?_ ?_;·repeat' constructor)
    apply qst;exact rfl;exact rfl;exact q_callP rfl (itemName_ret x) rfl (by repeat' constructor) rfl rfl
    repeat (refine stp rfl ?_ ?_;·repeat' constructor)
    refine ps_run (o_slit 0 rfl rfl rfl rfl rfl rfl rfl rfl rfl rfl rfl (by repeat' constructor) rfl ?_)
    repeat (refine stp rfl ?_ ?_;·repeat' constructor)
    refine ps_run (o_app 0 rfl rfl rfl rfl rfl rfl rfl rfl rfl rfl rfl (by repeat' constructor) (by intro row hr; first | (simp at hr; subst hr; rfl) | simp at hr) rfl rfl (by simp; omega) (by simp; omega) ?_)
    repeat (refine stp rfl ?_ ?_;·repeat' constructor)
    refine ⟨k + 1, hlt, by omega, rfl, ?_, rfl, rfl, ?_, ?_, trivial⟩
    · rw [hrows k x hx]; rfl
    · exact i64_next (by omega) (by omega)
    · rw [hrows k x hx]; rfl
  · have hge : k = l.length := by have := of_decide_eq_false h; omega
    repeat (refine stp rfl ?_ ?_;·repeat' constructor)
    exact end1 rfl rfl rfl ⟨rfl, rfl, rfl⟩ (by rw [hge, List.take_length])

theorem tradeNames_ret (w : SWork) (hw : w.trades.length ≤ 1000000) : Ret Tryz.prog .shared 33 [.agg (eWork w)] (.sl ((w.trades.map (·.name)).map eS)) := by
  refine Ret.of_pwp layOk mixed Go.Proofs.Tryz.func33 rfl (by decide) rfl rfl ?_
  repeat (refine stp rfl ?_ ?_;·repeat' constructor)
  apply qst;exact rfl;exact rfl;exact q_call rfl (namesT_ret w.trades hw) rfl (by repeat' constructor) rfl
  repeat (refine stp rfl ?_ ?_;·repeat' constructor)
  exact end1 rfl rfl rfl trivial rfl
theorem spaceNames_ret (w : SWork) (hw : w.spaces.length ≤ 1000000) : Ret Tryz.prog .shared 71 [.agg (eWork w)] (.sl ((w.spaces.map (·.name)).map eS)) := by
  refine Ret.of_pwp layOk mixed Go.Proofs.Tryz.func71 rfl (by decide) rfl rfl ?_
  repeat (refine stp rfl ?_ ?_;·repeat' constructor)
  apply qst;exact rfl;exact rfl;exact q_call rfl (namesS_ret w.spaces hw) rfl (by repeat' constructor) rfl
  repeat (refine stp rfl ?_ ?_;·repeat' constructor)
  exact end1 rfl rfl rfl trivial rfl
theorem itemNames_ret (w : SWork) (hw : w.items.length ≤ 1000000) : Ret Tryz.prog .shared 48 [.agg (eWork w)] (.sl ((w.items.map (·.name)).map eS)) := by
  refine Ret.of_pwp layOk mixed Go.Proofs.Tryz.func48 rfl (by decide) rfl rfl ?_
  repeat (refine stp rfl ?_ ?_;·repeat' constructor)
  apply qst;exact rfl;exact rfl;exact q_call rfl (namesI_ret w.items hw) rfl (by repeat' constructor) rfl
  repeat (refine stp rfl ?_ ?_;·repeat' constructor)
  exact end1 rfl rfl rfl trivial rfl
end Go.Pv

/- Checks of work: the program's. -/
set_option maxHeartbeats 2000000
namespace Go.Pv
attribute [local irreducible] PWP POps PQuiet PSem XThen XBlock RetPost InlPost
open Go.Proofs

theorem q_slhm {P : Program} {L : Lay} {s : St} {d : Nat} {ty : TypeId} {pos : String} {af : Array Edge} {g : Option (Nat × Bool)} {T E : TypeId} {x hi : Operand} {r re : LRow} {α : Type} {enc : α → List PV} {l : List α} {k : IntKind} {n : Int} (hr : L T = some r) (hs : r.sh = .sl E) (hre : L E = some re)
    (hx : s.ev x = .sl (l.map enc)) (hix : s.ev hi = .int k n) (h0 : 0 ≤ n) (hle : n ≤ l.length) (hlen : ∀ a, (enc a).length = re.size) : QOp P L s ⟨some d, .slice T x none (some hi) none, ty, pos, af, g⟩ (.sl ((l.take n.toNat).map enc)) := by
  have := QOp.slh (P := P) (L := L) (s := s) (o := ⟨some d, .slice T x none (some hi) none, ty, pos, af, g⟩) rfl hr hs hre hx hix h0 (by simpa using hle) (by intro row h; obtain ⟨a, _, rfl⟩ := List.mem_map.1 h; exact hlen a)
  rwa [← List.map_take] at this
theorem q_slcm {P : Program} {L : Lay} {s : St} {d : Nat} {ty : TypeId} {pos : String} {af : Array Edge} {g : Option (Nat × Bool)} {T E : TypeId} {x lo : Operand} {r re : LRow} {α : Type} {enc : α → List PV} {l : List α} {k : IntKind} {n : Int} (hr : L T = some r) (hs : r.sh = .sl E) (hre : L E = some re)
    (hx : s.ev x = .sl (l.map enc)) (hix : s.ev lo = .int k n) (h0 : 0 ≤ n) (hle : n ≤ l.length) (hlen : ∀ a, (enc a).length = re.size) : QOp P L s ⟨some d, .slice T x (some lo) none none, ty, pos, af, g⟩ (.sl ((l.drop n.toNat).map enc)) := by
  have := QOp.slc (P := P) (L := L) (s := s) (o := ⟨some d, .slice T x (some lo) none none, ty, pos, af, g⟩) rfl hr hs hre hx hix h0 (by simpa using hle) (by intro row h; obtain ⟨a, _, rfl⟩ := List.mem_map.1 h; exact hlen a)
  rwa [← List.map_drop] at this

def namedS (l : List Str) (most : Int) (own : Nat → Int) : Int :=
  if most < l.length then 8 else fstE l fun i s => if isName s then (if (l.take i).any (· == s) then 5 else own i) else 4

theorem named_ret1 (l : List Str) (most : Int) (hm : most ≤ 1000000) (f : FuncId) (c0 : List PV) (own : Nat → Int) (hf : ∀ i : Nat, i < l.length → Ret Tryz.prog .shared f (I i :: [.dref c0 0]) (I (own i))) : Ret Tryz.prog .shared 69 [.sl (l.map eS), I most, .clo f [.dref c0 0]] (I (namedS l most own)) := by
  refine Ret.of_pwp layOk mixed Go.Proofs.Tryz.func69 rfl (by decide) rfl rfl ?_
  repeat (refine stp rfl ?_ ?_;·repeat' constructor)
  refine pw_cond rfl (fun h => ?_) (fun h => ?_)
  · repeat (refine stp rfl ?_ ?_;·repeat' constructor)
    exact end1i rfl rfl (by have := of_decide_eq_true h; simp at this; simp [namedS, this])
  have hlen : ¬ most < (l.length : Int) := by have := of_decide_eq_false h; simpa using this
  repeat (refine stp rfl ?_ ?_;·repeat' constructor)
  refine pw_loop (ClearE l fun i s => if isName s then (if (l.take i).any (· == s) then 5 else own i) else 4) (fun k => [(0, .sl (l.map eS)), (2, .clo f [.dref c0 0]), (14, .sl (l.map eS)), (15, I l.length), (16, I k)]) (fun _ => []) (fun k => l.length - k) 0 .zero' ⟨rfl, rfl, rfl, ?_, rfl, trivial⟩ ?_
  · show I ((l.map eS).length) = _
    simp
  intro k s hk
  repeat (refine stp rfl ?_ ?_;·repeat' constructor)
  refine pw_cond rfl (fun h => ?_) (fun h => ?_)
  · have hlt : k < l.length := by simpa using h
    obtain ⟨x, hx⟩ := get_lt hlt
    repeat (refine stp rfl ?_ ?_;·repeat' constructor)
    apply qst;exact rfl;exact rfl;exact q_idxm rfl rfl rfl rfl rfl (by omega) hx rfl
    repeat (refine stp rfl ?_ ?_;·repeat' constructor)
    apply qst;exact rfl;exact rfl;exact q_callP rfl (isName_ret x) rfl (by repeat' constructor) rfl rfl
    repeat (refine stp rfl ?_ ?_;·repeat' constructor)
    refine pw_cond rfl (fun h => ?_) (fun h => ?_)
    · repeat (refine stp rfl ?_ ?_;·repeat' constructor)
      exact end1i rfl rfl (by rw [namedS, if_neg hlen, hk.found (e := 4) hx (by simp_all) (by omega)])
    have hnm : isName x = true := by simpa using h
    repeat (refine stp rfl ?_ ?_;·repeat' constructor)
    refine ps_q (q_slhm rfl rfl rfl rfl rfl (by omega) (by omega) (fun _ => rfl)) ?_
    repeat (refine stp rfl ?_ ?_;·repeat' constructor)
    apply qst;exact rfl;exact rfl;exact q_callP rfl (contains_ret (l.take (Int.toNat k)) x (by simp; omega)) rfl (by repeat' constructor) rfl rfl
    repeat (refine stp rfl ?_ ?_;·repeat' constructor)
    refine pw_cond rfl (fun h => ?_) (fun h => ?_)
    · repeat (refine stp rfl ?_ ?_;·repeat' constructor)
      exact end1i rfl rfl (by rw [namedS, if_neg hlen, hk.found (e := 5) hx (by simp_all) (by omega)])
    have hct : (l.take k).any (· == x) = false := h
    have hown : (if isName x then (if (l.take k).any (· == x) then 5 else own k) else 4) = own k := by rw [if_pos hnm, hct]; rfl
    repeat (refine stp rfl ?_ ?_;·repeat' constructor)
    apply qst;exact rfl;exact rfl;exact q_callP rfl (hf k hlt) rfl (by repeat' constructor) rfl rfl
    repeat (refine stp rfl ?_ ?_;·repeat' constructor)
    refine pw_cond rfl (fun h => ?_) (fun h => ?_)
    · repeat (refine stp rfl ?_ ?_;·repeat' constructor)
      exact end1i rfl rfl (by rw [namedS, if_neg hlen, hk.found (e := own k) hx hown (by simpa using h)])
    · repeat (refine stp rfl ?_ ?_;·repeat' constructor)
      refine ⟨k + 1, hk.succ hx (hown.trans (by simpa using h)), by omega, rfl, rfl, rfl, rfl, ?_, trivial⟩
      exact i64_next (by omega) (by omega)
  · repeat (refine stp rfl ?_ ?_;·repeat' constructor)
    exact end1i rfl rfl (by rw [namedS, if_neg hlen, hk.none (by simpa using h)])
theorem named_ret2 (l : List Str) (most : Int) (hm : most ≤ 1000000) (f : FuncId) (c0 c1 : List PV) (own : Nat → Int) (hf : ∀ i : Nat, i < l.length → Ret Tryz.prog .shared f (I i :: [.dref c0 0, .dref c1 0]) (I (own i))) : Ret Tryz.prog .shared 69 [.sl (l.map eS), I most, .clo f [.dref c0 0, .dref c1 0]] (I (namedS l most own)) := by
  refine Ret.of_pwp layOk mixed Go.Proofs.Tryz.func69 rfl (by decide) rfl rfl ?_
  repeat (refine stp rfl ?_ ?_;·repeat' constructor)
  refine pw_cond rfl (fun h => ?_) (fun h => ?_)
  · repeat (refine stp rfl ?_ ?_;·repeat' constructor)
    exact end1i rfl rfl (by have := of_decide_eq_true h; simp at this; simp [namedS, this])
  have hlen : ¬ most < (l.length : Int) := by have := of_decide_eq_false h; simpa using this
  repeat (refine stp rfl ?_ ?_;·repeat' constructor)
  refine pw_loop (ClearE l fun i s => if isName s then (if (l.take i).any (· == s) then 5 else own i) else 4) (fun k => [(0, .sl (l.map eS)), (2, .clo f [.dref c0 0, .dref c1 0]), (14, .sl (l.map eS)), (15, I l.length), (16, I k)]) (fun _ => []) (fun k => l.length - k) 0 .zero' ⟨rfl, rfl, rfl, ?_, rfl, trivial⟩ ?_
  · show I ((l.map eS).length) = _
    simp
  intro k s hk
  repeat (refine stp rfl ?_ ?_;·repeat' constructor)
  refine pw_cond rfl (fun h => ?_) (fun h => ?_)
  · have hlt : k < l.length := by simpa using h
    obtain ⟨x, hx⟩ := get_lt hlt
    repeat (refine stp rfl ?_ ?_;·repeat' constructor)
    apply qst;exact rfl;exact rfl;exact q_idxm rfl rfl rfl rfl rfl (by omega) hx rfl
    repeat (refine stp rfl ?_ ?_;·repeat' constructor)
    apply qst;exact rfl;exact rfl;exact q_callP rfl (isName_ret x) rfl (by repeat' constructor) rfl rfl
    repeat (refine stp rfl ?_ ?_;·repeat' constructor)
    refine pw_cond rfl (fun h => ?_) (fun h => ?_)
    · repeat (refine stp rfl ?_ ?_;·repeat' constructor)
      exact end1i rfl rfl (by rw [namedS, if_neg hlen, hk.found (e := 4) hx (by simp_all) (by omega)])
    have hnm : isName x = true := by simpa using h
    repeat (refine stp rfl ?_ ?_;·repeat' constructor)
    refine ps_q (q_slhm rfl rfl rfl rfl rfl (by omega) (by omega) (fun _ => rfl)) ?_
    repeat (refine stp rfl ?_ ?_;·repeat' constructor)
    apply qst;exact rfl;exact rfl;exact q_callP rfl (contains_ret (l.take (Int.toNat k)) x (by simp; omega)) rfl (by repeat' constructor) rfl rfl
    repeat (refine stp rfl ?_ ?_;·repeat' constructor)
    refine pw_cond rfl (fun h => ?_) (fun h => ?_)
    · repeat (refine stp rfl ?_ ?_;·repeat' constructor)
      exact end1i rfl rfl (by rw [namedS, if_neg hlen, hk.found (e := 5) hx (by simp_all) (by omega)])
    have hct : (l.take k).any (· == x) = false := h
    have hown : (if isName x then (if (l.take k).any (· == x) then 5 else own k) else 4) = own k := by rw [if_pos hnm, hct]; rfl
    repeat (refine stp rfl ?_ ?_;·repeat' constructor)
    apply qst;exact rfl;exact rfl;exact q_callP rfl (hf k hlt) rfl (by repeat' constructor) rfl rfl
    repeat (refine stp rfl ?_ ?_;·repeat' constructor)
    refine pw_cond rfl (fun h => ?_) (fun h => ?_)
    · repeat (refine stp rfl ?_ ?_;·repeat' constructor)
      exact end1i rfl rfl (by rw [namedS, if_neg hlen, hk.found (e := own k) hx hown (by simpa using h)])
    · repeat (refine stp rfl ?_ ?_;·repeat' constructor)
      refine ⟨k + 1, hk.succ hx (hown.trans (by simpa using h)), by omega, rfl, rfl, rfl, rfl, ?_, trivial⟩
      exact i64_next (by omega) (by omega)
  · repeat (refine stp rfl ?_ ?_;·repeat' constructor)
    exact end1i rfl rfl (by rw [namedS, if_neg hlen, hk.none (by simpa using h)])
theorem indexF_ret (l : List Str) (f : FuncId) (c0 : List PV) (p : Str → Bool) (hw : l.length ≤ 1000000) (hf : ∀ x, x ∈ l → Ret Tryz.prog .shared f (.str x :: [.dref c0 0]) (.bool (p x))) : Ret Tryz.prog .shared 95 [.sl (l.map eS), .clo f [.dref c0 0]] (I (idx l p)) := by
  refine Ret.of_pwp layOk mixed Go.Proofs.Tryz.func95 rfl (by decide) rfl rfl ?_
  repeat (refine stp rfl ?_ ?_;·repeat' constructor)
  refine pw_loop (Clear l p) (fun k => [(0, .sl (l.map eS)), (1, .clo f [.dref c0 0]), (7, I l.length), (8, I k)]) (fun _ => []) (fun k => l.length - k) 0 .zero ⟨rfl, rfl, ?_, rfl, trivial⟩ ?_
  · show I ((l.map eS).length) = _
    simp
  intro k s hk
  repeat (refine stp rfl ?_ ?_;·repeat' constructor)
  refine pw_cond rfl (fun h => ?_) (fun h => ?_)
  · have hlt : k < l.length := by simpa using h
    obtain ⟨x, hx⟩ := get_lt hlt
    repeat (refine stp rfl ?_ ?_;·repeat' constructor)
    apply qst;exact rfl;exact rfl;exact q_idxm rfl rfl rfl rfl rfl (by omega) hx rfl
    repeat (refine stp rfl ?_ ?_;·repeat' constructor)
    apply qst;exact rfl;exact rfl;exact q_callP rfl (hf x (List.mem_of_getElem? hx)) rfl (by repeat' constructor) rfl rfl
    repeat (refine stp rfl ?_ ?_;·repeat' constructor)
    refine pw_cond rfl (fun h => ?_) (fun h => ?_)
    · repeat (refine stp rfl ?_ ?_;·repeat' constructor)
      exact end1i rfl rfl (by rw [hk.found hx h])
    · repeat (refine stp rfl ?_ ?_;·repeat' constructor)
      refine ⟨k + 1, hk.succ hx h, by omega, rfl, rfl, rfl, ?_, trivial⟩
      exact i64_next (by omega) (by omega)
  · repeat (refine stp rfl ?_ ?_;·repeat' constructor)
    exact end1i rfl rfl (by rw [hk.none (by simpa using h)])
theorem containsF_ret (l : List Str) (f : FuncId) (c0 : List PV) (p : Str → Bool) (hw : l.length ≤ 1000000) (hf : ∀ x, x ∈ l → Ret Tryz.prog .shared f (.str x :: [.dref c0 0]) (.bool (p x))) : Ret Tryz.prog .shared 73 [.sl (l.map eS), .clo f [.dref c0 0]] (.bool (l.any p)) := by
  refine Ret.of_pwp layOk mixed Go.Proofs.Tryz.func73 rfl (by decide) rfl rfl ?_
  repeat (refine stp rfl ?_ ?_;·repeat' constructor)
  apply qst;exact rfl;exact rfl;exact q_callP rfl (indexF_ret l f c0 p hw hf) rfl (by repeat' constructor) rfl rfl
  repeat (refine stp rfl ?_ ?_;·repeat' constructor)
  exact end1b rfl rfl (by rw [idx_nonneg])


def tradeE (t : STrade) : Int := if inside t.crew 0 1000 && inside t.rate 0 1000000 then 0 else 2
theorem tradeOwn_ret (w : SWork) (i : Nat) (t : STrade) (ht : w.trades[i]? = some t) : Ret Tryz.prog .shared 70 [I i, .dref (eWork w) 0] (I (tradeE t)) := by
  refine Ret.of_pwp layOk mixed Go.Proofs.Tryz.func70 rfl (by decide) rfl rfl ?_
  repeat (refine stp rfl ?_ ?_;·repeat' constructor)
  apply qst;exact rfl;exact rfl;exact q_idxm rfl rfl rfl rfl rfl (by omega) ht rfl
  repeat (refine stp rfl ?_ ?_;·repeat' constructor)
  apply qst;exact rfl;exact rfl;exact q_callP rfl (within_ret t.crew 1000) rfl (by repeat' constructor) rfl rfl
  repeat (refine stp rfl ?_ ?_;·repeat' constructor)
  (first | refine ps_split rfl rfl (fun h => ?_) (fun h => ?_) | refine pq_split rfl rfl (fun h => ?_) (fun h => ?_) | refine p3_split rfl rfl (fun h => ?_) (fun h => ?_))
  · repeat (refine stp rfl ?_ ?_;·repeat' constructor)
    exact end1i rfl rfl (by simp [tradeE] at *; simp [h])
  · repeat (refine stp rfl ?_ ?_;·repeat' constructor)
    apply qst;exact rfl;exact rfl;exact q_idxm rfl rfl rfl rfl rfl (by omega) ht rfl
    repeat (refine stp rfl ?_ ?_;·repeat' constructor)
    apply qst;exact rfl;exact rfl;exact q_callP rfl (within_ret t.rate 1000000) rfl (by repeat' constructor) rfl rfl
    repeat (refine stp rfl ?_ ?_;·repeat' constructor)
    refine pw_cond rfl (fun h => ?_) (fun h => ?_)
    · repeat (refine stp rfl ?_ ?_;·repeat' constructor)
      exact end1i rfl rfl (by simp_all [tradeE])
    · repeat (refine stp rfl ?_ ?_;·repeat' constructor)
      exact end1i rfl rfl (by simp_all [tradeE])

def noSpace (w : SWork) (s : Str) : Bool := !(w.spaces.map (·.name)).any (· == s)
theorem noSpace_ret (w : SWork) (hw : w.spaces.length ≤ 1000000) (n : Str) : Ret Tryz.prog .shared 74 [.str n, .dref [.sl ((w.spaces.map (·.name)).map eS)] 0] (.bool (noSpace w n)) := by
  refine Ret.of_pwp layOk mixed Go.Proofs.Tryz.func74 rfl (by decide) rfl rfl ?_
  repeat (refine stp rfl ?_ ?_;·repeat' constructor)
  apply qst;exact rfl;exact rfl;exact q_callP rfl (contains_ret (w.spaces.map (·.name)) n (by simpa using hw)) rfl (by repeat' constructor) rfl rfl
  repeat (refine stp rfl ?_ ?_;·repeat' constructor)
  exact end1b rfl rfl rfl
def spaceE (w : SWork) (x : SSpace) : Int := if x.next.any (noSpace w) then 6 else 0
theorem spaceOwn_ret (w : SWork) (hw : w.spaces.length ≤ 1000000) (i : Nat) (x : SSpace) (hx : w.spaces[i]? = some x) (hn : x.next.length ≤ 1000000) : Ret Tryz.prog .shared 72 [I i, .dref (eWork w) 0, .dref [.sl ((w.spaces.map (·.name)).map eS)] 0] (I (spaceE w x)) := by
  refine Ret.of_pwp layOk mixed Go.Proofs.Tryz.func72 rfl (by decide) rfl rfl ?_
  repeat (refine stp rfl ?_ ?_;·repeat' constructor)
  apply qst;exact rfl;exact rfl;exact q_idxm rfl rfl rfl rfl rfl (by omega) hx rfl
  repeat (refine stp rfl ?_ ?_;·repeat' constructor)
  apply qst;exact rfl;exact rfl;exact q_callP rfl (containsF_ret x.next 74 [.sl ((w.spaces.map (·.name)).map eS)] (noSpace w) hn (fun s _ => noSpace_ret w hw s)) rfl (by repeat' constructor) rfl rfl
  repeat (refine stp rfl ?_ ?_;·repeat' constructor)
  refine pw_cond rfl (fun h => ?_) (fun h => ?_)
  · repeat (refine stp rfl ?_ ?_;·repeat' constructor)
    exact end1i rfl rfl (by simp_all [spaceE])
  · repeat (refine stp rfl ?_ ?_;·repeat' constructor)
    exact end1i rfl rfl (by simp_all [spaceE])
end Go.Pv

/- Checks of rules and items: the program's. -/
set_option maxHeartbeats 2000000
namespace Go.Pv
attribute [local irreducible] PWP POps PQuiet PSem XThen XBlock RetPost InlPost
open Go.Proofs

def exclE (x : SExcl) : Int := if inside x.a 0 5 && inside x.b 0 5 && inside x.reach 0 2 then 0 else 2
def outE (o : SOut) : Int := if inside o.frm 0 400 && inside o.to 0 400 then (if o.to ≤ o.frm then 10 else 0) else 2
def rulesE (w : SWork) : Int :=
  if 30 < w.excls.length then 8 else if fstE w.excls (fun _ x => exclE x) = 0 then (if 20 < w.outs.length then 8 else fstE w.outs fun _ o => outE o) else fstE w.excls (fun _ x => exclE x)

theorem rulesErr_ret (w : SWork) (h1 : w.excls.length ≤ 1000000) (h2 : w.outs.length ≤ 1000000) : Ret Tryz.prog .shared 75 [.agg (eWork w)] (I (rulesE w)) := by
  refine Ret.of_pwp layOk mixed Go.Proofs.Tryz.func75 rfl (by decide) rfl rfl ?_
  repeat (refine stp rfl ?_ ?_;·repeat' constructor)
  refine pw_cond rfl (fun h => ?_) (fun h => ?_)
  · repeat (refine stp rfl ?_ ?_;·repeat' constructor)
    exact end1i rfl rfl (by have := of_decide_eq_true h; simp at this; rw [rulesE, if_pos (by omega)])
  have hl : ¬ 30 < w.excls.length := by have := of_decide_eq_false h; simp at this; omega
  repeat (refine stp rfl ?_ ?_;·repeat' constructor)
  refine pw_loop (ClearE w.excls fun _ x => exclE x) (fun k => [(1, .ptr 1 1 0 0), (12, .sl (w.excls.map eExcl)), (13, I w.excls.length), (14, I k)]) (fun _ => [(1, 1, ⟨28, 9, [eWork w], 2⟩)]) (fun k => w.excls.length - k) 0 .zero' ⟨rfl, rfl, ?_, rfl, rfl, trivial⟩ ?_
  · show I ((w.excls.map eExcl).length) = _
    simp
  intro k s hk
  repeat (refine stp rfl ?_ ?_;·repeat' constructor)
  refine pw_cond rfl (fun h => ?_) (fun h => ?_)
  · have hlt : k < w.excls.length := by simpa using h
    obtain ⟨x, hx⟩ := get_lt hlt
    clear h
    have bad : exclE x = 2 → rulesE w = 2 := fun hb => by
      have := hk.found (e := 2) hx hb (by omega)
      rw [rulesE, if_neg hl, this]; rfl
    repeat (refine stp rfl ?_ ?_;·repeat' constructor)
    apply qst;exact rfl;exact rfl;exact q_idxm rfl rfl rfl rfl rfl (by omega) hx rfl
    repeat (refine stp rfl ?_ ?_;·repeat' constructor)
    apply qst;exact rfl;exact rfl;exact q_callP rfl (within_ret x.a 5) rfl (by repeat' constructor) rfl rfl
    repeat (refine stp rfl ?_ ?_;·repeat' constructor)
    (first | refine ps_split rfl rfl (fun h => ?_) (fun h => ?_) | refine pq_split rfl rfl (fun h => ?_) (fun h => ?_) | refine p3_split rfl rfl (fun h => ?_) (fun h => ?_))
    · repeat (refine stp rfl ?_ ?_;·repeat' constructor)
      exact end1i rfl rfl (by rw [bad]; simp_all [exclE])
    have ha := h
    repeat (refine stp rfl ?_ ?_;·repeat' constructor)
    apply qst;exact rfl;exact rfl;exact q_callP rfl (within_ret x.b 5) rfl (by repeat' constructor) rfl rfl
    repeat (refine stp rfl ?_ ?_;·repeat' constructor)
    (first | refine ps_split rfl rfl (fun h => ?_) (fun h => ?_) | refine pq_split rfl rfl (fun h => ?_) (fun h => ?_) | refine p3_split rfl rfl (fun h => ?_) (fun h => ?_))
    · repeat (refine stp rfl ?_ ?_;·repeat' constructor)
      exact end1i rfl rfl (by rw [bad]; simp_all [exclE])
    have hb := h
    repeat (refine stp rfl ?_ ?_;·repeat' constructor)
    apply qst;exact rfl;exact rfl;exact q_callP rfl (within_ret x.reach 2) rfl (by repeat' constructor) rfl rfl
    repeat (refine stp rfl ?_ ?_;·repeat' constructor)
    refine pw_cond rfl (fun h => ?_) (fun h => ?_)
    · repeat (refine stp rfl ?_ ?_;·repeat' constructor)
      exact end1i rfl rfl (by rw [bad]; simp_all [exclE])
    · repeat (refine stp rfl ?_ ?_;·repeat' constructor)
      refine ⟨k + 1, hk.succ hx (by simp_all [exclE]), by omega, rfl, rfl, rfl, ?_, rfl, trivial⟩
      exact i64_next (by omega) (by omega)
  have hz : fstE w.excls (fun _ x => exclE x) = 0 := hk.none (by simpa using h)
  clear h hk
  repeat (refine stp rfl ?_ ?_;·repeat' constructor)
  refine pw_cond rfl (fun h => ?_) (fun h => ?_)
  · repeat (refine stp rfl ?_ ?_;·repeat' constructor)
    exact end1i rfl rfl (by have := of_decide_eq_true h; simp at this; rw [rulesE, if_neg hl, if_pos hz, if_pos (by omega)])
  have hl2 : ¬ 20 < w.outs.length := by have := of_decide_eq_false h; simp at this; omega
  repeat (refine stp rfl ?_ ?_;·repeat' constructor)
  refine pw_loop (ClearE w.outs fun _ x => outE x) (fun k => [(1, .ptr 1 1 0 0), (40, .sl (w.outs.map eOut)), (41, I w.outs.length), (42, I k)]) (fun _ => [(1, 1, ⟨28, 9, [eWork w], 2⟩)]) (fun k => w.outs.length - k) 0 .zero' ⟨rfl, rfl, ?_, rfl, rfl, trivial⟩ ?_
  · show I ((w.outs.map eOut).length) = _
    simp
  intro k s hk
  repeat (refine stp rfl ?_ ?_;·repeat' constructor)
  refine pw_cond rfl (fun h => ?_) (fun h => ?_)
  · have hlt : k < w.outs.length := by simpa using h
    obtain ⟨x, hx⟩ := get_lt hlt
    clear h
    have bad : ∀ e, outE x = e → e ≠ 0 → rulesE w = e := fun e hb he => by
      have := hk.found (e := e) hx hb he
      rw [rulesE, if_neg hl, if_pos hz, if_neg hl2, this]
    repeat (refine stp rfl ?_ ?_;·repeat' constructor)
    apply qst;exact rfl;exact rfl;exact q_idxm rfl rfl rfl rfl rfl (by omega) hx rfl
    repeat (refine stp rfl ?_ ?_;·repeat' constructor)
    apply qst;exact rfl;exact rfl;exact q_callP rfl (within_ret x.frm 400) rfl (by repeat' constructor) rfl rfl
    repeat (refine stp rfl ?_ ?_;·repeat' constructor)
    (first | refine ps_split rfl rfl (fun h => ?_) (fun h => ?_) | refine pq_split rfl rfl (fun h => ?_) (fun h => ?_) | refine p3_split rfl rfl (fun h => ?_) (fun h => ?_))
    · repeat (refine stp rfl ?_ ?_;·repeat' constructor)
      exact end1i rfl rfl (by rw [bad 2 _ (by omega)]; simp_all [outE])
    have ha := h
    repeat (refine stp rfl ?_ ?_;·repeat' constructor)
    apply qst;exact rfl;exact rfl;exact q_callP rfl (within_ret x.to 400) rfl (by repeat' constructor) rfl rfl
    repeat (refine stp rfl ?_ ?_;·repeat' constructor)
    refine pw_cond rfl (fun h => ?_) (fun h => ?_)
    · repeat (refine stp rfl ?_ ?_;·repeat' constructor)
      exact end1i rfl rfl (by rw [bad 2 _ (by omega)]; simp_all [outE])
    have hb := h
    repeat (refine stp rfl ?_ ?_;·repeat' constructor)
    refine pw_cond rfl (fun h => ?_) (fun h => ?_)
    · repeat (refine stp rfl ?_ ?_;·repeat' constructor)
      exact end1i rfl rfl (by rw [bad 10 _ (by omega)]; simp_all [outE])
    · repeat (refine stp rfl ?_ ?_;·repeat' constructor)
      refine ⟨k + 1, hk.succ hx (by simp_all [outE]), by omega, rfl, rfl, rfl, ?_, rfl, trivial⟩
      exact i64_next (by omega) (by omega)
  · repeat (refine stp rfl ?_ ?_;·repeat' constructor)
    exact end1i rfl rfl (by rw [rulesE, if_neg hl, if_pos hz, if_neg hl2, hk.none (by simpa using h)])

end Go.Pv

/- The check of an item: the program's. -/
set_option maxHeartbeats 2000000
namespace Go.Pv
attribute [local irreducible] PWP POps PQuiet PSem XThen XBlock RetPost InlPost
open Go.Proofs

def modeE (c : Int) (m : SMode) : Int := if inside m.days 1 60 && inside m.crew 0 1000 then (if c < m.crew then 23 else 0) else 2
def afterE (w : SWork) (x : SItem) (s : Str) : Int := if (w.items.map (·.name)).any (· == s) then (if s = x.name then 3 else 0) else 6
/-- The crew of an item's trade. -/
def crewOf (w : SWork) (x : SItem) : Int := match w.trades[(idx w.trades (·.name == x.trade)).toNat]? with | some t => t.crew | none => 0
def itemE (w : SWork) (x : SItem) : Int :=
  if idx w.trades (·.name == x.trade) < 0 then 6
  else if x.modes.length < 1 || decide (3 < x.modes.length) then 2
  else if fstE x.modes (fun _ m => modeE (crewOf w x) m) = 0 then
    (if x.space ≠ [] ∧ noSpace w x.space = true then 6
     else if inside x.kind (-1) 5 then (if x.kind ≠ -1 ∧ x.space = [] then 3 else fstE x.after fun _ s => afterE w x s)
     else 2)
  else fstE x.modes (fun _ m => modeE (crewOf w x) m)

theorem idx_map {α β : Type} (l : List α) (f : α → β) (p : β → Bool) : idx (l.map f) p = idx l (fun a => p (f a)) := by
  unfold idx
  rw [List.findIdx?_map]; rfl

theorem itemErr_ret (w : SWork) (x : SItem) (h1 : w.trades.length ≤ 1000000) (h2 : w.spaces.length ≤ 1000000) (h3 : w.items.length ≤ 1000000) (h4 : x.after.length ≤ 1000000) :
    Ret Tryz.prog .shared 77 [.agg (eWork w), .agg (eItem x), .sl ((w.items.map (·.name)).map eS)] (I (itemE w x)) := by
  refine Ret.of_pwp layOk mixed Go.Proofs.Tryz.func77 rfl (by decide) rfl rfl ?_
  repeat (refine stp rfl ?_ ?_;·repeat' constructor)
  refine pw_draw 6 [12, 13, 14, 15, 16, 7] (by decide +kernel) ?_
  repeat (refine stp rfl ?_ ?_;·repeat' constructor)
  apply qst;exact rfl;exact rfl;exact q_call rfl (tradeNames_ret w h1) rfl (by repeat' constructor) rfl
  repeat (refine stp rfl ?_ ?_;·repeat' constructor)
  apply qst;exact rfl;exact rfl;exact q_callP rfl (index_ret (w.trades.map (·.name)) x.trade (by simpa using h1)) rfl (by repeat' constructor) rfl rfl
  rw [idx_map]
  repeat (refine stp rfl ?_ ?_;·repeat' constructor)
  refine pw_cond rfl (fun h => ?_) (fun h => ?_)
  · repeat (refine stp rfl ?_ ?_;·repeat' constructor)
    exact end1i rfl rfl (by rw [itemE, if_pos (of_decide_eq_true h)])
  have ht : ¬ idx w.trades (·.name == x.trade) < 0 := of_decide_eq_false h
  clear h
  obtain ⟨t, htr, _⟩ := idx_lt (Int.not_lt.1 ht)
  have hcrew : crewOf w x = t.crew := by rw [crewOf, htr]
  have it : itemE w x = itemE w x := rfl
  conv at it => rhs; rw [itemE, if_neg ht]
  have hml : ((x.modes.map eMode).length : Int) = x.modes.length := by simp
  repeat (refine stp rfl ?_ ?_;·repeat' constructor)
  (first | refine ps_split rfl rfl (fun h => ?_) (fun h => ?_) | refine pq_split rfl rfl (fun h => ?_) (fun h => ?_) | refine p3_split rfl rfl (fun h => ?_) (fun h => ?_))
  · repeat (refine stp rfl ?_ ?_;·repeat' constructor)
    exact end1i rfl rfl (by have h' := of_decide_eq_true h; rw [it, if_pos]; rw [Bool.or_eq_true]; exact .inl (decide_eq_true (by omega)))
  have hm1 := of_decide_eq_false h
  repeat (refine stp rfl ?_ ?_;·repeat' constructor)
  refine pw_cond rfl (fun h => ?_) (fun h => ?_)
  · repeat (refine stp rfl ?_ ?_;·repeat' constructor)
    exact end1i rfl rfl (by have h' := of_decide_eq_true h; rw [it, if_pos]; rw [Bool.or_eq_true]; exact .inr (decide_eq_true (by omega)))
  have hm2 := of_decide_eq_false h
  have hm : ¬ (decide (x.modes.length < 1) || decide (3 < x.modes.length)) = true := by
    rw [Bool.or_eq_true, decide_eq_true_eq, decide_eq_true_eq]; omega
  clear h hm1
  rw [if_neg hm] at it
  repeat (refine stp rfl ?_ ?_;·repeat' constructor)
  refine pw_loop (ClearE x.modes fun _ m => modeE (crewOf w x) m) (fun k => [(2, .sl ((w.items.map (·.name)).map eS)), (3, .ptr 3 1 0 0), (4, .ptr 4 1 0 0), (7, I (idx w.trades (·.name == x.trade))), (30, .sl (x.modes.map eMode)), (31, I x.modes.length), (32, I k)]) (fun _ => [(3, 1, ⟨28, 9, [eWork w], 2⟩), (4, 1, ⟨69, 7, [eItem x], 2⟩)]) (fun k => x.modes.length - k) 0 .zero' ⟨rfl, rfl, rfl, rfl, rfl, ?_, rfl, rfl, rfl, trivial⟩ ?_
  · show I ((x.modes.map eMode).length) = _
    simp
  intro k s hk
  repeat (refine stp rfl ?_ ?_;·repeat' constructor)
  refine pw_cond rfl (fun h => ?_) (fun h => ?_)
  · have hlt : k < x.modes.length := by simpa using h
    obtain ⟨m, hx⟩ := get_lt hlt
    clear h
    have bad : ∀ e, modeE t.crew m = e → e ≠ 0 → itemE w x = e := fun e hb he => by
      have := hk.found (e := e) hx (by rw [hcrew]; exact hb) he
      rw [it, this, if_neg he]
    repeat (refine stp rfl ?_ ?_;·repeat' constructor)
    apply qst;exact rfl;exact rfl;exact q_idxm rfl rfl rfl rfl rfl (by omega) hx rfl
    repeat (refine stp rfl ?_ ?_;·repeat' constructor)
    (first | refine ps_split rfl rfl (fun h => ?_) (fun h => ?_) | refine pq_split rfl rfl (fun h => ?_) (fun h => ?_) | refine p3_split rfl rfl (fun h => ?_) (fun h => ?_))
    · repeat (refine stp rfl ?_ ?_;·repeat' constructor)
      exact end1i rfl rfl (by rw [bad 2 _ (by omega)]; have h' := of_decide_eq_true h; rw [modeE, if_neg]; simp [inside]; omega)
    have hd1 := of_decide_eq_false h
    repeat (refine stp rfl ?_ ?_;·repeat' constructor)
    (first | refine ps_split rfl rfl (fun h => ?_) (fun h => ?_) | refine pq_split rfl rfl (fun h => ?_) (fun h => ?_) | refine p3_split rfl rfl (fun h => ?_) (fun h => ?_))
    · repeat (refine stp rfl ?_ ?_;·repeat' constructor)
      exact end1i rfl rfl (by rw [bad 2 _ (by omega)]; have h' := of_decide_eq_true h; rw [modeE, if_neg]; simp [inside]; omega)
    have hd2 := of_decide_eq_false h
    repeat (refine stp rfl ?_ ?_;·repeat' constructor)
    apply qst;exact rfl;exact rfl;exact q_callP rfl (within_ret m.crew 1000) rfl (by repeat' constructor) rfl rfl
    repeat (refine stp rfl ?_ ?_;·repeat' constructor)
    refine pw_cond rfl (fun h => ?_) (fun h => ?_)
    · repeat (refine stp rfl ?_ ?_;·repeat' constructor)
      exact end1i rfl rfl (by rw [bad 2 _ (by omega)]; rw [modeE, if_neg]; simp_all)
    have hc : inside m.crew 0 1000 = true := by simpa using h
    have hd : inside m.days 1 60 = true := by simp [inside]; omega
    repeat (refine stp rfl ?_ ?_;·repeat' constructor)
    refine pw_draw 9 [50, 51, 52, 53, 54, 55, 56, 57, 58] (by decide +kernel) ?_
    repeat (refine stp rfl ?_ ?_;·repeat' constructor)
    apply qst;exact rfl;exact rfl;exact q_idxm rfl rfl rfl rfl rfl (by omega) htr rfl
    repeat (refine stp rfl ?_ ?_;·repeat' constructor)
    refine pw_cond rfl (fun h => ?_) (fun h => ?_)
    · repeat (refine stp rfl ?_ ?_;·repeat' constructor)
      exact end1i rfl rfl (by rw [bad 23 _ (by omega)]; rw [modeE, if_pos (by rw [hd, hc]; rfl), if_pos (of_decide_eq_true h)])
    · repeat (refine stp rfl ?_ ?_;·repeat' constructor)
      refine ⟨k + 1, hk.succ hx (by rw [hcrew, modeE, if_pos (by rw [hd, hc]; rfl), if_neg (of_decide_eq_false h)]), by omega, rfl, rfl, rfl, rfl, rfl, rfl, ?_, rfl, rfl, trivial⟩
      exact i64_next (by omega) (by omega)
  have hz := hk.none (by simpa using h)
  rw [if_pos hz] at it
  clear h hk
  repeat (first | refine pw_exit ?_ | refine pw_skip ?_ | refine x_norm ?_ | refine x_exit ?_ | refine xb_norm ?_ | refine xb_here ?_ | refine xb_away rfl ?_)
  refine pw_cutP (¬ (x.space ≠ [] ∧ noSpace w x.space = true) ∧ inside x.kind (-1) 5 = true ∧ ¬ (x.kind ≠ -1 ∧ x.space = [])) [(2, .sl ((w.items.map (·.name)).map eS)), (3, .ptr 3 1 0 0), (4, .ptr 4 1 0 0)] [(3, 1, ⟨28, 9, [eWork w], 2⟩), (4, 1, ⟨69, 7, [eItem x], 2⟩)] ?_ ?_
  · refine pw_block ?_
    refine pw_cutP True [(60, .bool (!decide (x.space = []) && noSpace w x.space)), (2, .sl ((w.items.map (·.name)).map eS)), (3, .ptr 3 1 0 0), (4, .ptr 4 1 0 0)] [(3, 1, ⟨28, 9, [eWork w], 2⟩), (4, 1, ⟨69, 7, [eItem x], 2⟩)] ?_ ?_
    · refine pw_draw 12 [61, 62, 63, 64, 65, 66, 67, 68, 69, 70, 71, 60] (by decide +kernel) ?_
      repeat (refine stp rfl ?_ ?_;·repeat' constructor)
      (first | refine ps_split rfl rfl (fun h => ?_) (fun h => ?_) | refine pq_split rfl rfl (fun h => ?_) (fun h => ?_) | refine p3_split rfl rfl (fun h => ?_) (fun h => ?_))
      · repeat (refine stp rfl ?_ ?_;·repeat' constructor)
        apply qst;exact rfl;exact rfl;exact q_call rfl (spaceNames_ret w h2) rfl (by repeat' constructor) rfl
        repeat (refine stp rfl ?_ ?_;·repeat' constructor)
        apply qst;exact rfl;exact rfl;exact q_callP rfl (contains_ret (w.spaces.map (·.name)) x.space (by simpa using h2)) rfl (by repeat' constructor) rfl rfl
        repeat (refine stp rfl ?_ ?_;·repeat' constructor)
        refine ⟨trivial, ?_, rfl, rfl, rfl, rfl, rfl, trivial⟩
        rw [h]; rfl
      · repeat (refine stp rfl ?_ ?_;·repeat' constructor)
        refine ⟨trivial, ?_, rfl, rfl, rfl, rfl, rfl, trivial⟩
        rw [h]; rfl
    intro _ s
    refine pw_cond rfl (fun h => ?_) (fun h => ?_)
    · repeat (refine stp rfl ?_ ?_;·repeat' constructor)
      exact end1i rfl rfl (by rw [it, if_pos]; simpa using h)
    have hs1 : ¬ (x.space ≠ [] ∧ noSpace w x.space = true) := by
      intro hh; rw [hh.2] at h; simp [hh.1] at h
    clear h
    rw [if_neg hs1] at it
    repeat (refine stp rfl ?_ ?_;·repeat' constructor)
    (first | refine ps_split rfl rfl (fun h => ?_) (fun h => ?_) | refine pq_split rfl rfl (fun h => ?_) (fun h => ?_) | refine p3_split rfl rfl (fun h => ?_) (fun h => ?_))
    · repeat (refine stp rfl ?_ ?_;·repeat' constructor)
      exact end1i rfl rfl (by have h' := of_decide_eq_true h; rw [it, if_neg]; simp [inside]; omega)
    have hk1 := of_decide_eq_false h
    repeat (refine stp rfl ?_ ?_;·repeat' constructor)
    refine pw_cond rfl (fun h => ?_) (fun h => ?_)
    · repeat (refine stp rfl ?_ ?_;·repeat' constructor)
      exact end1i rfl rfl (by have h' := of_decide_eq_true h; rw [it, if_neg]; simp [inside]; omega)
    have hk2 := of_decide_eq_false h
    have hin : inside x.kind (-1) 5 = true := by simp [inside]; omega
    rw [if_pos hin] at it
    repeat (refine stp rfl ?_ ?_;·repeat' constructor)
    (first | refine ps_split rfl rfl (fun h => ?_) (fun h => ?_) | refine pq_split rfl rfl (fun h => ?_) (fun h => ?_) | refine p3_split rfl rfl (fun h => ?_) (fun h => ?_))
    · have hne : x.kind ≠ -1 := by simpa using h
      repeat (refine stp rfl ?_ ?_;·repeat' constructor)
      refine pw_cond rfl (fun h => ?_) (fun h => ?_)
      · repeat (refine stp rfl ?_ ?_;·repeat' constructor)
        exact end1i rfl rfl (by rw [it, if_pos ⟨hne, of_decide_eq_true h⟩])
      · repeat (refine stp rfl ?_ ?_;·repeat' constructor)
        exact ⟨⟨hs1, hin, fun hh => of_decide_eq_false h hh.2⟩, rfl, rfl, rfl, rfl, rfl, trivial⟩
    · repeat (refine stp rfl ?_ ?_;·repeat' constructor)
      have he : x.kind = -1 := by simpa using h
      exact ⟨⟨hs1, hin, fun hh => hh.1 he⟩, rfl, rfl, rfl, rfl, rfl, trivial⟩
  rintro ⟨hs1, hin, hf⟩ s
  rw [if_neg hs1, if_pos hin, if_neg hf] at it
  repeat (refine stp rfl ?_ ?_;·repeat' constructor)
  refine pw_loop (ClearE x.after fun _ s => afterE w x s) (fun k => [(2, .sl ((w.items.map (·.name)).map eS)), (4, .ptr 4 1 0 0), (91, .sl (x.after.map eS)), (92, I x.after.length), (93, I k)]) (fun _ => [(4, 1, ⟨69, 7, [eItem x], 2⟩)]) (fun k => x.after.length - k) 0 .zero' ⟨rfl, rfl, rfl, ?_, rfl, rfl, trivial⟩ ?_
  · show I ((x.after.map eS).length) = _
    simp
  intro k s hk
  repeat (refine stp rfl ?_ ?_;·repeat' constructor)
  refine pw_cond rfl (fun h => ?_) (fun h => ?_)
  · have hlt : k < x.after.length := by simpa using h
    obtain ⟨m, hx⟩ := get_lt hlt
    clear h
    have bad : ∀ e, afterE w x m = e → e ≠ 0 → itemE w x = e := fun e hb he => by
      rw [it, hk.found (e := e) hx hb he]
    repeat (refine stp rfl ?_ ?_;·repeat' constructor)
    apply qst;exact rfl;exact rfl;exact q_idxm rfl rfl rfl rfl rfl (by omega) hx rfl
    repeat (refine stp rfl ?_ ?_;·repeat' constructor)
    apply qst;exact rfl;exact rfl;exact q_callP rfl (contains_ret (w.items.map (·.name)) m (by simpa using h3)) rfl (by repeat' constructor) rfl rfl
    repeat (refine stp rfl ?_ ?_;·repeat' constructor)
    refine pw_cond rfl (fun h => ?_) (fun h => ?_)
    · repeat (refine stp rfl ?_ ?_;·repeat' constructor)
      exact end1i rfl rfl (by rw [bad 6 _ (by omega)]; rw [afterE, if_neg]; simp_all)
    have hc : (w.items.map (·.name)).any (· == m) = true := by simpa using h
    repeat (refine stp rfl ?_ ?_;·repeat' constructor)
    refine pw_cond rfl (fun h => ?_) (fun h => ?_)
    · repeat (refine stp rfl ?_ ?_;·repeat' constructor)
      exact end1i rfl rfl (by rw [bad 3 _ (by omega)]; rw [afterE, if_pos hc, if_pos (of_decide_eq_true h)])
    · repeat (refine stp rfl ?_ ?_;·repeat' constructor)
      refine ⟨k + 1, hk.succ hx (by rw [afterE, if_pos hc, if_neg (of_decide_eq_false h)]), by omega, rfl, rfl, rfl, rfl, ?_, rfl, trivial⟩
      exact i64_next (by omega) (by omega)
  · repeat (refine stp rfl ?_ ?_;·repeat' constructor)
    exact end1i rfl rfl (by rw [it, hk.none (by simpa using h)])
end Go.Pv

/- Checks of trades, spaces and rules: the document's. -/
set_option maxHeartbeats 2000000
namespace Go.Pv
attribute [local irreducible] PWP POps PQuiet PSem XThen XBlock RetPost InlPost
open Go.Proofs

theorem noSpace_idx (w : SWork) (n : Str) : decide (idx w.spaces (·.name == n) < 0) = noSpace w n := by
  rw [idx_neg, noSpace, List.any_map]; rfl
def tradesE (w : SWork) : Int := if 6 < w.trades.length then 8 else fstE w.trades fun i t => if isName t.name then (if idx w.trades (·.name == t.name) = i then tradeE t else 5) else 4
def spacesE (w : SWork) : Int := if 12 < w.spaces.length then 8 else fstE w.spaces fun i x => if isName x.name then (if idx w.spaces (·.name == x.name) = i then spaceE w x else 5) else 4
/-- The errors of spaces and rules. -/
def roomE (w : SWork) : Int := if spacesE w = 0 then rulesE w else spacesE w

theorem checkTrades_ret (w : SWork) (hw : w.trades.length ≤ 1000000) : Ret Tryz.prog .shared 35 [.agg (eWork w)] (I (tradesE w)) := by
  refine Ret.of_pwp layOk mixed Go.Proofs.Tryz.func35 rfl (by decide) rfl rfl ?_
  repeat (refine stp rfl ?_ ?_;·repeat' constructor)
  have hml : ((w.trades.map eTrade).length : Int) = w.trades.length := by simp
  refine pw_cond rfl (fun h => ?_) (fun h => ?_)
  · repeat (refine stp rfl ?_ ?_;·repeat' constructor)
    exact end1i rfl rfl (by have h' := of_decide_eq_true h; rw [tradesE, if_pos]; omega)
  have hl : ¬ 6 < w.trades.length := by have h' := of_decide_eq_false h; omega
  clear h
  repeat (refine stp rfl ?_ ?_;·repeat' constructor)
  refine pw_loop (ClearE w.trades fun i t => if isName t.name then (if idx w.trades (·.name == t.name) = i then tradeE t else 5) else 4) (fun k => [(1, .ptr 1 1 0 0), (3, I k)]) (fun _ => [(1, 1, ⟨28, 9, [eWork w], 2⟩)]) (fun k => w.trades.length - k) 0 .zero' ⟨rfl, rfl, rfl, trivial⟩ ?_
  intro k s hk
  repeat (refine stp rfl ?_ ?_;·repeat' constructor)
  refine pw_cond rfl (fun h => ?_) (fun h => ?_)
  · have hlt : k < w.trades.length := by simpa using h
    obtain ⟨x, hx⟩ := get_lt hlt
    clear h
    have bad : ∀ e, (if isName x.name then (if idx w.trades (·.name == x.name) = k then tradeE x else 5) else 4) = e → e ≠ 0 → tradesE w = e := fun e hb he => by
      rw [tradesE, if_neg hl, hk.found (e := e) hx hb he]
    repeat (refine stp rfl ?_ ?_;·repeat' constructor)
    apply qst;exact rfl;exact rfl;exact q_idxm rfl rfl rfl rfl rfl (by omega) hx rfl
    repeat (refine stp rfl ?_ ?_;·repeat' constructor)
    apply qst;exact rfl;exact rfl;exact q_callP rfl (isName_ref x.name) rfl (by repeat' constructor) rfl rfl
    repeat (refine stp rfl ?_ ?_;·repeat' constructor)
    refine pw_cond rfl (fun h => ?_) (fun h => ?_)
    · have hn : ¬ isName x.name = true := by simpa using h
      repeat (refine stp rfl ?_ ?_;·repeat' constructor)
      exact end1i rfl rfl (by rw [bad 4 (if_neg hn) (by omega)])
    have hn : isName x.name = true := by simpa using h
    repeat (refine stp rfl ?_ ?_;·repeat' constructor)
    apply qst;exact rfl;exact rfl;exact q_callP rfl (tradeOf_ret w x.name hw) rfl (by repeat' constructor) rfl rfl
    repeat (refine stp rfl ?_ ?_;·repeat' constructor)
    refine pw_cond rfl (fun h => ?_) (fun h => ?_)
    · have hi : ¬ idx w.trades (·.name == x.name) = k := by simpa using h
      repeat (refine stp rfl ?_ ?_;·repeat' constructor)
      exact end1i rfl rfl (by rw [bad 5 (by rw [if_pos hn, if_neg hi]) (by omega)])
    have hi : idx w.trades (·.name == x.name) = k := by simpa using h
    have own : (if isName x.name then (if idx w.trades (·.name == x.name) = k then tradeE x else 5) else 4) = tradeE x := by rw [if_pos hn, if_pos hi]
    repeat (refine stp rfl ?_ ?_;·repeat' constructor)
    apply qst;exact rfl;exact rfl;exact q_callP rfl (inside_ret x.crew 0 1000) rfl (by repeat' constructor) rfl rfl
    repeat (refine stp rfl ?_ ?_;·repeat' constructor)
    (first | refine ps_split rfl rfl (fun h => ?_) (fun h => ?_) | refine pq_split rfl rfl (fun h => ?_) (fun h => ?_) | refine p3_split rfl rfl (fun h => ?_) (fun h => ?_))
    · repeat (refine stp rfl ?_ ?_;·repeat' constructor)
      exact end1i rfl rfl (by rw [bad 2 _ (by omega)]; rw [own, tradeE, if_neg]; simp_all)
    have hc : inside x.crew 0 1000 = true := by simpa using h
    repeat (refine stp rfl ?_ ?_;·repeat' constructor)
    apply qst;exact rfl;exact rfl;exact q_callP rfl (inside_ret x.rate 0 1000000) rfl (by repeat' constructor) rfl rfl
    repeat (refine stp rfl ?_ ?_;·repeat' constructor)
    refine pw_cond rfl (fun h => ?_) (fun h => ?_)
    · repeat (refine stp rfl ?_ ?_;·repeat' constructor)
      exact end1i rfl rfl (by rw [bad 2 _ (by omega)]; rw [own, tradeE, if_neg]; simp_all)
    have hr : inside x.rate 0 1000000 = true := by simpa using h
    repeat (refine stp rfl ?_ ?_;·repeat' constructor)
    refine ⟨k + 1, hk.succ hx (own.trans (by rw [tradeE, hc, hr]; rfl)), by omega, rfl, ?_, rfl, trivial⟩
    exact i64_next (by omega) (by omega)
  · repeat (refine stp rfl ?_ ?_;·repeat' constructor)
    exact end1i rfl rfl (by rw [tradesE, if_neg hl, hk.none (by simpa using h)])

theorem checkSpaces_ret (w : SWork) (hw : w.spaces.length ≤ 1000000) (hn : ∀ x ∈ w.spaces, x.next.length ≤ 1000000) : Ret Tryz.prog .shared 36 [.agg (eWork w)] (I (roomE w)) := by
  refine Ret.of_pwp layOk mixed Go.Proofs.Tryz.func36 rfl (by decide) rfl rfl ?_
  repeat (refine stp rfl ?_ ?_;·repeat' constructor)
  have hml : ((w.spaces.map eSpace).length : Int) = w.spaces.length := by simp
  refine pw_cond rfl (fun h => ?_) (fun h => ?_)
  · repeat (refine stp rfl ?_ ?_;·repeat' constructor)
    exact end1i rfl rfl (by have h' := of_decide_eq_true h; have : spacesE w = 8 := (by rw [spacesE, if_pos]; omega); rw [roomE, this]; rfl)
  have hl : ¬ 12 < w.spaces.length := by have h' := of_decide_eq_false h; omega
  clear h
  repeat (refine stp rfl ?_ ?_;·repeat' constructor)
  refine pw_loop (ClearE w.spaces fun i x => if isName x.name then (if idx w.spaces (·.name == x.name) = i then spaceE w x else 5) else 4) (fun k => [(1, .ptr 1 1 0 0), (3, I k)]) (fun _ => [(1, 1, ⟨28, 9, [eWork w], 2⟩)]) (fun k => w.spaces.length - k) 0 .zero' ⟨rfl, rfl, rfl, trivial⟩ ?_
  intro k s hk
  repeat (refine stp rfl ?_ ?_;·repeat' constructor)
  refine pw_cond rfl (fun h => ?_) (fun h => ?_)
  · have hlt : k < w.spaces.length := by simpa using h
    obtain ⟨x, hx⟩ := get_lt hlt
    clear h
    have bad : ∀ e, (if isName x.name then (if idx w.spaces (·.name == x.name) = k then spaceE w x else 5) else 4) = e → e ≠ 0 → roomE w = e := fun e hb he => by
      have : spacesE w = e := by rw [spacesE, if_neg hl, hk.found (e := e) hx hb he]
      rw [roomE, this, if_neg he]
    have hxn := hn x (List.mem_of_getElem? hx)
    repeat (refine stp rfl ?_ ?_;·repeat' constructor)
    apply qst;exact rfl;exact rfl;exact q_idxm rfl rfl rfl rfl rfl (by omega) hx rfl
    repeat (refine stp rfl ?_ ?_;·repeat' constructor)
    apply qst;exact rfl;exact rfl;exact q_callP rfl (isName_ref x.name) rfl (by repeat' constructor) rfl rfl
    repeat (refine stp rfl ?_ ?_;·repeat' constructor)
    refine pw_cond rfl (fun h => ?_) (fun h => ?_)
    · have hn : ¬ isName x.name = true := by simpa using h
      repeat (refine stp rfl ?_ ?_;·repeat' constructor)
      exact end1i rfl rfl (by rw [bad 4 (if_neg hn) (by omega)])
    have hn : isName x.name = true := by simpa using h
    repeat (refine stp rfl ?_ ?_;·repeat' constructor)
    apply qst;exact rfl;exact rfl;exact q_callP rfl (spaceOf_ret w x.name hw) rfl (by repeat' constructor) rfl rfl
    repeat (refine stp rfl ?_ ?_;·repeat' constructor)
    refine pw_cond rfl (fun h => ?_) (fun h => ?_)
    · have hi : ¬ idx w.spaces (·.name == x.name) = k := by simpa using h
      repeat (refine stp rfl ?_ ?_;·repeat' constructor)
      exact end1i rfl rfl (by rw [bad 5 (by rw [if_pos hn, if_neg hi]) (by omega)])
    have hi : idx w.spaces (·.name == x.name) = k := by simpa using h
    have own : (if isName x.name then (if idx w.spaces (·.name == x.name) = k then spaceE w x else 5) else 4) = spaceE w x := by rw [if_pos hn, if_pos hi]
    repeat (refine stp rfl ?_ ?_;·repeat' constructor)
    refine pw_loop (Clear x.next (noSpace w)) (fun j => [(1, .ptr 1 1 0 0), (3, I k), (4, .ptr 4 ((s.own 4).1 + 1) 0 0), (5, I j)]) (fun _ => [(1, 1, ⟨28, 9, [eWork w], 2⟩), (4, (s.own 4).1 + 1, ⟨66, 3, [eSpace x], 2⟩)]) (fun j => x.next.length - j) 0 .zero ⟨rfl, rfl, rfl, rfl, rfl, rfl, trivial⟩ ?_
    clear h
    intro j s' hj
    repeat (refine stp rfl ?_ ?_;·repeat' constructor)
    refine pw_cond rfl (fun h => ?_) (fun h => ?_)
    · have hlt' : j < x.next.length := by simpa using h
      obtain ⟨y, hy⟩ := get_lt hlt'
      clear h
      repeat (refine stp rfl ?_ ?_;·repeat' constructor)
      refine pw_draw 8 [43, 44, 45, 46, 47, 48, 49, 50] (by decide +kernel) ?_
      repeat (refine stp rfl ?_ ?_;·repeat' constructor)
      apply qst;exact rfl;exact rfl;exact q_idxm rfl rfl rfl rfl rfl (by omega) hy rfl
      repeat (refine stp rfl ?_ ?_;·repeat' constructor)
      apply qst;exact rfl;exact rfl;exact q_callP rfl (spaceOf_ret w y hw) rfl (by repeat' constructor) rfl rfl
      repeat (refine stp rfl ?_ ?_;·repeat' constructor)
      rw [noSpace_idx]
      refine pw_cond rfl (fun h => ?_) (fun h => ?_)
      · repeat (refine stp rfl ?_ ?_;·repeat' constructor)
        exact end1i rfl rfl (by rw [bad 6 _ (by omega)]; rw [own, spaceE, if_pos (any_of hy h)])
      · repeat (refine stp rfl ?_ ?_;·repeat' constructor)
        refine ⟨j + 1, hj.succ hy h, by omega, rfl, rfl, rfl, ?_, rfl, rfl, trivial⟩
        exact i64_next (by omega) (by omega)
    · have hz : spaceE w x = 0 := by rw [spaceE, hj.any (by simpa using h)]; rfl
      repeat (refine stp rfl ?_ ?_;·repeat' constructor)
      refine ⟨k + 1, hk.succ hx (own.trans hz), by omega, rfl, ?_, rfl, trivial⟩
      exact i64_next (by omega) (by omega)
  have hz : spacesE w = 0 := by rw [spacesE, if_neg hl, hk.none (by simpa using h)]
  have he : roomE w = rulesE w := by rw [roomE, if_pos hz]
  rw [he]
  clear h hk hl hml he hz
  repeat (refine stp rfl ?_ ?_;·repeat' constructor)
  have hml : ((w.excls.map eExcl).length : Int) = w.excls.length := by simp
  refine pw_cond rfl (fun h => ?_) (fun h => ?_)
  · repeat (refine stp rfl ?_ ?_;·repeat' constructor)
    exact end1i rfl rfl (by have h' := of_decide_eq_true h; rw [rulesE, if_pos (by omega)])
  have hl : ¬ 30 < w.excls.length := by have h' := of_decide_eq_false h; omega
  clear h
  repeat (refine stp rfl ?_ ?_;·repeat' constructor)
  refine pw_loop (ClearE w.excls fun _ x => exclE x) (fun k => [(1, .ptr 1 1 0 0), (6, I k)]) (fun _ => [(1, 1, ⟨28, 9, [eWork w], 2⟩)]) (fun k => w.excls.length - k) 0 .zero' ⟨rfl, rfl, rfl, trivial⟩ ?_
  intro k s hk
  repeat (refine stp rfl ?_ ?_;·repeat' constructor)
  refine pw_cond rfl (fun h => ?_) (fun h => ?_)
  · have hlt : k < w.excls.length := by simpa using h
    obtain ⟨x, hx⟩ := get_lt hlt
    clear h
    have bad : exclE x = 2 → rulesE w = 2 := fun hb => by
      have := hk.found (e := 2) hx hb (by omega)
      rw [rulesE, if_neg hl, this]; rfl
    repeat (refine stp rfl ?_ ?_;·repeat' constructor)
    apply qst;exact rfl;exact rfl;exact q_idxm rfl rfl rfl rfl rfl (by omega) hx rfl
    repeat (refine stp rfl ?_ ?_;·repeat' constructor)
    apply qst;exact rfl;exact rfl;exact q_callP rfl (inside_ret x.a 0 5) rfl (by repeat' constructor) rfl rfl
    repeat (refine stp rfl ?_ ?_;·repeat' constructor)
    (first | refine ps_split rfl rfl (fun h => ?_) (fun h => ?_) | refine pq_split rfl rfl (fun h => ?_) (fun h => ?_) | refine p3_split rfl rfl (fun h => ?_) (fun h => ?_))
    · repeat (refine stp rfl ?_ ?_;·repeat' constructor)
      exact end1i rfl rfl (by rw [bad]; simp_all [exclE])
    have ha := h
    repeat (refine stp rfl ?_ ?_;·repeat' constructor)
    apply qst;exact rfl;exact rfl;exact q_callP rfl (inside_ret x.b 0 5) rfl (by repeat' constructor) rfl rfl
    repeat (refine stp rfl ?_ ?_;·repeat' constructor)
    (first | refine ps_split rfl rfl (fun h => ?_) (fun h => ?_) | refine pq_split rfl rfl (fun h => ?_) (fun h => ?_) | refine p3_split rfl rfl (fun h => ?_) (fun h => ?_))
    · repeat (refine stp rfl ?_ ?_;·repeat' constructor)
      exact end1i rfl rfl (by rw [bad]; simp_all [exclE])
    have hb := h
    repeat (refine stp rfl ?_ ?_;·repeat' constructor)
    apply qst;exact rfl;exact rfl;exact q_callP rfl (inside_ret x.reach 0 2) rfl (by repeat' constructor) rfl rfl
    repeat (refine stp rfl ?_ ?_;·repeat' constructor)
    refine pw_cond rfl (fun h => ?_) (fun h => ?_)
    · repeat (refine stp rfl ?_ ?_;·repeat' constructor)
      exact end1i rfl rfl (by rw [bad]; simp_all [exclE])
    · repeat (refine stp rfl ?_ ?_;·repeat' constructor)
      refine ⟨k + 1, hk.succ hx (by simp_all [exclE]), by omega, rfl, ?_, rfl, trivial⟩
      exact i64_next (by omega) (by omega)
  have hz : fstE w.excls (fun _ x => exclE x) = 0 := hk.none (by simpa using h)
  clear h hk hml
  repeat (refine stp rfl ?_ ?_;·repeat' constructor)
  have hml : ((w.outs.map eOut).length : Int) = w.outs.length := by simp
  refine pw_cond rfl (fun h => ?_) (fun h => ?_)
  · repeat (refine stp rfl ?_ ?_;·repeat' constructor)
    exact end1i rfl rfl (by have h' := of_decide_eq_true h; rw [rulesE, if_neg hl, if_pos hz, if_pos (by omega)])
  have hl2 : ¬ 20 < w.outs.length := by have h' := of_decide_eq_false h; omega
  repeat (refine stp rfl ?_ ?_;·repeat' constructor)
  refine pw_loop (ClearE w.outs fun _ x => outE x) (fun k => [(1, .ptr 1 1 0 0), (8, I k)]) (fun _ => [(1, 1, ⟨28, 9, [eWork w], 2⟩)]) (fun k => w.outs.length - k) 0 .zero' ⟨rfl, rfl, rfl, trivial⟩ ?_
  intro k s hk
  repeat (refine stp rfl ?_ ?_;·repeat' constructor)
  refine pw_cond rfl (fun h => ?_) (fun h => ?_)
  · have hlt : k < w.outs.length := by simpa using h
    obtain ⟨x, hx⟩ := get_lt hlt
    clear h
    have bad : ∀ e, outE x = e → e ≠ 0 → rulesE w = e := fun e hb he => by
      have := hk.found (e := e) hx hb he
      rw [rulesE, if_neg hl, if_pos hz, if_neg hl2, this]
    repeat (refine stp rfl ?_ ?_;·repeat' constructor)
    apply qst;exact rfl;exact rfl;exact q_idxm rfl rfl rfl rfl rfl (by omega) hx rfl
    repeat (refine stp rfl ?_ ?_;·repeat' constructor)
    apply qst;exact rfl;exact rfl;exact q_callP rfl (inside_ret x.frm 0 400) rfl (by repeat' constructor) rfl rfl
    repeat (refine stp rfl ?_ ?_;·repeat' constructor)
    (first | refine ps_split rfl rfl (fun h => ?_) (fun h => ?_) | refine pq_split rfl rfl (fun h => ?_) (fun h => ?_) | refine p3_split rfl rfl (fun h => ?_) (fun h => ?_))
    · repeat (refine stp rfl ?_ ?_;·repeat' constructor)
      exact end1i rfl rfl (by rw [bad 2 _ (by omega)]; simp_all [outE])
    have ha := h
    repeat (refine stp rfl ?_ ?_;·repeat' constructor)
    apply qst;exact rfl;exact rfl;exact q_callP rfl (inside_ret x.to 0 400) rfl (by repeat' constructor) rfl rfl
    repeat (refine stp rfl ?_ ?_;·repeat' constructor)
    refine pw_cond rfl (fun h => ?_) (fun h => ?_)
    · repeat (refine stp rfl ?_ ?_;·repeat' constructor)
      exact end1i rfl rfl (by rw [bad 2 _ (by omega)]; simp_all [outE])
    have hb := h
    repeat (refine stp rfl ?_ ?_;·repeat' constructor)
    refine pw_cond rfl (fun h => ?_) (fun h => ?_)
    · repeat (refine stp rfl ?_ ?_;·repeat' constructor)
      exact end1i rfl rfl (by rw [bad 10 _ (by omega)]; simp_all [outE])
    · repeat (refine stp rfl ?_ ?_;·repeat' constructor)
      refine ⟨k + 1, hk.succ hx (by simp_all [outE]), by omega, rfl, ?_, rfl, trivial⟩
      exact i64_next (by omega) (by omega)
  · repeat (refine stp rfl ?_ ?_;·repeat' constructor)
    exact end1i rfl rfl (by rw [rulesE, if_neg hl, if_pos hz, if_neg hl2, hk.none (by simpa using h)])
end Go.Pv

/- The check of an item: the document's. -/
set_option maxHeartbeats 2000000
namespace Go.Pv
attribute [local irreducible] PWP POps PQuiet PSem XThen XBlock RetPost InlPost
open Go.Proofs

theorem noItem_idx (w : SWork) (n : Str) : decide (idx w.items (·.name == n) < 0) = !(w.items.map (·.name)).any (· == n) := by
  rw [idx_neg, List.any_map]; rfl

theorem checkItem_ret (w : SWork) (x : SItem) (h1 : w.trades.length ≤ 1000000) (h2 : w.spaces.length ≤ 1000000) (h3 : w.items.length ≤ 1000000) (h4 : x.after.length ≤ 1000000) :
    Ret Tryz.prog .shared 39 [.agg (eWork w), .agg (eItem x)] (I (itemE w x)) := by
  have hml : ((x.modes.map eMode).length : Int) = x.modes.length := by simp
  refine Ret.of_pwp layOk mixed Go.Proofs.Tryz.func39 rfl (by decide) rfl rfl ?_
  repeat (refine stp rfl ?_ ?_;·repeat' constructor)
  apply qst;exact rfl;exact rfl;exact q_callP rfl (tradeOf_ret w x.trade h1) rfl (by repeat' constructor) rfl rfl
  repeat (refine stp rfl ?_ ?_;·repeat' constructor)
  refine pw_cond rfl (fun h => ?_) (fun h => ?_)
  · repeat (refine stp rfl ?_ ?_;·repeat' constructor)
    exact end1i rfl rfl (by rw [itemE, if_pos (of_decide_eq_true h)])
  have ht : ¬ idx w.trades (·.name == x.trade) < 0 := of_decide_eq_false h
  clear h
  obtain ⟨t, htr, _⟩ := idx_lt (Int.not_lt.1 ht)
  have hcrew : crewOf w x = t.crew := by rw [crewOf, htr]
  have it : itemE w x = itemE w x := rfl
  conv at it => rhs; rw [itemE, if_neg ht]
  repeat (refine stp rfl ?_ ?_;·repeat' constructor)
  (first | refine ps_split rfl rfl (fun h => ?_) (fun h => ?_) | refine pq_split rfl rfl (fun h => ?_) (fun h => ?_) | refine p3_split rfl rfl (fun h => ?_) (fun h => ?_))
  · repeat (refine stp rfl ?_ ?_;·repeat' constructor)
    exact end1i rfl rfl (by have h' := of_decide_eq_true h; rw [it, if_pos]; rw [Bool.or_eq_true]; exact .inl (decide_eq_true (by omega)))
  have hm1 := of_decide_eq_false h
  repeat (refine stp rfl ?_ ?_;·repeat' constructor)
  refine pw_cond rfl (fun h => ?_) (fun h => ?_)
  · repeat (refine stp rfl ?_ ?_;·repeat' constructor)
    exact end1i rfl rfl (by have h' := of_decide_eq_true h; rw [it, if_pos]; rw [Bool.or_eq_true]; exact .inr (decide_eq_true (by omega)))
  have hm2 := of_decide_eq_false h
  have hm : ¬ (decide (x.modes.length < 1) || decide (3 < x.modes.length)) = true := by
    rw [Bool.or_eq_true, decide_eq_true_eq, decide_eq_true_eq]; omega
  clear h hm1
  rw [if_neg hm] at it
  repeat (refine stp rfl ?_ ?_;·repeat' constructor)
  refine pw_loop (ClearE x.modes fun _ m => modeE (crewOf w x) m) (fun k => [(2, .ptr 2 1 0 0), (3, .ptr 3 1 0 0), (5, I (idx w.trades (·.name == x.trade))), (6, I k)]) (fun _ => [(2, 1, ⟨28, 9, [eWork w], 2⟩), (3, 1, ⟨69, 7, [eItem x], 2⟩)]) (fun k => x.modes.length - k) 0 .zero' ⟨rfl, rfl, rfl, rfl, rfl, rfl, trivial⟩ ?_
  intro k s hk
  repeat (refine stp rfl ?_ ?_;·repeat' constructor)
  refine pw_cond rfl (fun h => ?_) (fun h => ?_)
  · have hlt : k < x.modes.length := by simpa using h
    obtain ⟨m, hx⟩ := get_lt hlt
    clear h
    have bad : ∀ e, modeE t.crew m = e → e ≠ 0 → itemE w x = e := fun e hb he => by
      have := hk.found (e := e) hx (by rw [hcrew]; exact hb) he
      rw [it, this, if_neg he]
    repeat (refine stp rfl ?_ ?_;·repeat' constructor)
    apply qst;exact rfl;exact rfl;exact q_idxm rfl rfl rfl rfl rfl (by omega) hx rfl
    repeat (refine stp rfl ?_ ?_;·repeat' constructor)
    apply qst;exact rfl;exact rfl;exact q_callP rfl (inside_ret m.days 1 60) rfl (by repeat' constructor) rfl rfl
    repeat (refine stp rfl ?_ ?_;·repeat' constructor)
    (first | refine ps_split rfl rfl (fun h => ?_) (fun h => ?_) | refine pq_split rfl rfl (fun h => ?_) (fun h => ?_) | refine p3_split rfl rfl (fun h => ?_) (fun h => ?_))
    · repeat (refine stp rfl ?_ ?_;·repeat' constructor)
      exact end1i rfl rfl (by rw [bad 2 _ (by omega)]; rw [modeE, if_neg]; simp_all)
    have hd : inside m.days 1 60 = true := by simpa using h
    repeat (refine stp rfl ?_ ?_;·repeat' constructor)
    apply qst;exact rfl;exact rfl;exact q_callP rfl (inside_ret m.crew 0 1000) rfl (by repeat' constructor) rfl rfl
    repeat (refine stp rfl ?_ ?_;·repeat' constructor)
    refine pw_cond rfl (fun h => ?_) (fun h => ?_)
    · repeat (refine stp rfl ?_ ?_;·repeat' constructor)
      exact end1i rfl rfl (by rw [bad 2 _ (by omega)]; rw [modeE, if_neg]; simp_all)
    have hc : inside m.crew 0 1000 = true := by simpa using h
    repeat (refine stp rfl ?_ ?_;·repeat' constructor)
    refine pw_draw 9 [47, 48, 49, 50, 51, 52, 53, 54, 55] (by decide +kernel) ?_
    repeat (refine stp rfl ?_ ?_;·repeat' constructor)
    apply qst;exact rfl;exact rfl;exact q_idxm rfl rfl rfl rfl rfl (by omega) htr rfl
    repeat (refine stp rfl ?_ ?_;·repeat' constructor)
    refine pw_cond rfl (fun h => ?_) (fun h => ?_)
    · repeat (refine stp rfl ?_ ?_;·repeat' constructor)
      exact end1i rfl rfl (by rw [bad 23 _ (by omega)]; rw [modeE, if_pos (by rw [hd, hc]; rfl), if_pos (of_decide_eq_true h)])
    · repeat (refine stp rfl ?_ ?_;·repeat' constructor)
      refine ⟨k + 1, hk.succ hx (by rw [hcrew, modeE, if_pos (by rw [hd, hc]; rfl), if_neg (of_decide_eq_false h)]), by omega, rfl, rfl, rfl, ?_, rfl, rfl, trivial⟩
      exact i64_next (by omega) (by omega)
  have hz := hk.none (by simpa using h)
  rw [if_pos hz] at it
  clear h hk hml
  repeat (first | refine pw_exit ?_ | refine pw_skip ?_ | refine x_norm ?_ | refine x_exit ?_ | refine xb_norm ?_ | refine xb_here ?_ | refine xb_away rfl ?_)
  refine pw_seq ?_
  refine pw_cutP True [(65, .bool (!decide (x.space = []) && noSpace w x.space)), (2, .ptr 2 1 0 0), (3, .ptr 3 1 0 0)] [(2, 1, ⟨28, 9, [eWork w], 2⟩), (3, 1, ⟨69, 7, [eItem x], 2⟩)] ?_ ?_
  · repeat (refine stp rfl ?_ ?_;·repeat' constructor)
    (first | refine ps_split rfl rfl (fun h => ?_) (fun h => ?_) | refine pq_split rfl rfl (fun h => ?_) (fun h => ?_) | refine p3_split rfl rfl (fun h => ?_) (fun h => ?_))
    · repeat (refine stp rfl ?_ ?_;·repeat' constructor)
      apply qst;exact rfl;exact rfl;exact q_callP rfl (spaceOf_ret w x.space h2) rfl (by repeat' constructor) rfl rfl
      repeat (refine stp rfl ?_ ?_;·repeat' constructor)
      refine ⟨trivial, ?_, rfl, rfl, rfl, rfl, trivial⟩
      rw [h, ← noSpace_idx]; rfl
    · repeat (refine stp rfl ?_ ?_;·repeat' constructor)
      refine ⟨trivial, ?_, rfl, rfl, rfl, rfl, trivial⟩
      rw [h]; rfl
  intro _ s
  repeat (refine stp rfl ?_ ?_;·repeat' constructor)
  refine pw_cond rfl (fun h => ?_) (fun h => ?_)
  · repeat (refine stp rfl ?_ ?_;·repeat' constructor)
    exact end1i rfl rfl (by rw [it, if_pos]; simpa using h)
  have hs1 : ¬ (x.space ≠ [] ∧ noSpace w x.space = true) := by
    intro hh; rw [hh.2] at h; simp [hh.1] at h
  clear h
  rw [if_neg hs1] at it
  repeat (refine stp rfl ?_ ?_;·repeat' constructor)
  apply qst;exact rfl;exact rfl;exact q_callP rfl (inside_ret x.kind (-1) 5) rfl (by repeat' constructor) rfl rfl
  repeat (refine stp rfl ?_ ?_;·repeat' constructor)
  refine pw_cond rfl (fun h => ?_) (fun h => ?_)
  · have hin : ¬ inside x.kind (-1) 5 = true := by simpa using h
    repeat (refine stp rfl ?_ ?_;·repeat' constructor)
    exact end1i rfl rfl (by rw [it, if_neg hin])
  have hin : inside x.kind (-1) 5 = true := by simpa using h
  rw [if_pos hin] at it
  clear h
  repeat (first | refine pw_exit ?_ | refine pw_skip ?_ | refine x_norm ?_ | refine x_exit ?_ | refine xb_norm ?_ | refine xb_here ?_ | refine xb_away rfl ?_)
  refine pw_seq ?_
  refine pw_cutP True [(77, .bool (!decide (x.kind = -1) && decide (x.space = []))), (2, .ptr 2 1 0 0), (3, .ptr 3 1 0 0)] [(2, 1, ⟨28, 9, [eWork w], 2⟩), (3, 1, ⟨69, 7, [eItem x], 2⟩)] ?_ ?_
  · repeat (refine stp rfl ?_ ?_;·repeat' constructor)
    (first | refine ps_split rfl rfl (fun h => ?_) (fun h => ?_) | refine pq_split rfl rfl (fun h => ?_) (fun h => ?_) | refine p3_split rfl rfl (fun h => ?_) (fun h => ?_))
    · repeat (refine stp rfl ?_ ?_;·repeat' constructor)
      refine ⟨trivial, ?_, rfl, rfl, rfl, rfl, trivial⟩
      rw [h]; rfl
    · repeat (refine stp rfl ?_ ?_;·repeat' constructor)
      refine ⟨trivial, ?_, rfl, rfl, rfl, rfl, trivial⟩
      rw [h]; rfl
  intro _ s
  repeat (refine stp rfl ?_ ?_;·repeat' constructor)
  refine pw_cond rfl (fun h => ?_) (fun h => ?_)
  · repeat (refine stp rfl ?_ ?_;·repeat' constructor)
    exact end1i rfl rfl (by rw [it, if_pos]; simpa using h)
  have hf : ¬ (x.kind ≠ -1 ∧ x.space = []) := by intro hh; simp [hh.1, hh.2] at h
  rw [if_neg hf] at it
  clear h
  repeat (refine stp rfl ?_ ?_;·repeat' constructor)
  refine pw_loop (ClearE x.after fun _ s => afterE w x s) (fun k => [(2, .ptr 2 1 0 0), (3, .ptr 3 1 0 0), (8, I k)]) (fun _ => [(2, 1, ⟨28, 9, [eWork w], 2⟩), (3, 1, ⟨69, 7, [eItem x], 2⟩)]) (fun k => x.after.length - k) 0 .zero' ⟨rfl, rfl, rfl, rfl, rfl, trivial⟩ ?_
  intro k s hk
  repeat (refine stp rfl ?_ ?_;·repeat' constructor)
  refine pw_cond rfl (fun h => ?_) (fun h => ?_)
  · have hlt : k < x.after.length := by simpa using h
    obtain ⟨m, hx⟩ := get_lt hlt
    clear h
    have bad : ∀ e, afterE w x m = e → e ≠ 0 → itemE w x = e := fun e hb he => by
      rw [it, hk.found (e := e) hx hb he]
    repeat (refine stp rfl ?_ ?_;·repeat' constructor)
    refine pw_draw 8 [85, 86, 87, 88, 89, 90, 91, 92] (by decide +kernel) ?_
    repeat (refine stp rfl ?_ ?_;·repeat' constructor)
    apply qst;exact rfl;exact rfl;exact q_idxm rfl rfl rfl rfl rfl (by omega) hx rfl
    repeat (refine stp rfl ?_ ?_;·repeat' constructor)
    apply qst;exact rfl;exact rfl;exact q_callP rfl (itemOf_ret w m h3) rfl (by repeat' constructor) rfl rfl
    repeat (refine stp rfl ?_ ?_;·repeat' constructor)
    rw [noItem_idx]
    refine pw_cond rfl (fun h => ?_) (fun h => ?_)
    · repeat (refine stp rfl ?_ ?_;·repeat' constructor)
      exact end1i rfl rfl (by rw [bad 6 _ (by omega)]; rw [afterE, if_neg]; simp_all)
    have hc : (w.items.map (·.name)).any (· == m) = true := by simpa using h
    clear h
    repeat (refine stp rfl ?_ ?_;·repeat' constructor)
    refine pw_draw 8 [93, 94, 95, 96, 97, 98, 99, 100] (by decide +kernel) ?_
    repeat (refine stp rfl ?_ ?_;·repeat' constructor)
    apply qst;exact rfl;exact rfl;exact q_idxm rfl rfl rfl rfl rfl (by omega) hx rfl
    repeat (refine stp rfl ?_ ?_;·repeat' constructor)
    refine pw_cond rfl (fun h => ?_) (fun h => ?_)
    · repeat (refine stp rfl ?_ ?_;·repeat' constructor)
      exact end1i rfl rfl (by rw [bad 3 _ (by omega)]; rw [afterE, if_pos hc, if_pos (of_decide_eq_true h)])
    · repeat (refine stp rfl ?_ ?_;·repeat' constructor)
      refine ⟨k + 1, hk.succ hx (by rw [afterE, if_pos hc, if_neg (of_decide_eq_false h)]), by omega, rfl, rfl, ?_, rfl, rfl, trivial⟩
      exact i64_next (by omega) (by omega)
  · repeat (refine stp rfl ?_ ?_;·repeat' constructor)
    exact end1i rfl rfl (by rw [it, hk.none (by simpa using h)])
end Go.Pv

/- What has to end before each item: the program's. -/
set_option maxHeartbeats 2000000
namespace Go.Pv
attribute [local irreducible] PWP POps PQuiet PSem XThen XBlock RetPost InlPost
open Go.Proofs

def eL (l : List Int) : List PV := [.sl (l.map eI)]
/-- The items that an item comes after, by their places. -/
def aft (w : SWork) (x : SItem) : List Int := x.after.map fun s => idx (w.items.map (·.name)) (· == s)
def bef (w : SWork) : List (List Int) := w.items.map (aft w)
def befRows (w : SWork) (k : Nat) : List (List PV) := ((bef w).take k).map eL ++ List.replicate (w.items.length - k) [.nil]

theorem befRows_len (w : SWork) {k : Nat} (hk : k ≤ w.items.length) : (befRows w k).length = w.items.length := by
  simp [befRows, bef]; omega
theorem befRows_at (w : SWork) {k : Nat} (hk : k < w.items.length) : (befRows w k)[k]? = some [.nil] := by
  have h1 : (((bef w).take k).map eL).length = k := by simp [bef]; omega
  rw [befRows, List.getElem?_append_right (by omega), h1, Nat.sub_self, List.getElem?_replicate, if_pos (by omega)]
theorem befRows_set (w : SWork) {k : Nat} {x : SItem} (hx : w.items[k]? = some x) : (befRows w k).set k (eL (aft w x)) = befRows w (k + 1) := by
  have hk := (List.getElem?_eq_some_iff.1 hx).1
  have h1 : (((bef w).take k).map eL).length = k := by simp [bef]; omega
  have hb : (bef w)[k]? = some (aft w x) := by rw [bef, List.getElem?_map, hx]; rfl
  rw [befRows, befRows, List.set_append, if_neg (by omega), h1, Nat.sub_self, take_snoc hb, List.map_append, show w.items.length - k = (w.items.length - (k + 1)) + 1 by omega, List.replicate_succ, List.set_cons_zero, List.append_assoc]
  rfl
theorem befRows_all (w : SWork) : befRows w w.items.length = (bef w).map eL := by
  rw [befRows, Nat.sub_self, List.take_of_length_le (by simp [bef])]; simp
theorem befRows_updown (w : SWork) (k : Nat) : ((befRows w k).map (·.map up0)).map (·.map (nrm 0)) = befRows w k := by
  rw [List.map_map]
  conv => rhs; rw [← List.map_id (befRows w k)]
  apply List.map_congr_left
  intro row hr
  rw [befRows] at hr
  rcases List.mem_append.1 hr with h | h
  · obtain ⟨l, _, rfl⟩ := List.mem_map.1 h; rfl
  · rw [List.eq_of_mem_replicate h]; rfl
theorem befRows_ok (w : SWork) (k : Nat) : ∀ row ∈ (befRows w k).map (·.map up0), row.all (kOk 0) = true := by
  intro row hr
  obtain ⟨row0, hr0, rfl⟩ := List.mem_map.1 hr
  rw [befRows] at hr0
  rcases List.mem_append.1 hr0 with h | h
  · obtain ⟨l, _, rfl⟩ := List.mem_map.1 h; rfl
  · rw [List.eq_of_mem_replicate h]; rfl

theorem before_ret (w : SWork) (h1 : w.items.length ≤ 100000) (h2 : ∀ x ∈ w.items, x.after.length ≤ 100000) : Ret Tryz.prog .shared 79 [.agg (eWork w)] (.sl ((bef w).map eL)) := by
  have hn : ((w.items.map (·.name)).map eS).length = w.items.length := by simp
  have hml : (w.items.map eItem).length = w.items.length := by simp
  refine Ret.of_pwp layOk mixed Go.Proofs.Tryz.func79 rfl (by decide) rfl rfl ?_
  repeat (refine stp rfl ?_ ?_;·repeat' constructor)
  apply qst;exact rfl;exact rfl;exact q_call rfl (itemNames_ret w (by omega)) rfl (by repeat' constructor) rfl
  repeat (refine stp rfl ?_ ?_;·repeat' constructor)
  refine ps_run (o_make rfl rfl rfl rfl rfl rfl rfl rfl (by omega) (by rw [hn]; show ((24 : Nat) : Int) * _ ≤ _; omega) (by rw [hn]; omega) ?_)
  repeat (refine stp rfl ?_ ?_;·repeat' constructor)
  refine pw_loop (fun k => k ≤ w.items.length) (fun k => [(1, .ptr 1 1 0 0), (3, .sl ((w.items.map (·.name)).map eS)), (4, .als 13 1 0 w.items.length), (15, .sl (w.items.map eItem)), (16, I w.items.length), (17, I k)]) (fun k => [(1, 1, ⟨28, 9, [eWork w], 2⟩), (13, 1, ⟨36, 1, befRows w k, 0⟩)]) (fun k => w.items.length - k) 0 (Nat.zero_le _) ⟨rfl, rfl, ?_, rfl, ?_, rfl, rfl, ?_, trivial⟩ ?_
  · show PV.als 13 1 0 (List.length (List.replicate (Int.toNat ((w.items.map (·.name)).map eS).length) _)) = _
    simp
  · show I ((w.items.map eItem).length) = _
    rw [hml]
  · show (1, some (Cont.mk 36 1 (List.replicate (Int.toNat ((w.items.map (·.name)).map eS).length) _) 0)) = _
    simp [befRows]
  intro k s hk
  repeat (refine stp rfl ?_ ?_;·repeat' constructor)
  refine pw_cond rfl (fun h => ?_) (fun h => ?_)
  · have hlt : k < w.items.length := by simpa using h
    obtain ⟨x, hx⟩ := get_lt hlt
    clear h
    have hax : x.after.length ≤ 100000 := h2 x (List.mem_of_getElem? hx)
    have hml2 : (x.after.map eS).length = x.after.length := by simp
    repeat (refine stp rfl ?_ ?_;·repeat' constructor)
    apply qst;exact rfl;exact rfl;exact q_idxm rfl rfl rfl rfl rfl (by omega) hx rfl
    repeat (refine stp rfl ?_ ?_;·repeat' constructor)
    refine pw_ghost (Ghost.raise (k0 := 13) rfl rfl rfl) ?_
    refine pw_ghost (Ghost.nilcell (k := 39) (k0 := 13) (i := k) (j := 0) 3 1 0 rfl rfl rfl rfl (row := [.nil]) (by rw [List.getElem?_map, befRows_at w hlt]; rfl) rfl rfl) ?_
    refine pw_loop (fun j => j ≤ x.after.length) (fun j => [(1, .ptr 1 1 0 0), (3, .sl ((w.items.map (·.name)).map eS)), (4, .als 13 1 0 w.items.length), (5, I k), (15, .sl (w.items.map eItem)), (16, I w.items.length), (17, I k), (23, .sl (x.after.map eS)), (24, I x.after.length), (25, I j)])
      (fun j => [(1, 1, ⟨28, 9, [eWork w], 2⟩), (13, 1, ⟨36, 1, ((befRows w k).map (·.map up0)).set k [.als 39 ((s.own 39).1 + 1 + j) 0 (((aft w x).take j).map eI).length], 2⟩), (39, (s.own 39).1 + 1 + j, ⟨3, 1, ((aft w x).take j).map eI, 0⟩)]) (fun j => x.after.length - j) 0 (Nat.zero_le _) ⟨rfl, rfl, rfl, rfl, rfl, rfl, rfl, rfl, ?_, rfl, rfl, rfl, rfl, trivial⟩ ?_
    · show I ((x.after.map eS).length) = _
      rw [hml2]
    intro j s' hj
    have hset : ∀ c : List PV, (((befRows w k).map (·.map up0)).set k c)[k]? = some c := fun c => List.getElem?_set_self (by rw [List.length_map, befRows_len w hk]; exact hlt)
    repeat (refine stp rfl ?_ ?_;·repeat' constructor)
    refine pw_cond rfl (fun h => ?_) (fun h => ?_)
    · have hlt' : j < x.after.length := by simpa using h
      obtain ⟨y, hy⟩ := get_lt hlt'
      clear h
      have hay : (aft w x)[j]? = some (idx (w.items.map (·.name)) (· == y)) := by rw [aft, List.getElem?_map, hy]; rfl
      repeat (refine stp rfl ?_ ?_;·repeat' constructor)
      apply qst;exact rfl;exact rfl;exact q_idxm rfl rfl rfl rfl rfl (by omega) hy rfl
      repeat (refine stp rfl ?_ ?_;·repeat' constructor)
      refine pw_draw2 10 0 [29, 30, 31, 32, 33, 34, 35, 36, 37, 38] [0,1] (by decide +kernel) rfl ?_
      repeat (refine stp rfl ?_ ?_;·repeat' constructor)
      refine pq_q (q_idxA rfl rfl rfl rfl rfl rfl rfl (by omega) (by omega)) ?_
      rw [Nat.zero_add, Int.toNat_natCast]
      refine pq_q (q_ldp rfl rfl rfl (hset _) rfl) ?_
      repeat (refine stp rfl ?_ ?_;·repeat' constructor)
      apply qst;exact rfl;exact rfl;exact q_callP rfl (index_ret (w.items.map (·.name)) y (by simp; omega)) rfl (by repeat' constructor) rfl rfl
      repeat (refine stp rfl ?_ ?_;·repeat' constructor)
      apply qst;exact rfl;exact rfl;exact q_slit rfl rfl rfl rfl rfl rfl rfl rfl rfl rfl (by repeat' constructor) rfl
      repeat (refine stp rfl ?_ ?_;·repeat' constructor)
      refine ps_run (o_app 0 rfl rfl rfl rfl rfl rfl rfl rfl rfl rfl rfl (by repeat' constructor) (by intro row hr; simp at hr; subst hr; rfl) rfl rfl (by simp [aft]; omega) (by simp [aft]; omega) ?_)
      repeat (refine stp rfl ?_ ?_;·repeat' constructor)
      refine ps_q (q_idxA rfl rfl rfl rfl rfl rfl rfl (by omega) (by omega)) ?_
      rw [Nat.zero_add, Int.toNat_natCast]
      refine ps_run0 (o_store (kd' := 2) rfl rfl rfl (hset _) rfl rfl (by repeat' constructor) rfl rfl rfl rfl ?_)
      repeat (refine stp rfl ?_ ?_;·repeat' constructor)
      have hrows : ((aft w x).take (j + 1)).map eI = ((aft w x).take j).map eI ++ [eI (idx (w.items.map (·.name)) (· == y))] := by rw [take_snoc hay, List.map_append]; rfl
      refine ⟨j + 1, hlt', by omega, rfl, rfl, rfl, rfl, rfl, rfl, rfl, rfl, rfl, ?_, rfl, ?_, ?_, trivial⟩
      · exact i64_next (by omega) (by omega)
      · refine Eq.trans (b := (1, some (Cont.mk 36 1 ((((befRows w k).map (·.map up0)).set k [.als 39 ((s.own 39).1 + 1 + j) 0 (((aft w x).take j).map eI).length]).set k [.als 39 ((s.own 39).1 + 1 + j + 1) 0 (((aft w x).take j).map eI ++ [eI (idx (w.items.map (·.name)) (· == y))]).length]) 2))) rfl ?_
        rw [List.set_set, ← hrows]; rfl
      · rw [hrows]; rfl
    · have hge : j = x.after.length := by have := of_decide_eq_false h; omega
      subst hge
      have hta : (aft w x).take x.after.length = aft w x := by rw [List.take_of_length_le]; simp [aft]
      rw [hta]
      clear h
      repeat (first | refine pw_exit ?_ | refine pw_skip ?_ | refine x_norm ?_ | refine x_exit ?_ | refine xb_norm ?_ | refine xb_here ?_ | refine xb_away rfl ?_)
      refine pw_ghost (Ghost.freeze (k := 39) (k0 := 13) (i := k) (j := 0) rfl rfl rfl rfl rfl (hset _) rfl rfl rfl) ?_
      refine pw_ghost (Ghost.lower (k0 := 13) 0 rfl rfl rfl ?_) ?_
      · intro row hr
        replace hr : row ∈ (((befRows w k).map (·.map up0)).set k [.als 39 ((s.own 39).1 + 1 + x.after.length) 0 ((aft w x).map eI).length]).set k [.fsl ((aft w x).map eI)] := hr
        rw [List.set_set] at hr
        rcases List.mem_or_eq_of_mem_set hr with hr | rfl
        · exact befRows_ok w k row hr
        · rfl
      repeat (refine stp rfl ?_ ?_;·repeat' constructor)
      refine ⟨k + 1, hlt, by omega, rfl, rfl, rfl, rfl, rfl, ?_, rfl, ?_, trivial⟩
      · exact i64_next (by omega) (by omega)
      · refine Eq.trans (b := (1, some (Cont.mk 36 1 (((((befRows w k).map (·.map up0)).set k [.als 39 ((s.own 39).1 + 1 + x.after.length) 0 ((aft w x).map eI).length]).set k [.fsl ((aft w x).map eI)]).map (·.map (nrm 0))) 0))) rfl ?_
        rw [List.set_set, List.map_set, befRows_updown, ← befRows_set w hx]; rfl
  · have hge : k = w.items.length := by have := of_decide_eq_false h; omega
    subst hge
    repeat (refine stp rfl ?_ ?_;·repeat' constructor)
    exact end1 rfl rfl rfl ⟨rfl, rfl, (befRows_len w (Nat.le_refl _)).symm⟩ (by rw [befRows_all])
end Go.Pv

/- Searches of lists of numbers. -/
set_option maxHeartbeats 2000000
namespace Go.Pv
attribute [local irreducible] PWP POps PQuiet PSem XThen XBlock RetPost InlPost
open Go.Proofs

theorem indexI_ret (l : List Int) (n : Int) (hw : l.length ≤ 1000000) : Ret Tryz.prog .shared 83 [.sl (l.map eI), I n] (I (idx l (· == n))) := by
  refine Ret.of_pwp layOk mixed Go.Proofs.Tryz.func83 rfl (by decide) rfl rfl ?_
  repeat (refine stp rfl ?_ ?_;·repeat' constructor)
  refine pw_loop (Clear l (· == n)) (fun k => [(0, .sl (l.map eI)), (1, I n), (7, I l.length), (8, I k)]) (fun _ => []) (fun k => l.length - k) 0 .zero ⟨rfl, rfl, ?_, rfl, trivial⟩ ?_
  · show I ((l.map eI).length) = _
    simp
  intro k s hk
  repeat (refine stp rfl ?_ ?_;·repeat' constructor)
  refine pw_cond rfl (fun h => ?_) (fun h => ?_)
  · have hlt : k < l.length := by simpa using h
    obtain ⟨x, hx⟩ := get_lt hlt
    repeat (refine stp rfl ?_ ?_;·repeat' constructor)
    apply qst;exact rfl;exact rfl;exact q_idxm rfl rfl rfl rfl rfl (by omega) hx rfl
    repeat (refine stp rfl ?_ ?_;·repeat' constructor)
    refine pw_cond rfl (fun h => ?_) (fun h => ?_)
    · repeat (refine stp rfl ?_ ?_;·repeat' constructor)
      exact end1i rfl rfl (by rw [hk.found hx (by have := of_decide_eq_true h; simp [this])])
    · repeat (refine stp rfl ?_ ?_;·repeat' constructor)
      refine ⟨k + 1, hk.succ hx (by have := of_decide_eq_false h; simp; exact fun e => this e.symm), by omega, rfl, rfl, rfl, ?_, trivial⟩
      exact i64_next (by omega) (by omega)
  · repeat (refine stp rfl ?_ ?_;·repeat' constructor)
    exact end1i rfl rfl (by rw [hk.none (by simpa using h)])
theorem containsI_ret (l : List Int) (n : Int) (hw : l.length ≤ 1000000) : Ret Tryz.prog .shared 50 [.sl (l.map eI), I n] (.bool (l.any (· == n))) := by
  refine Ret.of_pwp layOk mixed Go.Proofs.Tryz.func50 rfl (by decide) rfl rfl ?_
  repeat (refine stp rfl ?_ ?_;·repeat' constructor)
  apply qst;exact rfl;exact rfl;exact q_callP rfl (indexI_ret l n hw) rfl (by repeat' constructor) rfl rfl
  repeat (refine stp rfl ?_ ?_;·repeat' constructor)
  exact end1b rfl rfl (by rw [idx_nonneg])
theorem indexFI_ret (l : List Int) (f : FuncId) (c0 : List PV) (p : Int → Bool) (hw : l.length ≤ 1000000) (hf : ∀ x, x ∈ l → Ret Tryz.prog .shared f (I x :: [.dref c0 0]) (.bool (p x))) : Ret Tryz.prog .shared 84 [.sl (l.map eI), .clo f [.dref c0 0]] (I (idx l p)) := by
  refine Ret.of_pwp layOk mixed Go.Proofs.Tryz.func84 rfl (by decide) rfl rfl ?_
  repeat (refine stp rfl ?_ ?_;·repeat' constructor)
  refine pw_loop (Clear l p) (fun k => [(0, .sl (l.map eI)), (1, .clo f [.dref c0 0]), (7, I l.length), (8, I k)]) (fun _ => []) (fun k => l.length - k) 0 .zero ⟨rfl, rfl, ?_, rfl, trivial⟩ ?_
  · show I ((l.map eI).length) = _
    simp
  intro k s hk
  repeat (refine stp rfl ?_ ?_;·repeat' constructor)
  refine pw_cond rfl (fun h => ?_) (fun h => ?_)
  · have hlt : k < l.length := by simpa using h
    obtain ⟨x, hx⟩ := get_lt hlt
    repeat (refine stp rfl ?_ ?_;·repeat' constructor)
    apply qst;exact rfl;exact rfl;exact q_idxm rfl rfl rfl rfl rfl (by omega) hx rfl
    repeat (refine stp rfl ?_ ?_;·repeat' constructor)
    apply qst;exact rfl;exact rfl;exact q_callP rfl (hf x (List.mem_of_getElem? hx)) rfl (by repeat' constructor) rfl rfl
    repeat (refine stp rfl ?_ ?_;·repeat' constructor)
    refine pw_cond rfl (fun h => ?_) (fun h => ?_)
    · repeat (refine stp rfl ?_ ?_;·repeat' constructor)
      exact end1i rfl rfl (by rw [hk.found hx h])
    · repeat (refine stp rfl ?_ ?_;·repeat' constructor)
      refine ⟨k + 1, hk.succ hx h, by omega, rfl, rfl, rfl, ?_, trivial⟩
      exact i64_next (by omega) (by omega)
  · repeat (refine stp rfl ?_ ?_;·repeat' constructor)
    exact end1i rfl rfl (by rw [hk.none (by simpa using h)])
theorem containsFI_ret (l : List Int) (f : FuncId) (c0 : List PV) (p : Int → Bool) (hw : l.length ≤ 1000000) (hf : ∀ x, x ∈ l → Ret Tryz.prog .shared f (I x :: [.dref c0 0]) (.bool (p x))) : Ret Tryz.prog .shared 51 [.sl (l.map eI), .clo f [.dref c0 0]] (.bool (l.any p)) := by
  refine Ret.of_pwp layOk mixed Go.Proofs.Tryz.func51 rfl (by decide) rfl rfl ?_
  repeat (refine stp rfl ?_ ?_;·repeat' constructor)
  apply qst;exact rfl;exact rfl;exact q_callP rfl (indexFI_ret l f c0 p hw hf) rfl (by repeat' constructor) rfl rfl
  repeat (refine stp rfl ?_ ?_;·repeat' constructor)
  exact end1b rfl rfl (by rw [idx_nonneg])

/-- Whether all of a list have come. -/
def readyB (out l : List Int) : Bool := !l.any fun k => !out.any (· == k)
theorem ord11_ret (out : List Int) (ho : out.length ≤ 1000000) (k : Int) : Ret Tryz.prog .shared 98 [I k, .dref [.sl (out.map eI)] 0] (.bool (!out.any (· == k))) := by
  refine Ret.of_pwp layOk mixed Go.Proofs.Tryz.func98 rfl (by decide) rfl rfl ?_
  repeat (refine stp rfl ?_ ?_;·repeat' constructor)
  apply qst;exact rfl;exact rfl;exact q_callP rfl (containsI_ret out k ho) rfl (by repeat' constructor) rfl rfl
  repeat (refine stp rfl ?_ ?_;·repeat' constructor)
  exact end1b rfl rfl rfl
theorem ord1_ret (out : List Int) (ho : out.length ≤ 1000000) (l : List Int) (hl : l.length ≤ 1000000) : Ret Tryz.prog .shared 97 [.sl (l.map eI), .dref [.sl (out.map eI)] 0] (.bool (readyB out l)) := by
  refine Ret.of_pwp layOk mixed Go.Proofs.Tryz.func97 rfl (by decide) rfl rfl ?_
  repeat (refine stp rfl ?_ ?_;·repeat' constructor)
  apply qst;exact rfl;exact rfl;exact q_callP rfl (containsFI_ret l 98 [.sl (out.map eI)] (fun k => !out.any (· == k)) hl (fun k _ => ord11_ret out ho k)) rfl (by repeat' constructor) rfl rfl
  repeat (refine stp rfl ?_ ?_;·repeat' constructor)
  exact end1b rfl rfl rfl
theorem ord21_ret (out : List Int) (ho : out.length ≤ 1000000) (k : Int) : Ret Tryz.prog .shared 100 [I k, .dref [.sl (out.map eI)] 0] (.bool (!out.any (· == k))) := by
  refine Ret.of_pwp layOk mixed Go.Proofs.Tryz.func100 rfl (by decide) rfl rfl ?_
  repeat (refine stp rfl ?_ ?_;·repeat' constructor)
  apply qst;exact rfl;exact rfl;exact q_callP rfl (containsI_ret out k ho) rfl (by repeat' constructor) rfl rfl
  repeat (refine stp rfl ?_ ?_;·repeat' constructor)
  exact end1b rfl rfl rfl
theorem ord2_ret (out : List Int) (ho : out.length ≤ 1000000) (l : List Int) (hl : l.length ≤ 1000000) : Ret Tryz.prog .shared 99 [.sl (l.map eI), .dref [.sl (out.map eI)] 0] (.bool (readyB out l)) := by
  refine Ret.of_pwp layOk mixed Go.Proofs.Tryz.func99 rfl (by decide) rfl rfl ?_
  repeat (refine stp rfl ?_ ?_;·repeat' constructor)
  apply qst;exact rfl;exact rfl;exact q_callP rfl (containsFI_ret l 100 [.sl (out.map eI)] (fun k => !out.any (· == k)) hl (fun k _ => ord21_ret out ho k)) rfl (by repeat' constructor) rfl rfl
  repeat (refine stp rfl ?_ ?_;·repeat' constructor)
  exact end1b rfl rfl rfl
theorem indexFL_ret (l : List (List Int)) (f : FuncId) (c0 : List PV) (p : (List Int) → Bool) (hw : l.length ≤ 1000000) (hf : ∀ x, x ∈ l → Ret Tryz.prog .shared f (.sl (x.map eI) :: [.dref c0 0]) (.bool (p x))) : Ret Tryz.prog .shared 96 [.sl (l.map eL), .clo f [.dref c0 0]] (I (idx l p)) := by
  refine Ret.of_pwp layOk mixed Go.Proofs.Tryz.func96 rfl (by decide) rfl rfl ?_
  repeat (refine stp rfl ?_ ?_;·repeat' constructor)
  refine pw_loop (Clear l p) (fun k => [(0, .sl (l.map eL)), (1, .clo f [.dref c0 0]), (7, I l.length), (8, I k)]) (fun _ => []) (fun k => l.length - k) 0 .zero ⟨rfl, rfl, ?_, rfl, trivial⟩ ?_
  · show I ((l.map eL).length) = _
    simp
  intro k s hk
  repeat (refine stp rfl ?_ ?_;·repeat' constructor)
  refine pw_cond rfl (fun h => ?_) (fun h => ?_)
  · have hlt : k < l.length := by simpa using h
    obtain ⟨x, hx⟩ := get_lt hlt
    repeat (refine stp rfl ?_ ?_;·repeat' constructor)
    apply qst;exact rfl;exact rfl;exact q_idxm rfl rfl rfl rfl rfl (by omega) hx rfl
    repeat (refine stp rfl ?_ ?_;·repeat' constructor)
    apply qst;exact rfl;exact rfl;exact q_callP rfl (hf x (List.mem_of_getElem? hx)) rfl (by repeat' constructor) rfl rfl
    repeat (refine stp rfl ?_ ?_;·repeat' constructor)
    refine pw_cond rfl (fun h => ?_) (fun h => ?_)
    · repeat (refine stp rfl ?_ ?_;·repeat' constructor)
      exact end1i rfl rfl (by rw [hk.found hx h])
    · repeat (refine stp rfl ?_ ?_;·repeat' constructor)
      refine ⟨k + 1, hk.succ hx h, by omega, rfl, rfl, rfl, ?_, trivial⟩
      exact i64_next (by omega) (by omega)
  · repeat (refine stp rfl ?_ ?_;·repeat' constructor)
    exact end1i rfl rfl (by rw [hk.none (by simpa using h)])
end Go.Pv

/- The first order: the program's. -/
set_option maxHeartbeats 2000000
namespace Go.Pv
attribute [local irreducible] PWP POps PQuiet PSem XThen XBlock RetPost InlPost
open Go.Proofs

theorem idx_cases {α : Type} (l : List α) (p : α → Bool) : (idx l p = -1 ∧ ∀ (j : Nat) b, l[j]? = some b → p b = false) ∨ ∃ (i : Nat) (a : α), idx l p = i ∧ l[i]? = some a ∧ p a = true ∧ ∀ (j : Nat) b, j < i → l[j]? = some b → p b = false := by
  unfold idx
  cases h : l.findIdx? p with
  | none =>
    rw [List.findIdx?_eq_none_iff] at h
    exact .inl ⟨rfl, fun j b hb => h b (List.mem_of_getElem? hb)⟩
  | some i =>
    rw [List.findIdx?_eq_some_iff_getElem] at h
    obtain ⟨hi, h1, h2⟩ := h
    refine .inr ⟨i, l[i], rfl, List.getElem?_eq_getElem hi, h1, fun j b hj hb => ?_⟩
    have := h2 j hj
    obtain ⟨hjl, rfl⟩ := List.getElem?_eq_some_iff.1 hb
    simpa using this

/-- Whether an item may come next. -/
def fitB (b : List (List Int)) (out : List Int) (i : Nat) : Bool := readyB out (b.getD i []) && !out.any (· == (i : Int))
def nextO (b : List (List Int)) (out : List Int) : Int := idx (List.range b.length) (fitB b out)
def orderF : Nat → List (List Int) → List Int → List Int
  | 0, _, out => out
  | f + 1, b, out => if nextO b out < 0 then out else orderF f b (out ++ [nextO b out])
def ordS (w : SWork) : List Int := orderF (bef w).length (bef w) []

theorem nextO_found {b : List (List Int)} {out : List Int} {i : Nat} {l : List Int} (hi : b[i]? = some l) (hr : readyB out l = true) (hn : out.any (· == (i : Int)) = false) (hall : ∀ (j : Nat) l', j < i → b[j]? = some l' → readyB out l' = true → out.any (· == (j : Int)) = true) : nextO b out = i := by
  have hlt := (List.getElem?_eq_some_iff.1 hi).1
  refine idx_found (a := i) (by rw [List.getElem?_range hlt]) ?_ fun j c hj hc => ?_
  · simp [fitB, List.getD_eq_getElem?_getD, hi, hr, hn]
  · have hjl : j < b.length := by omega
    rw [List.getElem?_range hjl] at hc
    have hc := Option.some.inj hc
    subst hc
    have hbj : b[j]? = some b[j] := List.getElem?_eq_getElem hjl
    have := hall j b[j] hj hbj
    unfold fitB
    rw [List.getD_eq_getElem?_getD, hbj]
    cases hrd : readyB out b[j] with
    | false => simp [hrd]
    | true => rw [this hrd]; simp
theorem nextO_none {b : List (List Int)} {out : List Int} (hall : ∀ (j : Nat) l', b[j]? = some l' → readyB out l' = true → out.any (· == (j : Int)) = true) : nextO b out = -1 := by
  refine idx_none fun j c hc => ?_
  have hjl : j < b.length := by have := (List.getElem?_eq_some_iff.1 hc).1; simpa using this
  rw [List.getElem?_range hjl] at hc
  have hc := Option.some.inj hc
  subst hc
  have hbj : b[j]? = some b[j] := List.getElem?_eq_getElem hjl
  have := hall j b[j] hbj
  unfold fitB
  rw [List.getD_eq_getElem?_getD, hbj]
  cases hrd : readyB out b[j] with
  | false => simp [hrd]
  | true => rw [this hrd]; simp

/-- What is known of 'next' in the inner loop. -/
def NextAt (b : List (List Int)) (out : List Int) (nx : Int) : Prop :=
  (nx = -1 ∧ ∀ (j : Nat) l', b[j]? = some l' → readyB out l' = true → out.any (· == (j : Int)) = true) ∨
  ∃ (i : Nat) (l : List Int), nx = i ∧ b[i]? = some l ∧ readyB out l = true ∧ ∀ (j : Nat) l', j < i → b[j]? = some l' → readyB out l' = true → out.any (· == (j : Int)) = true
theorem NextAt.start (b : List (List Int)) (out : List Int) : NextAt b out (idx b (readyB out)) := by
  rcases idx_cases b (readyB out) with ⟨h1, h2⟩ | ⟨i, l, h1, h2, h3, h4⟩
  · exact .inl ⟨h1, fun j l' hl hr => by rw [h2 j l' hl] at hr; cases hr⟩
  · exact .inr ⟨i, l, h1, h2, h3, fun j l' hj hl hr => by rw [h4 j l' hj hl] at hr; cases hr⟩
theorem NextAt.lt {b : List (List Int)} {out : List Int} {nx : Int} (h : NextAt b out nx) : -1 ≤ nx ∧ nx < b.length := by
  rcases h with ⟨h1, _⟩ | ⟨i, l, h1, h2, _⟩
  · omega
  · have := (List.getElem?_eq_some_iff.1 h2).1; omega
theorem NextAt.done {b : List (List Int)} {out : List Int} {nx : Int} (h : NextAt b out nx) (hn : nx < 0 ∨ out.any (· == nx) = false) : nextO b out = nx := by
  rcases h with ⟨h1, h2⟩ | ⟨i, l, h1, h2, h3, h4⟩
  · rw [h1]; exact nextO_none h2
  · rcases hn with hn | hn
    · omega
    · rw [h1] at hn ⊢; exact nextO_found h2 h3 hn h4
/-- One step behind an item that has come. -/
theorem NextAt.step {b : List (List Int)} {out : List Int} {i : Nat} (h : NextAt b out i) (hin : out.any (· == (i : Int)) = true) :
    NextAt b out (if idx (b.drop (i + 1)) (readyB out) < 0 then -1 else (i : Int) + (1 + idx (b.drop (i + 1)) (readyB out))) := by
  have hpre : ∀ (j : Nat) l', j < i + 1 → b[j]? = some l' → readyB out l' = true → out.any (· == (j : Int)) = true := by
    intro j l' hj hl hr
    rcases h with ⟨h1, _⟩ | ⟨i', l, h1, h2, h3, h4⟩
    · omega
    · have : i' = i := by omega
      subst this
      rcases Nat.lt_or_ge j i' with hlt | hge
      · exact h4 j l' hlt hl hr
      · have : j = i' := by omega
        subst this; exact hin
  rcases idx_cases (b.drop (i + 1)) (readyB out) with ⟨h1, h2⟩ | ⟨r, l, h1, h2, h3, h4⟩
  · rw [h1, if_pos (by omega)]
    refine .inl ⟨rfl, fun j l' hl hr => ?_⟩
    rcases Nat.lt_or_ge j (i + 1) with hlt | hge
    · exact hpre j l' hlt hl hr
    · have := h2 (j - (i + 1)) l' (by rw [List.getElem?_drop]; rw [show i + 1 + (j - (i + 1)) = j by omega]; exact hl)
      rw [this] at hr; cases hr
  · rw [h1, if_neg (by omega)]
    refine .inr ⟨i + 1 + r, l, by omega, by rw [List.getElem?_drop] at h2; exact h2, h3, fun j l' hj hl hr => ?_⟩
    rcases Nat.lt_or_ge j (i + 1) with hlt | hge
    · exact hpre j l' hlt hl hr
    · have := h4 (j - (i + 1)) l' (by omega) (by rw [List.getElem?_drop]; rw [show i + 1 + (j - (i + 1)) = j by omega]; exact hl)
      rw [this] at hr; cases hr

theorem ordered_ret (w : SWork) (h1 : w.items.length ≤ 100000) (h2 : ∀ x ∈ w.items, x.after.length ≤ 100000) : Ret Tryz.prog .shared 78 [.agg (eWork w)] (.sl ((ordS w).map eI)) := by
  have hbl : (bef w).length = w.items.length := by simp [bef]
  have hbe : ∀ l ∈ bef w, l.length ≤ 1000000 := fun l hl => by
    obtain ⟨x, hx, rfl⟩ := List.mem_map.1 hl
    have := h2 x hx
    simp [aft]; omega
  have hml : ((bef w).map eL).length = w.items.length := by rw [List.length_map, hbl]
  refine Ret.of_pwp layOk mixed Go.Proofs.Tryz.func78 rfl (by decide) rfl rfl ?_
  repeat (refine stp rfl ?_ ?_;·repeat' constructor)
  apply qst;exact rfl;exact rfl;exact q_call rfl (before_ret w h1 h2) rfl (by repeat' constructor) rfl
  repeat (refine stp rfl ?_ ?_;·repeat' constructor)
  refine pw_ghost (Ghost.nilcell (k := 42) (k0 := 4) (i := 0) (j := 0) 3 1 0 rfl rfl rfl rfl (row := [.nil]) rfl rfl rfl) ?_
  refine pw_loop (fun out : List Int => out.length ≤ w.items.length ∧ ordS w = orderF ((bef w).length - out.length) (bef w) out) (fun _ => [(1, .ptr 1 1 0 0), (3, .sl ((bef w).map eL)), (4, .ptr 4 1 0 0)])
    (fun out => [(1, 1, ⟨28, 9, [eWork w], 2⟩), (4, 1, ⟨36, 1, [[.als 42 (1 + out.length) 0 (out.map eI).length]], 2⟩), (42, 1 + out.length, ⟨3, 1, out.map eI, 0⟩)]) (fun out => w.items.length - out.length) [] ⟨by simp, rfl⟩ ⟨rfl, rfl, rfl, rfl, rfl, rfl, trivial⟩ ?_
  rintro out s ⟨hol, hos⟩
  have hoe : (out.map eI).length = out.length := by simp
  repeat (refine stp rfl ?_ ?_;·repeat' constructor)
  refine pw_cond rfl (fun h => ?_) (fun h => ?_)
  · have hlt : out.length < w.items.length := by have := of_decide_eq_true h; omega
    clear h
    repeat (refine stp rfl ?_ ?_;·repeat' constructor)
    apply qst;exact rfl;exact rfl;exact q_callP rfl (indexFL_ret (bef w) 97 [.sl (out.map eI)] (readyB out) (by omega) (fun l hl => ord1_ret out (by omega) l (hbe l hl))) rfl (by repeat' constructor) rfl rfl
    repeat (refine stp rfl ?_ ?_;·repeat' constructor)
    refine pw_loop (fun nx : Int => NextAt (bef w) out nx) (fun nx => [(1, .ptr 1 1 0 0), (3, .sl ((bef w).map eL)), (4, .ptr 4 1 0 0), (5, I nx)])
      (fun _ => [(1, 1, ⟨28, 9, [eWork w], 2⟩), (4, 1, ⟨36, 1, [[.als 42 (1 + out.length) 0 (out.map eI).length]], 2⟩), (42, 1 + out.length, ⟨3, 1, out.map eI, 0⟩)]) (fun nx => if nx < 0 then 0 else ((bef w).length - nx).toNat + 1) _ (.start _ _) ⟨rfl, rfl, rfl, rfl, rfl, rfl, rfl, trivial⟩ ?_
    intro nx s' hnx
    have hb := hnx.lt
    repeat (refine stp rfl ?_ ?_;·repeat' constructor)
    (first | refine ps_split rfl rfl (fun h => ?_) (fun h => ?_) | refine pq_split rfl rfl (fun h => ?_) (fun h => ?_) | refine p3_split rfl rfl (fun h => ?_) (fun h => ?_))
    · have h0 := of_decide_eq_true h
      repeat (refine stp rfl ?_ ?_;·repeat' constructor)
      apply qst;exact rfl;exact rfl;exact q_callP rfl (containsI_ret out nx (by omega)) rfl (by repeat' constructor) rfl rfl
      repeat (refine stp rfl ?_ ?_;·repeat' constructor)
      refine pw_cond rfl (fun h => ?_) (fun h => ?_)
      · have hin := h
        clear h
        obtain ⟨i, rfl⟩ : ∃ i : Nat, nx = i := ⟨nx.toNat, by omega⟩
        have hw1 : IntKind.i64.wrap ((i : Int) + 1) = (i + 1 : Nat) := by rw [wrap_i64 (by omega) (by omega)]; omega
        have hst := hnx.step hin
        have hrl := (NextAt.start ((bef w).drop (i + 1)) out).lt
        rw [List.length_drop] at hrl
        repeat (refine stp rfl ?_ ?_;·repeat' constructor)
        rw [hw1]
        refine ps_q (q_slcm rfl rfl rfl rfl rfl (by omega) (by omega) (fun _ => rfl)) ?_
        rw [Int.toNat_natCast]
        repeat (refine stp rfl ?_ ?_;·repeat' constructor)
        apply qst;exact rfl;exact rfl;exact q_callP rfl (indexFL_ret ((bef w).drop (i + 1)) 99 [.sl (out.map eI)] (readyB out) (by rw [List.length_drop]; omega) (fun l hl => ord2_ret out (by omega) l (hbe l (List.mem_of_mem_drop hl)))) rfl (by repeat' constructor) rfl rfl
        repeat (refine stp rfl ?_ ?_;·repeat' constructor)
        refine pw_cond rfl (fun h => ?_) (fun h => ?_)
        · have hneg := of_decide_eq_true h
          rw [if_pos hneg] at hst
          repeat (refine stp rfl ?_ ?_;·repeat' constructor)
          refine ⟨-1, hst, by rw [if_pos (by omega), if_neg (by omega)]; omega, rfl, rfl, rfl, rfl, rfl, rfl, rfl, trivial⟩
        · have hneg := of_decide_eq_false h
          rw [if_neg hneg] at hst
          have hlt2 := hst.lt
          repeat (refine stp rfl ?_ ?_;·repeat' constructor)
          refine ⟨_, hst, by rw [if_neg (by omega), if_neg (by omega)]; omega, rfl, rfl, rfl, ?_, rfl, rfl, rfl, trivial⟩
          show PV.int .i64 (IntKind.i64.wrap (_ + IntKind.i64.wrap (1 + _))) = _
          rw [wrap_i64 (n := 1 + _) (by omega) (by omega), wrap_i64 (by omega) (by omega)]
      · have hnin := h
        clear h
        have hnext := hnx.done (.inr hnin)
        have hol2 : (out ++ [nx]).length = out.length + 1 := by simp
        have hoapp : (out ++ [nx]).map eI = out.map eI ++ [eI nx] := by rw [List.map_append]; rfl
        repeat (refine stp rfl ?_ ?_;·repeat' constructor)
        refine pw_cond rfl (fun h => ?_) (fun h => ?_)
        · have := of_decide_eq_true h; omega
        repeat (refine stp rfl ?_ ?_;·repeat' constructor)
        refine ps_run (o_slit 0 rfl rfl rfl rfl rfl rfl rfl rfl rfl rfl rfl (by repeat' constructor) rfl ?_)
        repeat (refine stp rfl ?_ ?_;·repeat' constructor)
        refine ps_run (o_app 0 rfl rfl rfl rfl rfl rfl rfl rfl rfl rfl rfl (by repeat' constructor) (by intro row hr; first | (simp at hr; subst hr; rfl) | simp at hr) rfl rfl (by simp; omega) (by simp; omega) ?_)
        repeat (refine stp rfl ?_ ?_;·repeat' constructor)
        refine ⟨out ++ [nx], ⟨by simp; omega, ?_⟩, by simp; omega, rfl, rfl, rfl, rfl, ?_, ?_, trivial⟩
        · rw [hos, show (bef w).length - out.length = ((bef w).length - (out ++ [nx]).length) + 1 by simp; omega, orderF, hnext, if_neg (by omega)]
        · show (1, some (Cont.mk 36 1 [[PV.als 42 (1 + out.length + 1) 0 (out.map eI ++ [eI nx]).length]] 2)) = _
          rw [hoapp, hol2]; rfl
        · show (1 + out.length + 1, some (Cont.mk 3 1 (out.map eI ++ [eI nx]) 0)) = _
          rw [hoapp, hol2]; rfl
    · have h0 := of_decide_eq_false h
      have hnext := hnx.done (.inl (by omega))
      repeat (refine stp rfl ?_ ?_;·repeat' constructor)
      refine pw_cond rfl (fun h => ?_) (fun h => ?_)
      · repeat (refine stp rfl ?_ ?_;·repeat' constructor)
        exact end1 rfl rfl rfl ⟨rfl, rfl, rfl⟩ (by rw [hos, show (bef w).length - out.length = ((bef w).length - out.length - 1) + 1 by omega, orderF, hnext, if_pos (by omega)])
      · have := of_decide_eq_false h; omega
  · have hge : (bef w).length - out.length = 0 := by have := of_decide_eq_false h; omega
    repeat (refine stp rfl ?_ ?_;·repeat' constructor)
    exact end1 rfl rfl rfl ⟨rfl, rfl, rfl⟩ (by rw [hos, hge]; rfl)
end Go.Pv

/- The check of work: the program's. -/
set_option maxHeartbeats 2000000
namespace Go.Pv
attribute [local irreducible] PWP POps PQuiet PSem XThen XBlock RetPost InlPost
open Go.Proofs

theorem fstE_map {α β : Type} (f : α → β) : ∀ (l : List α) (g : Nat → β → Int), fstE (l.map f) g = fstE l fun i a => g i (f a)
  | [], _ => rfl
  | a :: l, g => by
    rw [List.map_cons, fstE, fstE, fstE_map f l]
theorem taken_iff {α : Type} {l : List α} {nm : α → Str} {j : Nat} {b : α} (hb : l[j]? = some b) : ((l.map nm).take j).any (· == nm b) = !decide (idx l (fun a => nm a == nm b) = j) := by
  have hp : (fun a => nm a == nm b) b = true := by simp
  cases hany : ((l.map nm).take j).any (· == nm b) with
  | false =>
    have : idx l (fun a => nm a == nm b) = j := by
      refine idx_found hb hp fun i c hi hc => ?_
      rw [List.any_eq_false] at hany
      have hm : nm c ∈ (l.map nm).take j := by
        refine List.mem_of_getElem? (i := i) ?_
        rw [List.getElem?_take, if_pos hi, List.getElem?_map, hc]; rfl
      simpa using hany _ hm
    simp [this]
  | true =>
    have : idx l (fun a => nm a == nm b) ≠ j := by
      intro he
      obtain ⟨x, hx, hxe⟩ := List.any_eq_true.1 hany
      obtain ⟨i, hi, rfl⟩ := List.getElem_of_mem hx
      simp only [List.length_take, List.length_map] at hi
      rcases idx_cases l (fun a => nm a == nm b) with ⟨h1, _⟩ | ⟨i', a, h1, _, _, h4⟩
      · omega
      · have hii : i' = j := by omega
        subst hii
        have hil : i < l.length := by omega
        have := h4 i l[i] (by omega) (List.getElem?_eq_getElem hil)
        simp only [List.getElem_take, List.getElem_map] at hxe
        rw [this] at hxe; cases hxe
    simp [this]
theorem named_eq {α : Type} (l : List α) (nm : α → Str) (most : Int) (own : Nat → Int) (E : α → Int) (h : ∀ (i : Nat) a, l[i]? = some a → own i = E a) :
    namedS (l.map nm) most own = if most < l.length then 8 else fstE l fun i a => if isName (nm a) then (if idx l (fun b => nm b == nm a) = i then E a else 5) else 4 := by
  rw [namedS, List.length_map]
  split
  · rfl
  · rw [fstE_map]
    refine fstE_congr fun j b hb _ => ?_
    rw [taken_iff hb, h j b hb]
    by_cases hi : idx l (fun a => nm a == nm b) = j
    · simp [hi]
    · simp [hi]

def itemsE (w : SWork) : Int := if 40 < w.items.length then 8 else fstE w.items fun i x => if isName x.name then (if idx w.items (·.name == x.name) = i then itemE w x else 5) else 4
def figE (w : SWork) : Bool := inside w.hire 0 1000000000 && inside w.late 0 1000000000 && inside w.due 0 400 && inside w.last 0 400
def workE (w : SWork) : Int :=
  if tradesE w = 0 then (if roomE w = 0 then (if itemsE w = 0 then (if figE w then (if (ordS w).length < w.items.length then 22 else 0) else 2) else itemsE w) else roomE w) else tradesE w

/-- Work whose lists are not too long. -/
structure Sane (w : SWork) : Prop where
  items : w.items.length ≤ 100000
  trades : w.trades.length ≤ 100000
  spaces : w.spaces.length ≤ 100000
  excls : w.excls.length ≤ 100000
  outs : w.outs.length ≤ 100000
  next : ∀ x ∈ w.spaces, x.next.length ≤ 100000
  after : ∀ x ∈ w.items, x.after.length ≤ 100000

theorem itemOwn_ret (w : SWork) (hw : Sane w) (i : Nat) (x : SItem) (hx : w.items[i]? = some x) : Ret Tryz.prog .shared 76 [I i, .dref (eWork w) 0, .dref [.sl ((w.items.map (·.name)).map eS)] 0] (I (itemE w x)) := by
  have h1 := hw.items
  have h2 := hw.trades
  have h3 := hw.spaces
  have h4 := hw.after x (List.mem_of_getElem? hx)
  refine Ret.of_pwp layOk mixed Go.Proofs.Tryz.func76 rfl (by decide) rfl rfl ?_
  repeat (refine stp rfl ?_ ?_;·repeat' constructor)
  refine pw_draw 9 [5, 6, 7, 8, 9, 10, 11, 12, 4] (by decide +kernel) ?_
  repeat (refine stp rfl ?_ ?_;·repeat' constructor)
  apply qst;exact rfl;exact rfl;exact q_idxm rfl rfl rfl rfl rfl (by omega) hx rfl
  repeat (refine stp rfl ?_ ?_;·repeat' constructor)
  apply qst;exact rfl;exact rfl;exact q_callP rfl (itemErr_ret w x (by omega) (by omega) (by omega) (by omega)) rfl (by repeat' constructor) rfl rfl
  repeat (refine stp rfl ?_ ?_;·repeat' constructor)
  exact end1i rfl rfl rfl

def ownT (w : SWork) (i : Nat) : Int := match w.trades[i]? with | some t => tradeE t | none => 0
def ownS (w : SWork) (i : Nat) : Int := match w.spaces[i]? with | some t => spaceE w t | none => 0
def ownI (w : SWork) (i : Nat) : Int := match w.items[i]? with | some t => itemE w t | none => 0

theorem checkWork_ret (w : SWork) (hw : Sane w) : Ret Tryz.prog .shared 46 [.agg (eWork w)] (I (workE w)) := by
  have h1 := hw.items
  have h2 := hw.trades
  have h3 := hw.spaces
  have h4 := hw.excls
  have h5 := hw.outs
  have eT : namedS (w.trades.map (·.name)) 6 (ownT w) = tradesE w := by
    rw [named_eq _ _ _ _ tradeE (fun i a ha => by rw [ownT, ha])]; rw [tradesE]
    by_cases h : 6 < w.trades.length
    · rw [if_pos (by omega), if_pos h]
    · rw [if_neg (by omega), if_neg h]
  have eSp : namedS (w.spaces.map (·.name)) 12 (ownS w) = spacesE w := by
    rw [named_eq _ _ _ _ (spaceE w) (fun i a ha => by rw [ownS, ha])]; rw [spacesE]
    by_cases h : 12 < w.spaces.length
    · rw [if_pos (by omega), if_pos h]
    · rw [if_neg (by omega), if_neg h]
  have eI' : namedS (w.items.map (·.name)) 40 (ownI w) = itemsE w := by
    rw [named_eq _ _ _ _ (itemE w) (fun i a ha => by rw [ownI, ha])]; rw [itemsE]
    by_cases h : 40 < w.items.length
    · rw [if_pos (by omega), if_pos h]
    · rw [if_neg (by omega), if_neg h]
  have hol : ((ordS w).map eI).length = (ordS w).length := by simp
  have hml : (w.items.map eItem).length = w.items.length := by simp
  refine Ret.of_pwp layOk mixed Go.Proofs.Tryz.func46 rfl (by decide) rfl rfl ?_
  repeat (refine stp rfl ?_ ?_;·repeat' constructor)
  apply qst;exact rfl;exact rfl;exact q_call rfl (tradeNames_ret w (by omega)) rfl (by repeat' constructor) rfl
  repeat (refine stp rfl ?_ ?_;·repeat' constructor)
  apply qst;exact rfl;exact rfl;exact q_callP rfl (named_ret1 (w.trades.map (·.name)) 6 (by omega) 70 (eWork w) (ownT w) (fun i hi => by obtain ⟨t, ht⟩ := get_lt (by simpa using hi : i < w.trades.length); have := tradeOwn_ret w i t ht; rwa [show tradeE t = ownT w i by rw [ownT, ht]] at this)) rfl (by repeat' constructor) rfl rfl
  rw [eT]
  repeat (refine stp rfl ?_ ?_;·repeat' constructor)
  refine pw_cond rfl (fun h => ?_) (fun h => ?_)
  · have hne : ¬ tradesE w = 0 := by simpa using h
    repeat (refine stp rfl ?_ ?_;·repeat' constructor)
    exact end1i rfl rfl (by rw [workE, if_neg hne])
  have hz1 : tradesE w = 0 := by simpa using h
  clear h
  repeat (refine stp rfl ?_ ?_;·repeat' constructor)
  apply qst;exact rfl;exact rfl;exact q_call rfl (spaceNames_ret w (by omega)) rfl (by repeat' constructor) rfl
  repeat (refine stp rfl ?_ ?_;·repeat' constructor)
  apply qst;exact rfl;exact rfl;exact q_callP rfl (named_ret2 (w.spaces.map (·.name)) 12 (by omega) 72 (eWork w) [.sl ((w.spaces.map (·.name)).map eS)] (ownS w) (fun i hi => by obtain ⟨t, ht⟩ := get_lt (by simpa using hi : i < w.spaces.length); have hnx := hw.next t (List.mem_of_getElem? ht); have := spaceOwn_ret w (by omega) i t ht (by omega); rwa [show spaceE w t = ownS w i by rw [ownS, ht]] at this)) rfl (by repeat' constructor) rfl rfl
  rw [eSp]
  repeat (refine stp rfl ?_ ?_;·repeat' constructor)
  refine pw_cond rfl (fun h => ?_) (fun h => ?_)
  · have hne : ¬ spacesE w = 0 := by simpa using h
    repeat (refine stp rfl ?_ ?_;·repeat' constructor)
    exact end1i rfl rfl (by have : roomE w = spacesE w := (by rw [roomE, if_neg hne]); rw [workE, if_pos hz1, this, if_neg hne])
  have hz2 : spacesE w = 0 := by simpa using h
  have hro : roomE w = rulesE w := by rw [roomE, if_pos hz2]
  clear h
  repeat (refine stp rfl ?_ ?_;·repeat' constructor)
  apply qst;exact rfl;exact rfl;exact q_callP rfl (rulesErr_ret w (by omega) (by omega)) rfl (by repeat' constructor) rfl rfl
  rw [← hro]
  repeat (refine stp rfl ?_ ?_;·repeat' constructor)
  refine pw_cond rfl (fun h => ?_) (fun h => ?_)
  · have hne : ¬ roomE w = 0 := by simpa using h
    repeat (refine stp rfl ?_ ?_;·repeat' constructor)
    exact end1i rfl rfl (by rw [workE, if_pos hz1, if_neg hne])
  have hz3 : roomE w = 0 := by simpa using h
  clear h
  repeat (refine stp rfl ?_ ?_;·repeat' constructor)
  apply qst;exact rfl;exact rfl;exact q_call rfl (itemNames_ret w (by omega)) rfl (by repeat' constructor) rfl
  repeat (refine stp rfl ?_ ?_;·repeat' constructor)
  apply qst;exact rfl;exact rfl;exact q_callP rfl (named_ret2 (w.items.map (·.name)) 40 (by omega) 76 (eWork w) [.sl ((w.items.map (·.name)).map eS)] (ownI w) (fun i hi => by obtain ⟨t, ht⟩ := get_lt (by simpa using hi : i < w.items.length); have := itemOwn_ret w hw i t ht; rwa [show itemE w t = ownI w i by rw [ownI, ht]] at this)) rfl (by repeat' constructor) rfl rfl
  rw [eI']
  repeat (refine stp rfl ?_ ?_;·repeat' constructor)
  refine pw_cond rfl (fun h => ?_) (fun h => ?_)
  · have hne : ¬ itemsE w = 0 := by simpa using h
    repeat (refine stp rfl ?_ ?_;·repeat' constructor)
    exact end1i rfl rfl (by rw [workE, if_pos hz1, if_pos hz3, if_neg hne])
  have hz4 : itemsE w = 0 := by simpa using h
  clear h
  have it : workE w = if figE w then (if (ordS w).length < w.items.length then 22 else 0) else 2 := by rw [workE, if_pos hz1, if_pos hz3, if_pos hz4]
  repeat (refine stp rfl ?_ ?_;·repeat' constructor)
  apply qst;exact rfl;exact rfl;exact q_callP rfl (within_ret w.hire 1000000000) rfl (by repeat' constructor) rfl rfl
  repeat (refine stp rfl ?_ ?_;·repeat' constructor)
  (first | refine ps_split rfl rfl (fun h => ?_) (fun h => ?_) | refine pq_split rfl rfl (fun h => ?_) (fun h => ?_) | refine p3_split rfl rfl (fun h => ?_) (fun h => ?_))
  · have hf : ¬ figE w = true := by simp_all [figE]
    repeat (refine stp rfl ?_ ?_;·repeat' constructor)
    exact end1i rfl rfl (by rw [it, if_neg hf])
  have f1 : inside w.hire 0 1000000000 = true := by simpa using h
  clear h
  repeat (refine stp rfl ?_ ?_;·repeat' constructor)
  apply qst;exact rfl;exact rfl;exact q_callP rfl (within_ret w.late 1000000000) rfl (by repeat' constructor) rfl rfl
  repeat (refine stp rfl ?_ ?_;·repeat' constructor)
  (first | refine ps_split rfl rfl (fun h => ?_) (fun h => ?_) | refine pq_split rfl rfl (fun h => ?_) (fun h => ?_) | refine p3_split rfl rfl (fun h => ?_) (fun h => ?_))
  · have hf : ¬ figE w = true := by simp_all [figE]
    repeat (refine stp rfl ?_ ?_;·repeat' constructor)
    exact end1i rfl rfl (by rw [it, if_neg hf])
  have f2 : inside w.late 0 1000000000 = true := by simpa using h
  clear h
  repeat (refine stp rfl ?_ ?_;·repeat' constructor)
  apply qst;exact rfl;exact rfl;exact q_callP rfl (within_ret w.due 400) rfl (by repeat' constructor) rfl rfl
  repeat (refine stp rfl ?_ ?_;·repeat' constructor)
  (first | refine ps_split rfl rfl (fun h => ?_) (fun h => ?_) | refine pq_split rfl rfl (fun h => ?_) (fun h => ?_) | refine p3_split rfl rfl (fun h => ?_) (fun h => ?_))
  · have hf : ¬ figE w = true := by simp_all [figE]
    repeat (refine stp rfl ?_ ?_;·repeat' constructor)
    exact end1i rfl rfl (by rw [it, if_neg hf])
  have f3 : inside w.due 0 400 = true := by simpa using h
  clear h
  repeat (refine stp rfl ?_ ?_;·repeat' constructor)
  apply qst;exact rfl;exact rfl;exact q_callP rfl (within_ret w.last 400) rfl (by repeat' constructor) rfl rfl
  repeat (refine stp rfl ?_ ?_;·repeat' constructor)
  refine pw_cond rfl (fun h => ?_) (fun h => ?_)
  · have hf : ¬ figE w = true := by simp_all [figE]
    repeat (refine stp rfl ?_ ?_;·repeat' constructor)
    exact end1i rfl rfl (by rw [it, if_neg hf])
  have f4 : inside w.last 0 400 = true := by simpa using h
  clear h
  have hf : figE w = true := by rw [figE, f1, f2, f3, f4]; rfl
  rw [if_pos hf] at it
  repeat (refine stp rfl ?_ ?_;·repeat' constructor)
  refine pw_draw 7 [57, 58, 59, 60, 61, 62, 63] (by decide +kernel) ?_
  repeat (refine stp rfl ?_ ?_;·repeat' constructor)
  apply qst;exact rfl;exact rfl;exact q_call rfl (ordered_ret w h1 hw.after) rfl (by repeat' constructor) rfl
  repeat (refine stp rfl ?_ ?_;·repeat' constructor)
  refine pw_cond rfl (fun h => ?_) (fun h => ?_)
  · have hlt := of_decide_eq_true h
    repeat (refine stp rfl ?_ ?_;·repeat' constructor)
    exact end1i rfl rfl (by rw [it, if_pos (by omega)])
  · have hlt := of_decide_eq_false h
    repeat (refine stp rfl ?_ ?_;·repeat' constructor)
    exact end1i rfl rfl (by rw [it, if_neg (by omega)])
end Go.Pv

/- The first order: the document's. -/
set_option maxHeartbeats 2000000
namespace Go.Pv
attribute [local irreducible] PWP POps PQuiet PSem XThen XBlock RetPost InlPost
open Go.Proofs

def inB (out : List Str) (s : Str) : Bool := out.any (· == s)
/-- Whether an item may come next. -/
def fitR (out : List Str) (x : SItem) : Bool := !inB out x.name && x.after.all (inB out)
def nextR (w : SWork) (out : List Str) : Int := idx w.items (fitR out)
def refOrdF : Nat → SWork → List Str → List Str
  | 0, _, out => out
  | f + 1, w, out => match w.items.find? (fitR out) with | some x => refOrdF f w (out ++ [x.name]) | none => out
def leftR (w : SWork) (out : List Str) : Nat := (w.items.filter fun x => !inB out x.name).length
def refOrd (w : SWork) : List Str := refOrdF w.items.length w []

theorem leftR_step (w : SWork) (out : List Str) (x : SItem) (hx : x ∈ w.items) (hn : inB out x.name = false) : leftR w (out ++ [x.name]) < leftR w out := by
  unfold leftR
  have : ∀ l : List SItem, x ∈ l → (l.filter fun y => !inB (out ++ [x.name]) y.name).length < (l.filter fun y => !inB out y.name).length := by
    have hle : ∀ l : List SItem, (l.filter fun y => !inB (out ++ [x.name]) y.name).length ≤ (l.filter fun y => !inB out y.name).length := by
      intro l
      induction l with
      | nil => simp
      | cons y l ih =>
        rw [List.filter_cons, List.filter_cons]
        cases h1 : inB out y.name with
        | true =>
          have : inB (out ++ [x.name]) y.name = true := by unfold inB at *; rw [List.any_append, h1]; rfl
          simp [this]; exact ih
        | false =>
          cases h2 : inB (out ++ [x.name]) y.name <;> simp <;> omega
    intro l hl
    induction l with
    | nil => cases hl
    | cons y l ih =>
      rcases List.mem_cons.1 hl with rfl | hl
      · have h2 : inB (out ++ [x.name]) x.name = true := by unfold inB; simp
        rw [List.filter_cons, List.filter_cons, hn, h2]
        have := hle l
        simp; omega
      · have := ih hl
        rw [List.filter_cons, List.filter_cons]
        cases h1 : inB out y.name with
        | true =>
          have : inB (out ++ [x.name]) y.name = true := by unfold inB at *; rw [List.any_append, h1]; rfl
          simp [this]; omega
        | false =>
          cases h2 : inB (out ++ [x.name]) y.name <;> simp <;> omega
  exact this _ hx

theorem find_none {α : Type} {l : List α} {p : α → Bool} (h : ∀ (j : Nat) b, l[j]? = some b → p b = false) : l.find? p = none := by
  rw [List.find?_eq_none]
  intro x hx
  obtain ⟨j, hj, rfl⟩ := List.getElem_of_mem hx
  simp [h j _ (List.getElem?_eq_getElem hj)]
theorem find_some {α : Type} {l : List α} {p : α → Bool} {k : Nat} {x : α} (hk : l[k]? = some x) (hp : p x = true) (h : ∀ (j : Nat) b, j < k → l[j]? = some b → p b = false) : l.find? p = some x := by
  rw [List.find?_eq_some_iff_getElem]
  obtain ⟨hl, he⟩ := List.getElem?_eq_some_iff.1 hk
  exact ⟨hp, k, hl, he, fun j hj => by simp [h j l[j] hj (List.getElem?_eq_getElem _)]⟩

def NextR (w : SWork) (out : List Str) (i : Nat) (nx : Int) : Prop :=
  (nx = -1 ∧ Clear w.items (fitR out) i) ∨ ∃ (k : Nat) (x : SItem), nx = k ∧ i = k + 1 ∧ w.items[k]? = some x ∧ fitR out x = true ∧ Clear w.items (fitR out) k

theorem order_ref (w : SWork) (hw : Sane w) : Ret Tryz.prog .shared 41 [.agg (eWork w)] (.sl ((refOrd w).map eS)) := by
  have h1 := hw.items
  have hml : (w.items.map eItem).length = w.items.length := by simp
  refine Ret.of_pwp layOk mixed Go.Proofs.Tryz.func41 rfl (by decide) rfl rfl ?_
  ((repeat (first | refine ps_nil ?_ | refine pq_nil ?_ | refine x_norm ?_ | refine pw_seq ?_)); refine pw_region ?_)
  refine ps_run (o_box rfl rfl rfl (by repeat' constructor) rfl ?_)
  refine ps_v rfl trivial ?_
  ((repeat (first | refine ps_nil ?_ | refine pq_nil ?_ | refine x_norm ?_ | refine pw_seq ?_)); refine pw_region ?_)
  (first | refine ps_run (o_nilm 9 1 0 rfl rfl ?_) | refine ps_run (o_nila 9 1 0 rfl rfl ?_))
  repeat (refine stp rfl ?_ ?_;·repeat' constructor)
  refine pw_loop (fun out : List Str => leftR w out ≤ w.items.length - out.length ∧ out.length ≤ w.items.length ∧ refOrd w = refOrdF (w.items.length - out.length) w out) (fun out => [(1, .ptr 1 1 0 0), (3, .als 3 (1 + out.length) 0 (out.map eS).length)]) (fun out => [(1, 1, ⟨28, 9, [eWork w], 2⟩), (3, 1 + out.length, ⟨9, 1, out.map eS, 0⟩)])
    (fun out => leftR w out) [] ⟨List.length_filter_le _ _, by simp, rfl⟩ ⟨rfl, rfl, rfl, rfl, trivial⟩ ?_
  rintro out s ⟨hle, hol, hro⟩
  repeat (refine stp rfl ?_ ?_;·repeat' constructor)
  refine pw_loop (fun p : Nat × Int => NextR w out p.1 p.2) (fun p => [(1, .ptr 1 1 0 0), (3, .als 3 (1 + out.length) 0 (out.map eS).length), (4, I p.2), (5, I p.1)]) (fun _ => [(1, 1, ⟨28, 9, [eWork w], 2⟩), (3, 1 + out.length, ⟨9, 1, out.map eS, 0⟩)])
    (fun p => w.items.length - p.1) (0, -1) (.inl ⟨rfl, .zero⟩) ⟨rfl, rfl, rfl, rfl, rfl, rfl, trivial⟩ ?_
  rintro ⟨i, nx⟩ s' hnx
  rcases hnx with ⟨rfl, hcl⟩ | ⟨k, x, rfl, rfl, hx, hfit, hcl⟩
  · repeat (refine stp rfl ?_ ?_;·repeat' constructor)
    (first | refine ps_split rfl rfl (fun h => ?_) (fun h => ?_) | refine pq_split rfl rfl (fun h => ?_) (fun h => ?_) | refine p3_split rfl rfl (fun h => ?_) (fun h => ?_))
    · have hlt : i < w.items.length := by have := of_decide_eq_true h; omega
      clear h
      obtain ⟨x, hx⟩ := get_lt hlt
      have hax := hw.after x (List.mem_of_getElem? hx)
      have hml2 : (x.after.map eS).length = x.after.length := by simp
      repeat (refine stp rfl ?_ ?_;·repeat' constructor)
      apply qst;exact rfl;exact rfl;exact q_idxm rfl rfl rfl rfl rfl (by omega) hx rfl
      repeat (refine stp rfl ?_ ?_;·repeat' constructor)
      apply qst;exact rfl;exact rfl;exact q_callP rfl (among_ret out x.name (by omega)) rfl (by repeat' constructor) rfl rfl
      repeat (refine stp rfl ?_ ?_;·repeat' constructor)
      refine pw_loop (fun k : Nat => k ≤ x.after.length) (fun k => [(1, .ptr 1 1 0 0), (3, .als 3 (1 + out.length) 0 (out.map eS).length), (4, I (-1)), (5, I i), (6, .bool (!inB out x.name && (x.after.take k).all (inB out))), (7, I k)])
        (fun _ => [(1, 1, ⟨28, 9, [eWork w], 2⟩), (3, 1 + out.length, ⟨9, 1, out.map eS, 0⟩)]) (fun k => x.after.length - k) 0 (Nat.zero_le _) ⟨rfl, rfl, rfl, rfl, ?_, rfl, rfl, rfl, trivial⟩ ?_
      · show PV.bool (!inB out x.name) = _
        simp
      intro k s'' hk
      repeat (refine stp rfl ?_ ?_;·repeat' constructor)
      apply qst;exact rfl;exact rfl;exact q_idxm rfl rfl rfl rfl rfl (by omega) hx rfl
      repeat (refine stp rfl ?_ ?_;·repeat' constructor)
      refine pw_cond rfl (fun h => ?_) (fun h => ?_)
      · have hlt' : k < x.after.length := by have := of_decide_eq_true h; omega
        clear h
        obtain ⟨y, hy⟩ := get_lt hlt'
        have htk : (x.after.take (k + 1)).all (inB out) = ((x.after.take k).all (inB out) && inB out y) := by rw [take_snoc hy, List.all_append]; simp
        repeat (refine stp rfl ?_ ?_;·repeat' constructor)
        (first | refine ps_split rfl rfl (fun h => ?_) (fun h => ?_) | refine pq_split rfl rfl (fun h => ?_) (fun h => ?_) | refine p3_split rfl rfl (fun h => ?_) (fun h => ?_))
        · repeat (refine stp rfl ?_ ?_;·repeat' constructor)
          apply qst;exact rfl;exact rfl;exact q_idxm rfl rfl rfl rfl rfl (by omega) hx rfl
          repeat (refine stp rfl ?_ ?_;·repeat' constructor)
          apply qst;exact rfl;exact rfl;exact q_idxm rfl rfl rfl rfl rfl (by omega) hy rfl
          repeat (refine stp rfl ?_ ?_;·repeat' constructor)
          apply qst;exact rfl;exact rfl;exact q_callP rfl (among_ret out y (by omega)) rfl (by repeat' constructor) rfl rfl
          repeat (refine stp rfl ?_ ?_;·repeat' constructor)
          refine ⟨k + 1, hlt', by omega, rfl, rfl, rfl, rfl, ?_, ?_, rfl, rfl, trivial⟩
          · rw [htk, ← Bool.and_assoc, h]; rfl
          · exact i64_next (by omega) (by omega)
        · repeat (refine stp rfl ?_ ?_;·repeat' constructor)
          refine ⟨k + 1, hlt', by omega, rfl, rfl, rfl, rfl, ?_, ?_, rfl, rfl, trivial⟩
          · rw [htk, ← Bool.and_assoc, h]; rfl
          · exact i64_next (by omega) (by omega)
      · have hge : k = x.after.length := by have := of_decide_eq_false h; omega
        subst hge
        rw [List.take_length]
        clear h
        repeat (refine stp rfl ?_ ?_;·repeat' constructor)
        refine pw_cond rfl (fun h => ?_) (fun h => ?_)
        · repeat (refine stp rfl ?_ ?_;·repeat' constructor)
          refine ⟨(i + 1, (i : Int)), .inr ⟨i, x, rfl, rfl, hx, h, hcl⟩, by simp; omega, rfl, rfl, rfl, ?_, rfl, rfl, trivial⟩
          exact i64_next (by omega) (by omega)
        · repeat (refine stp rfl ?_ ?_;·repeat' constructor)
          refine ⟨(i + 1, -1), .inl ⟨rfl, hcl.succ hx h⟩, by simp; omega, rfl, rfl, rfl, ?_, rfl, rfl, trivial⟩
          exact i64_next (by omega) (by omega)
    · have hge : ¬ i < w.items.length := by have := of_decide_eq_false h; omega
      clear h
      repeat (refine stp rfl ?_ ?_;·repeat' constructor)
      refine end1 rfl rfl rfl ⟨rfl, rfl, rfl⟩ ?_
      rw [hro]
      cases hf : w.items.length - out.length with
      | zero => rfl
      | succ f => rw [refOrdF, find_none (hcl.all hge)]
  · have hn : inB out x.name = false := by
      unfold fitR at hfit
      cases hb : inB out x.name with
      | false => rfl
      | true => rw [hb] at hfit; cases hfit
    have hkl := (List.getElem?_eq_some_iff.1 hx).1
    have hlt2 := leftR_step w out x (List.mem_of_getElem? hx) hn
    have hl2 : (out ++ [x.name]).length = out.length + 1 := by simp
    have hoapp : (out ++ [x.name]).map eS = out.map eS ++ [eS x.name] := by rw [List.map_append]; rfl
    have hoe : (out.map eS).length = out.length := by simp
    have hro2 : refOrd w = refOrdF (w.items.length - (out ++ [x.name]).length) w (out ++ [x.name]) := by
      rw [hro, show w.items.length - out.length = (w.items.length - (out ++ [x.name]).length) + 1 by rw [hl2]; omega, refOrdF, find_some hx hfit hcl.2]
    repeat (refine stp rfl ?_ ?_;·repeat' constructor)
    (first | refine ps_split rfl rfl (fun h => ?_) (fun h => ?_) | refine pq_split rfl rfl (fun h => ?_) (fun h => ?_) | refine p3_split rfl rfl (fun h => ?_) (fun h => ?_))
    · clear h
      repeat (refine stp rfl ?_ ?_;·repeat' constructor)
      apply qst;exact rfl;exact rfl;exact q_idxm rfl rfl rfl rfl rfl (by omega) hx rfl
      repeat (refine stp rfl ?_ ?_;·repeat' constructor)
      refine ps_run (o_slit 0 rfl rfl rfl rfl rfl rfl rfl rfl rfl rfl rfl (by repeat' constructor) rfl ?_)
      repeat (refine stp rfl ?_ ?_;·repeat' constructor)
      refine ps_run (o_app 0 rfl rfl rfl rfl rfl rfl rfl rfl rfl rfl rfl (by repeat' constructor) (by intro row hr; first | (simp at hr; subst hr; rfl) | simp at hr) rfl rfl (by simp; omega) (by simp; omega) ?_)
      repeat (refine stp rfl ?_ ?_;·repeat' constructor)
      refine ⟨out ++ [x.name], ⟨by rw [hl2]; omega, by rw [hl2]; omega, hro2⟩, hlt2, rfl, ?_, rfl, ?_, trivial⟩
      · rw [hoapp, hl2]; rfl
      · rw [hoapp, hl2]; rfl
    · clear h
      repeat (refine stp rfl ?_ ?_;·repeat' constructor)
      apply qst;exact rfl;exact rfl;exact q_idxm rfl rfl rfl rfl rfl (by omega) hx rfl
      repeat (refine stp rfl ?_ ?_;·repeat' constructor)
      refine ps_run (o_slit 0 rfl rfl rfl rfl rfl rfl rfl rfl rfl rfl rfl (by repeat' constructor) rfl ?_)
      repeat (refine stp rfl ?_ ?_;·repeat' constructor)
      refine ps_run (o_app 0 rfl rfl rfl rfl rfl rfl rfl rfl rfl rfl rfl (by repeat' constructor) (by intro row hr; first | (simp at hr; subst hr; rfl) | simp at hr) rfl rfl (by simp; omega) (by simp; omega) ?_)
      repeat (refine stp rfl ?_ ?_;·repeat' constructor)
      refine ⟨out ++ [x.name], ⟨by rw [hl2]; omega, by rw [hl2]; omega, hro2⟩, hlt2, rfl, ?_, rfl, ?_, trivial⟩
      · rw [hoapp, hl2]; rfl
      · rw [hoapp, hl2]; rfl
end Go.Pv

/- The check of work: the document's. -/
set_option maxHeartbeats 2000000
namespace Go.Pv
attribute [local irreducible] PWP POps PQuiet PSem XThen XBlock RetPost InlPost
open Go.Proofs

/-- Names are told once, and what an item comes after is there. -/
structure Good1 (w : SWork) : Prop where
  uniq : ∀ (i : Nat) x, w.items[i]? = some x → idx w.items (·.name == x.name) = i
  known : ∀ x ∈ w.items, ∀ s ∈ x.after, (w.items.map (·.name)).any (· == s) = true

theorem good_of {w : SWork} (h : itemsE w = 0) : Good1 w := by
  unfold itemsE at h
  split at h
  · cases h
  · have hz := fstE_zero h
    have hit : ∀ (i : Nat) x, w.items[i]? = some x → idx w.items (·.name == x.name) = i ∧ itemE w x = 0 := by
      intro i x hx
      have := hz i x hx
      split at this
      · split at this
        · rename_i h1; exact ⟨h1, this⟩
        · cases this
      · cases this
    refine ⟨fun i x hx => (hit i x hx).1, fun x hx s hs => ?_⟩
    obtain ⟨i, hi, rfl⟩ := List.getElem_of_mem hx
    have hE := (hit i _ (List.getElem?_eq_getElem hi)).2
    unfold itemE at hE
    split at hE
    · cases hE
    · split at hE
      · cases hE
      · split at hE
        · split at hE
          · cases hE
          · split at hE
            · split at hE
              · cases hE
              · obtain ⟨j, hj, rfl⟩ := List.getElem_of_mem hs
                have := fstE_zero hE j _ (List.getElem?_eq_getElem hj)
                unfold afterE at this
                split at this
                · rename_i h1; exact h1
                · cases this
            · cases hE
        · rename_i hne; exact absurd hE hne

def nameAt (w : SWork) (i : Int) : Str := ((w.items[i.toNat]?).map (·.name)).getD []
def InW (w : SWork) (out : List Int) : Prop := ∀ k ∈ out, ∃ (i : Nat) (x : SItem), k = i ∧ w.items[i]? = some x
theorem nameAt_at {w : SWork} {i : Nat} {x : SItem} (hx : w.items[i]? = some x) : nameAt w i = x.name := by rw [nameAt, Int.toNat_natCast, hx]; rfl

theorem inB_iff {w : SWork} (hg : Good1 w) {out : List Int} (ho : InW w out) {i : Nat} {x : SItem} (hx : w.items[i]? = some x) : inB (out.map (nameAt w)) x.name = out.any (· == (i : Int)) := by
  unfold inB
  rw [List.any_map]
  cases h : out.any (· == (i : Int)) with
  | true =>
    obtain ⟨k, hk, he⟩ := List.any_eq_true.1 h
    have he : k = i := by simpa using he
    subst he
    exact List.any_eq_true.2 ⟨_, hk, by simp [nameAt_at hx]⟩
  | false =>
    rw [List.any_eq_false] at h ⊢
    intro k hk hn
    obtain ⟨i', x', rfl, hx'⟩ := ho k hk
    have hn : x'.name = x.name := by simpa [nameAt_at hx'] using hn
    have e1 := hg.uniq i' x' hx'
    rw [hn, hg.uniq i x hx] at e1
    refine h _ hk (by simp; omega)
theorem known_at {w : SWork} (hg : Good1 w) {x : SItem} (hx : x ∈ w.items) {s : Str} (hs : s ∈ x.after) : ∃ (j : Nat) (y : SItem), w.items[j]? = some y ∧ y.name = s ∧ idx (w.items.map (·.name)) (· == s) = j := by
  have := hg.known x hx s hs
  rw [List.any_map] at this
  obtain ⟨y, hy, he⟩ := List.any_eq_true.1 this
  have he : y.name = s := by simpa using he
  obtain ⟨j, hj, rfl⟩ := List.getElem_of_mem hy
  refine ⟨j, _, List.getElem?_eq_getElem hj, he, ?_⟩
  rw [idx_map, ← he]
  exact hg.uniq j _ (List.getElem?_eq_getElem hj)
theorem fit_eq {w : SWork} (hg : Good1 w) {out : List Int} (ho : InW w out) {i : Nat} {x : SItem} (hx : w.items[i]? = some x) : fitB (bef w) out i = fitR (out.map (nameAt w)) x := by
  have hxm := List.mem_of_getElem? hx
  have h1 : (bef w).getD i [] = aft w x := by rw [List.getD_eq_getElem?_getD, bef, List.getElem?_map, hx]; rfl
  have h2 : readyB out (aft w x) = x.after.all (inB (out.map (nameAt w))) := by
    rw [readyB, aft, List.any_map, List.all_eq_not_any_not]
    congr 1
    have : ∀ l : List Str, (∀ s ∈ l, s ∈ x.after) → (l.any ((fun k => !out.any fun x => x == k) ∘ fun s => idx (w.items.map (·.name)) (· == s))) = l.any fun s => !inB (out.map (nameAt w)) s := by
      intro l hl
      induction l with
      | nil => rfl
      | cons s l ih =>
        rw [List.any_cons, List.any_cons, ih fun s' hs' => hl s' (by simp [hs'])]
        congr 1
        obtain ⟨j, y, hy, hn, hi⟩ := known_at hg hxm (hl s (by simp))
        show (!out.any fun x => x == idx (w.items.map (·.name)) (· == s)) = _
        rw [hi, ← hn, inB_iff hg ho hy]
    exact this _ fun s hs => hs
  rw [fitB, h1, h2, fitR, inB_iff hg ho hx, Bool.and_comm]

theorem next_eq {w : SWork} (hg : Good1 w) {out : List Int} (ho : InW w out) : (nextO (bef w) out < 0 ∧ w.items.find? (fitR (out.map (nameAt w))) = none) ∨ ∃ (i : Nat) (x : SItem), nextO (bef w) out = i ∧ w.items[i]? = some x ∧ w.items.find? (fitR (out.map (nameAt w))) = some x := by
  have hbl : (bef w).length = w.items.length := by simp [bef]
  rcases idx_cases w.items (fitR (out.map (nameAt w))) with ⟨_, h⟩ | ⟨i, x, _, hx, hp, hn⟩
  · refine .inl ⟨?_, find_none h⟩
    have : nextO (bef w) out = -1 := by
      refine idx_none fun j c hc => ?_
      have hj : j < w.items.length := by have := (List.getElem?_eq_some_iff.1 hc).1; simpa [hbl] using this
      rw [List.getElem?_range (by omega)] at hc
      have hc := Option.some.inj hc
      subst hc
      rw [fit_eq hg ho (List.getElem?_eq_getElem hj)]
      exact h j _ (List.getElem?_eq_getElem hj)
    omega
  · have hil := (List.getElem?_eq_some_iff.1 hx).1
    refine .inr ⟨i, x, idx_found (a := i) (by rw [List.getElem?_range (by omega)]) (by rw [fit_eq hg ho hx]; exact hp) fun j c hj hc => ?_, hx, find_some hx hp hn⟩
    rw [List.getElem?_range (by omega)] at hc
    have hc := Option.some.inj hc
    subst hc
    have hjl : j < w.items.length := by omega
    rw [fit_eq hg ho (List.getElem?_eq_getElem hjl)]
    exact hn j _ hj (List.getElem?_eq_getElem hjl)

theorem ord_eq {w : SWork} (hg : Good1 w) : ∀ (f : Nat) (out : List Int), InW w out → refOrdF f w (out.map (nameAt w)) = (orderF f (bef w) out).map (nameAt w) ∧ InW w (orderF f (bef w) out)
  | 0, out, ho => ⟨rfl, ho⟩
  | f + 1, out, ho => by
    rcases next_eq hg ho with ⟨h1, h2⟩ | ⟨i, x, h1, hx, h2⟩
    · rw [refOrdF, h2, orderF, if_pos h1]; exact ⟨rfl, ho⟩
    · rw [refOrdF, h2, orderF, if_neg (by omega), h1]
      have := ord_eq hg f (out ++ [(i : Int)]) (fun k hk => by
        rcases List.mem_append.1 hk with hk | hk
        · exact ho k hk
        · exact ⟨i, x, by simpa using hk, hx⟩)
      rw [List.map_append, List.map_cons, List.map_nil, nameAt_at hx] at this
      exact this
theorem refOrd_eq {w : SWork} (hg : Good1 w) : refOrd w = (ordS w).map (nameAt w) ∧ InW w (ordS w) := by
  have := ord_eq hg w.items.length [] (fun k hk => by cases hk)
  have hbl : (bef w).length = w.items.length := by simp [bef]
  rw [refOrd, ordS, hbl]
  exact this
end Go.Pv

/- The check of work: the document's walk. -/
set_option maxHeartbeats 2000000
namespace Go.Pv
attribute [local irreducible] PWP POps PQuiet PSem XThen XBlock RetPost InlPost
open Go.Proofs

theorem refCheckWork_ret (w : SWork) (hw : Sane w) : Ret Tryz.prog .shared 11 [.agg (eWork w)] (I (workE w)) := by
  have h1 := hw.items
  have h2 := hw.trades
  have h3 := hw.spaces
  have hml : (w.items.map eItem).length = w.items.length := by simp
  have hol : ((refOrd w).map eS).length = (refOrd w).length := by simp
  refine Ret.of_pwp layOk mixed Go.Proofs.Tryz.func11 rfl (by decide) rfl rfl ?_
  repeat (refine stp rfl ?_ ?_;·repeat' constructor)
  apply qst;exact rfl;exact rfl;exact q_callP rfl (checkTrades_ret w (by omega)) rfl (by repeat' constructor) rfl rfl
  repeat (refine stp rfl ?_ ?_;·repeat' constructor)
  refine pw_cond rfl (fun h => ?_) (fun h => ?_)
  · have hne : ¬ tradesE w = 0 := by simpa using h
    repeat (refine stp rfl ?_ ?_;·repeat' constructor)
    exact end1i rfl rfl (by rw [workE, if_neg hne])
  have hz1 : tradesE w = 0 := by simpa using h
  clear h
  repeat (refine stp rfl ?_ ?_;·repeat' constructor)
  apply qst;exact rfl;exact rfl;exact q_callP rfl (checkSpaces_ret w (by omega) (fun x hx => by have := hw.next x hx; omega)) rfl (by repeat' constructor) rfl rfl
  repeat (refine stp rfl ?_ ?_;·repeat' constructor)
  refine pw_cond rfl (fun h => ?_) (fun h => ?_)
  · have hne : ¬ roomE w = 0 := by simpa using h
    repeat (refine stp rfl ?_ ?_;·repeat' constructor)
    exact end1i rfl rfl (by rw [workE, if_pos hz1, if_neg hne])
  have hz3 : roomE w = 0 := by simpa using h
  clear h
  have hit : ∀ e, itemsE w = e → e ≠ 0 → workE w = e := fun e he hne => by rw [workE, if_pos hz1, if_pos hz3, he, if_neg hne]
  repeat (refine stp rfl ?_ ?_;·repeat' constructor)
  refine pw_cond rfl (fun h => ?_) (fun h => ?_)
  · have hgt := of_decide_eq_true h
    repeat (refine stp rfl ?_ ?_;·repeat' constructor)
    exact end1i rfl rfl (by rw [hit 8 (by rw [itemsE, if_pos (by omega)]) (by omega)])
  have hl : ¬ 40 < w.items.length := by have := of_decide_eq_false h; omega
  clear h
  repeat (refine stp rfl ?_ ?_;·repeat' constructor)
  refine pw_loop (ClearE w.items fun i x => if isName x.name then (if idx w.items (·.name == x.name) = i then itemE w x else 5) else 4) (fun k => [(1, .ptr 1 1 0 0), (5, I k)]) (fun _ => [(1, 1, ⟨28, 9, [eWork w], 2⟩)]) (fun k => w.items.length - k) 0 .zero' ⟨rfl, rfl, rfl, trivial⟩ ?_
  intro k s hk
  repeat (refine stp rfl ?_ ?_;·repeat' constructor)
  refine pw_cond rfl (fun h => ?_) (fun h => ?_)
  · have hlt : k < w.items.length := by simpa using h
    obtain ⟨x, hx⟩ := get_lt hlt
    clear h
    have hax := hw.after x (List.mem_of_getElem? hx)
    have bad : ∀ e, (if isName x.name then (if idx w.items (·.name == x.name) = k then itemE w x else 5) else 4) = e → e ≠ 0 → workE w = e := fun e hb he => by
      rw [hit e (by rw [itemsE, if_neg hl, hk.found (e := e) hx hb he]) he]
    repeat (refine stp rfl ?_ ?_;·repeat' constructor)
    apply qst;exact rfl;exact rfl;exact q_idxm rfl rfl rfl rfl rfl (by omega) hx rfl
    repeat (refine stp rfl ?_ ?_;·repeat' constructor)
    apply qst;exact rfl;exact rfl;exact q_callP rfl (isName_ref x.name) rfl (by repeat' constructor) rfl rfl
    repeat (refine stp rfl ?_ ?_;·repeat' constructor)
    refine pw_cond rfl (fun h => ?_) (fun h => ?_)
    · have hn : ¬ isName x.name = true := by simpa using h
      repeat (refine stp rfl ?_ ?_;·repeat' constructor)
      exact end1i rfl rfl (by rw [bad 4 (if_neg hn) (by omega)])
    have hn : isName x.name = true := by simpa using h
    clear h
    repeat (refine stp rfl ?_ ?_;·repeat' constructor)
    refine pw_draw 10 [36, 37, 38, 39, 40, 41, 42, 43, 44, 45] (by decide +kernel) ?_
    repeat (refine stp rfl ?_ ?_;·repeat' constructor)
    apply qst;exact rfl;exact rfl;exact q_idxm rfl rfl rfl rfl rfl (by omega) hx rfl
    repeat (refine stp rfl ?_ ?_;·repeat' constructor)
    apply qst;exact rfl;exact rfl;exact q_callP rfl (itemOf_ret w x.name (by omega)) rfl (by repeat' constructor) rfl rfl
    repeat (refine stp rfl ?_ ?_;·repeat' constructor)
    refine pw_cond rfl (fun h => ?_) (fun h => ?_)
    · have hi : ¬ idx w.items (·.name == x.name) = k := by simpa using h
      repeat (refine stp rfl ?_ ?_;·repeat' constructor)
      exact end1i rfl rfl (by rw [bad 5 (by rw [if_pos hn, if_neg hi]) (by omega)])
    have hi : idx w.items (·.name == x.name) = k := by simpa using h
    clear h
    have own : (if isName x.name then (if idx w.items (·.name == x.name) = k then itemE w x else 5) else 4) = itemE w x := by rw [if_pos hn, if_pos hi]
    repeat (refine stp rfl ?_ ?_;·repeat' constructor)
    refine pw_draw 8 [46, 47, 48, 49, 50, 51, 52, 6] (by decide +kernel) ?_
    repeat (refine stp rfl ?_ ?_;·repeat' constructor)
    apply qst;exact rfl;exact rfl;exact q_idxm rfl rfl rfl rfl rfl (by omega) hx rfl
    repeat (refine stp rfl ?_ ?_;·repeat' constructor)
    apply qst;exact rfl;exact rfl;exact q_callP rfl (checkItem_ret w x (by omega) (by omega) (by omega) (by omega)) rfl (by repeat' constructor) rfl rfl
    repeat (refine stp rfl ?_ ?_;·repeat' constructor)
    refine pw_cond rfl (fun h => ?_) (fun h => ?_)
    · have hne : ¬ itemE w x = 0 := by simpa using h
      repeat (refine stp rfl ?_ ?_;·repeat' constructor)
      exact end1i rfl rfl (by rw [bad _ own hne])
    · repeat (refine stp rfl ?_ ?_;·repeat' constructor)
      refine ⟨k + 1, hk.succ hx (own.trans (by simpa using h)), by omega, rfl, ?_, rfl, trivial⟩
      exact i64_next (by omega) (by omega)
  have hz4 : itemsE w = 0 := by rw [itemsE, if_neg hl, hk.none (by simpa using h)]
  clear h hk
  have it : workE w = if figE w then (if (ordS w).length < w.items.length then 22 else 0) else 2 := by rw [workE, if_pos hz1, if_pos hz3, if_pos hz4]
  have hord : (refOrd w).length = (ordS w).length := by rw [(refOrd_eq (good_of hz4)).1, List.length_map]
  repeat (refine stp rfl ?_ ?_;·repeat' constructor)
  apply qst;exact rfl;exact rfl;exact q_callP rfl (inside_ret w.hire 0 1000000000) rfl (by repeat' constructor) rfl rfl
  repeat (refine stp rfl ?_ ?_;·repeat' constructor)
  (first | refine ps_split rfl rfl (fun h => ?_) (fun h => ?_) | refine pq_split rfl rfl (fun h => ?_) (fun h => ?_) | refine p3_split rfl rfl (fun h => ?_) (fun h => ?_))
  · have hf : ¬ figE w = true := by simp_all [figE]
    repeat (refine stp rfl ?_ ?_;·repeat' constructor)
    exact end1i rfl rfl (by rw [it, if_neg hf])
  have f1 : inside w.hire 0 1000000000 = true := by simpa using h
  clear h
  repeat (refine stp rfl ?_ ?_;·repeat' constructor)
  apply qst;exact rfl;exact rfl;exact q_callP rfl (inside_ret w.late 0 1000000000) rfl (by repeat' constructor) rfl rfl
  repeat (refine stp rfl ?_ ?_;·repeat' constructor)
  (first | refine ps_split rfl rfl (fun h => ?_) (fun h => ?_) | refine pq_split rfl rfl (fun h => ?_) (fun h => ?_) | refine p3_split rfl rfl (fun h => ?_) (fun h => ?_))
  · have hf : ¬ figE w = true := by simp_all [figE]
    repeat (refine stp rfl ?_ ?_;·repeat' constructor)
    exact end1i rfl rfl (by rw [it, if_neg hf])
  have f2 : inside w.late 0 1000000000 = true := by simpa using h
  clear h
  repeat (refine stp rfl ?_ ?_;·repeat' constructor)
  apply qst;exact rfl;exact rfl;exact q_callP rfl (inside_ret w.due 0 400) rfl (by repeat' constructor) rfl rfl
  repeat (refine stp rfl ?_ ?_;·repeat' constructor)
  (first | refine ps_split rfl rfl (fun h => ?_) (fun h => ?_) | refine pq_split rfl rfl (fun h => ?_) (fun h => ?_) | refine p3_split rfl rfl (fun h => ?_) (fun h => ?_))
  · have hf : ¬ figE w = true := by simp_all [figE]
    repeat (refine stp rfl ?_ ?_;·repeat' constructor)
    exact end1i rfl rfl (by rw [it, if_neg hf])
  have f3 : inside w.due 0 400 = true := by simpa using h
  clear h
  repeat (refine stp rfl ?_ ?_;·repeat' constructor)
  apply qst;exact rfl;exact rfl;exact q_callP rfl (inside_ret w.last 0 400) rfl (by repeat' constructor) rfl rfl
  repeat (refine stp rfl ?_ ?_;·repeat' constructor)
  refine pw_cond rfl (fun h => ?_) (fun h => ?_)
  · have hf : ¬ figE w = true := by simp_all [figE]
    repeat (refine stp rfl ?_ ?_;·repeat' constructor)
    exact end1i rfl rfl (by rw [it, if_neg hf])
  have f4 : inside w.last 0 400 = true := by simpa using h
  clear h
  have hf : figE w = true := by rw [figE, f1, f2, f3, f4]; rfl
  rw [if_pos hf] at it
  repeat (refine stp rfl ?_ ?_;·repeat' constructor)
  refine pw_draw 7 [78, 79, 80, 81, 82, 83, 84] (by decide +kernel) ?_
  repeat (refine stp rfl ?_ ?_;·repeat' constructor)
  apply qst;exact rfl;exact rfl;exact q_call rfl (order_ref w hw) rfl (by repeat' constructor) rfl
  repeat (refine stp rfl ?_ ?_;·repeat' constructor)
  refine pw_cond rfl (fun h => ?_) (fun h => ?_)
  · have hlt := of_decide_eq_true h
    repeat (refine stp rfl ?_ ?_;·repeat' constructor)
    exact end1i rfl rfl (by rw [it, if_pos (by omega)])
  · have hlt := of_decide_eq_false h
    repeat (refine stp rfl ?_ ?_;·repeat' constructor)
    exact end1i rfl rfl (by rw [it, if_neg (by omega)])
end Go.Pv

/- Slots: the document's item, mode and end of a slot. -/
set_option maxHeartbeats 2000000
namespace Go.Pv
attribute [local irreducible] PWP POps PQuiet PSem XThen XBlock RetPost InlPost
open Go.Proofs

theorem endc {L : Lay} {s : St} {fn : Func} {r v d : PV} {t : Nat} {T : TypeId} {A Cd : Prop} {fl : Fl} (h : fn.results.toList = [.cell t T]) (hq : qv L s (.load T (.tmp t)) = some (v, A)) (ha : A) (hres : res s 5 v = some (d, Cd, fl)) (hc : Cd) (hd : d = r) : RetPost L fn .shared r .ret s := by
  unfold RetPost
  refine ⟨[v], A ∧ True, d, Cd, fl, ?_, ⟨ha, trivial⟩, hres, hc, trivial, hd⟩
  rw [h]
  show (match rv L s (.cell t T) with | some (v, A) => (match rvs L s [] with | some (vs, B) => some (v :: vs, A ∧ B) | none => none) | none => none) = _
  rw [show rv L s (.cell t T) = some (v, A) from hq]; rfl

/-- A slot with its item and its mode. -/
structure SlotAt (w : SWork) (sl : SSlot) (x : SItem) (m : SMode) : Prop where
  nonneg : 0 ≤ idx w.items (·.name == sl.item)
  item : w.items[(idx w.items (·.name == sl.item)).toNat]? = some x
  lo : 0 ≤ sl.mode
  mode : x.modes[sl.mode.toNat]? = some m
  day : 0 ≤ sl.day ∧ sl.day ≤ 400
  days : 1 ≤ m.days ∧ m.days ≤ 60

theorem item_ref (w : SWork) (hw : Sane w) (sl : SSlot) {x : SItem} {m : SMode} (h : SlotAt w sl x m) : Ret Tryz.prog .shared 45 [.agg (eWork w), .agg (eSlot sl)] (.agg (eItem x)) := by
  have h1 := hw.items
  have hi := h.item
  have hn := h.nonneg
  refine Ret.of_pwp layOk mixed Go.Proofs.Tryz.func45 rfl (by decide) rfl rfl ?_
  repeat (refine stp rfl ?_ ?_;·repeat' constructor)
  refine pw_draw 8 [5, 6, 7, 8, 9, 10, 11, 12] (by decide +kernel) ?_
  repeat (refine stp rfl ?_ ?_;·repeat' constructor)
  apply qst;exact rfl;exact rfl;exact q_callP rfl (itemOf_ret w sl.item (by omega)) rfl (by repeat' constructor) rfl rfl
  repeat (refine stp rfl ?_ ?_;·repeat' constructor)
  apply qst;exact rfl;exact rfl;exact q_idxm rfl rfl rfl rfl rfl (by omega) hi rfl
  repeat (refine stp rfl ?_ ?_;·repeat' constructor)
  exact endc rfl rfl rfl rfl (by repeat' constructor) rfl
theorem mode_ref (w : SWork) (hw : Sane w) (sl : SSlot) {x : SItem} {m : SMode} (h : SlotAt w sl x m) : Ret Tryz.prog .shared 44 [.agg (eWork w), .agg (eSlot sl)] (.agg (eMode m)) := by
  have hm := h.mode
  have hlo := h.lo
  refine Ret.of_pwp layOk mixed Go.Proofs.Tryz.func44 rfl (by decide) rfl rfl ?_
  repeat (refine stp rfl ?_ ?_;·repeat' constructor)
  refine pw_draw 8 [5, 6, 7, 8, 9, 10, 11, 12] (by decide +kernel) ?_
  repeat (refine stp rfl ?_ ?_;·repeat' constructor)
  apply qst;exact rfl;exact rfl;exact q_call rfl (item_ref w hw sl h) rfl (by repeat' constructor) rfl
  repeat (refine stp rfl ?_ ?_;·repeat' constructor)
  apply qst;exact rfl;exact rfl;exact q_idxm rfl rfl rfl rfl rfl (by omega) hm rfl
  repeat (refine stp rfl ?_ ?_;·repeat' constructor)
  exact endc rfl rfl rfl rfl (by repeat' constructor) rfl
theorem end_ref (w : SWork) (hw : Sane w) (sl : SSlot) {x : SItem} {m : SMode} (h : SlotAt w sl x m) : Ret Tryz.prog .shared 43 [.agg (eWork w), .agg (eSlot sl)] (I (sl.day + m.days)) := by
  have h1 := h.day
  have h2 := h.days
  refine Ret.of_pwp layOk mixed Go.Proofs.Tryz.func43 rfl (by decide) rfl rfl ?_
  repeat (refine stp rfl ?_ ?_;·repeat' constructor)
  refine pw_draw 8 [5, 6, 7, 8, 9, 10, 11, 4] (by decide +kernel) ?_
  repeat (refine stp rfl ?_ ?_;·repeat' constructor)
  apply qst;exact rfl;exact rfl;exact q_call rfl (mode_ref w hw sl h) rfl (by repeat' constructor) rfl
  repeat (refine stp rfl ?_ ?_;·repeat' constructor)
  exact end1i rfl rfl (by rw [wrap_i64 (by omega) (by omega)])
end Go.Pv
