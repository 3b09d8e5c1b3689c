/- Texts of one hand, gathered: PvV, PvJ, PvQ, PvK, PvL, PvR, PvS. -/
import Derived.Test.YtfnjhhndbgidmaaGreatDoorAs1
import Derived.Maps.RangeRun
import Derived.StillTail
import Derived.Lib.ConvBytes
import Derived.Laws.BytesArg
set_option linter.unusedSectionVars false
set_option linter.unusedSimpArgs false
set_option linter.unusedVariables false
set_option linter.unnecessarySimpa false
namespace Go.Pv
open Go.RowKit Go.MapKept Go.ChangeMaps
def keq1 : PV → PV → Bool
  | .int _ a, .int _ b => decide (a = b)
  | .str a, .str b => decide (a = b)
  | .bool a, .bool b => a == b
  | _, _ => false
def keqs : List PV → List PV → Bool
  | [], [] => true
  | a :: as, b :: bs => keq1 a b && keqs as bs
  | _, _ => false
def keq : PV → PV → Bool
  | .agg as, .agg bs => keqs as bs
  | a, b => keq1 a b
def mhd (k : PV) : List PV → Bool
  | c :: _ => keq c k
  | [] => false
def mix (k : PV) : List (List PV) → Option Nat
  | [] => none
  | row :: rows => bif mhd k row then some 0 else (mix k rows).map (· + 1)
def Sh.key : Sh → PV → Bool
  | .int k, .int k' _ => decide (k = k')
  | .str, .str _ => true
  | .bool, .bool _ => true
  | _, _ => false
def keyed (sh : Sh) (rows : List (List PV)) : Bool := rows.all fun row => match row with | c :: _ => sh.key c | [] => false
theorem mix_lt {key : PV} : ∀ {rows : List (List PV)} {i : Nat}, mix key rows = some i → i < rows.length
  | [], i, h => by simp [mix] at h
  | row :: rows, i, h => by
    simp only [mix] at h
    cases hb : mhd key row with
    | true => rw [hb] at h; simp at h; subst h; simp
    | false =>
      rw [hb] at h
      simp only [cond_false, Option.map_eq_some_iff] at h
      obtain ⟨j, hj, rfl⟩ := h
      have := mix_lt hj
      simp; omega
theorem isKey_of {d : TypeDesc} {sh : Sh} {c : PV} {v : Value} {E : Env} (hf : sh.fits d = true) (hk : sh.key c = true) (hr : Rep E c v) : IsKey d v := by
  cases sh <;> cases c <;> simp only [Sh.key, Bool.false_eq_true] at hk <;> cases d <;> simp only [Sh.fits, Bool.false_eq_true] at hf
  · rw [hr.int_inv]
    have h1 := of_decide_eq_true hf
    have h2 := of_decide_eq_true hk
    subst h1; subst h2
    simp [IsKey]
  · rw [hr.str_inv]; simp [IsKey]
  · rw [hr.bool_inv]; simp [IsKey]
theorem keq_spec {sh : Sh} {c k : PV} {v u : Value} {E : Env} (h1 : sh.key c = true) (h2 : sh.key k = true) (r1 : Rep E c v) (r2 : Rep E k u) : keq c k = true ↔ v = u := by
  cases sh <;> cases c <;> simp only [Sh.key, Bool.false_eq_true] at h1 <;> cases k <;> simp only [Sh.key, Bool.false_eq_true] at h2
  · rw [r1.int_inv, r2.int_inv]
    have e1 := of_decide_eq_true h1
    have e2 := of_decide_eq_true h2
    subst e1; subst e2
    simp [keq, keq1]
  · rw [r1.str_inv, r2.str_inv]; simp [keq, keq1]
  · rw [r1.bool_inv, r2.bool_inv]; simp [keq, keq1]
theorem mix_spec {E : Env} {sh : Sh} {key : PV} {kv : Value} (hk : sh.key key = true) (hr : Rep E key kv) : ∀ (rows : List (List PV)) (es : List MapEntry), keyed sh rows = true → rows.length = es.length →
    (∀ (i : Nat) (row : List PV) (c : PV) (e : MapEntry), rows[i]? = some row → row[0]? = some c → es[i]? = some e → Rep E c e.key) →
    (mix key rows = none → ∀ e ∈ es, e.key ≠ kv) ∧ (∀ i, mix key rows = some i → (∃ e, es[i]? = some e ∧ e.key = kv) ∧ ∀ j e, j < i → es[j]? = some e → e.key ≠ kv)
  | [], es, _, hl, _ => by
    have : es = [] := List.eq_nil_of_length_eq_zero (by simpa using hl.symm)
    subst this
    exact ⟨fun _ e he => by simp at he, fun i h => by simp [mix] at h⟩
  | row :: rows, es, hrows, hl, hd => by
    cases es with
    | nil => simp at hl
    | cons e es =>
      simp only [keyed, List.all_cons, Bool.and_eq_true] at hrows
      obtain ⟨ih1, ih2⟩ := mix_spec hk hr rows es hrows.2 (by simpa using hl) (fun i row c e e1 e2 e3 => hd (i + 1) row c e (by simpa using e1) e2 (by simpa using e3))
      cases row with
      | nil => simp at hrows
      | cons c row =>
        have h0 := keq_spec (E := E) (by simpa using hrows.1) hk (hd 0 (c :: row) c e rfl rfl rfl) hr
        cases hq : keq c key with
        | true =>
          have he := h0.1 hq
          refine ⟨fun h => by simp [mix, mhd, hq] at h, fun i h => ?_⟩
          simp [mix, mhd, hq] at h
          subst h
          exact ⟨⟨e, rfl, he⟩, fun j e' hj _ => by omega⟩
        | false =>
          have he : e.key ≠ kv := fun q => by have := h0.2 q; rw [hq] at this; cases this
          refine ⟨fun h e' he' => ?_, fun i h => ?_⟩
          · simp [mix, mhd, hq] at h
            rcases List.mem_cons.1 he' with rfl | he'
            · exact he
            · exact ih1 h e' he'
          · simp only [mix, mhd, hq, cond_false, Option.map_eq_some_iff] at h
            obtain ⟨i', h1, rfl⟩ := h
            obtain ⟨⟨e', f1, f2⟩, f3⟩ := ih2 i' h1
            refine ⟨⟨e', by simpa using f1, f2⟩, fun j e'' hj hje => ?_⟩
            cases j with
            | zero => simp at hje; subst hje; exact he
            | succ j => exact f3 j e'' (by omega) (by simpa using hje)
theorem find_first {d : TypeDesc} {kv : Value} (hk : IsKey d kv) : ∀ (l : List MapEntry) (n j i : Nat) (e e' : MapEntry), (∀ x ∈ l, IsKey d x.key) → l[i]? = some e → e.key = kv → i < j → Instr.findNow d kv l n ≠ some (some (n + j, e'.val))
  | [], n, j, i, e, e', _, hl, _, _, _ => by simp at hl
  | q :: l, n, j, i, e, e', hq, hl, he, hij, hfn => by
    obtain ⟨rr, hrr, hiff⟩ := sameNow_of_keys hk (hq q (.head _))
    cases rr with
    | true => simp [Instr.findNow, hrr] at hfn; omega
    | false =>
      cases i with
      | zero => simp at hl; subst hl; have := hiff.2 he.symm; cases this
      | succ i =>
        simp only [Instr.findNow, hrr] at hfn
        exact find_first hk l (n + 1) (j - 1) i e e' (fun x hx => hq x (.tail _ hx)) (by simpa using hl) he (by omega) (by rw [hfn]; congr 3; omega)
theorem keyed_at {sh : Sh} {rows : List (List PV)} (h : keyed sh rows = true) {i : Nat} {row : List PV} {c : PV} (e1 : rows[i]? = some row) (e2 : row[0]? = some c) : sh.key c = true := by
  have := List.all_eq_true.1 h row (List.mem_of_getElem? e1)
  cases row with
  | nil => simp at e2
  | cons c' row => simp at e2; subst e2; exact this
theorem keqs_spec : ∀ {ks : List Sh} {us vs : List PV}, sks ks us = true → sks ks vs = true → (keqs us vs = true ↔ us = vs)
  | ks, [], [], _, _ => by simp [keqs]
  | ks, [], v :: vs, _, _ => by simp [keqs]
  | ks, u :: us, [], _, _ => by simp [keqs]
  | ks, u :: us, v :: vs, h1, h2 => by
    obtain ⟨k, ks', rfl, g1, g2⟩ := sks_cons h1
    obtain ⟨k2, ks2, hk, g3, g4⟩ := sks_cons h2
    cases hk
    have ih := keqs_spec g1 g3
    rcases g2 with ⟨q, n, rfl, rfl⟩ | ⟨b, rfl, rfl⟩ | ⟨s, rfl, rfl⟩ <;> rcases g4 with ⟨q', n', hk', rfl⟩ | ⟨b', hk', rfl⟩ | ⟨s', hk', rfl⟩ <;> (try cases hk') <;> simp [keqs, keq1, ih]
def kkey (sh : Sh) (kk : Option (List Sh)) (c : PV) : Bool := match kk with
  | none => sh.key c
  | some ks => match c with | .agg us => sks ks us | _ => false
def keyedG (sh : Sh) (kk : Option (List Sh)) (rows : List (List PV)) : Bool := rows.all fun row => match row with | c :: _ => kkey sh kk c | [] => false
def kgood (P : Program) (K : TypeId) (kk : Option (List Sh)) : Bool := match kk with
  | none => true
  | some ks => eqT P K ks
theorem keyedG_at {sh : Sh} {kk : Option (List Sh)} {rows : List (List PV)} (h : keyedG sh kk rows = true) {i : Nat} {row : List PV} {c : PV} (e1 : rows[i]? = some row) (e2 : row[0]? = some c) : kkey sh kk c = true := by
  have := List.all_eq_true.1 h row (List.mem_of_getElem? e1)
  cases row with
  | nil => simp at e2
  | cons c' row => simp at e2; subst e2; exact this
theorem kkey_spec {sh : Sh} {kk : Option (List Sh)} {c k : PV} {v u : Value} {E : Env} (h1 : kkey sh kk c = true) (h2 : kkey sh kk k = true) (r1 : Rep E c v) (r2 : Rep E k u) : keq c k = true ↔ v = u := by
  cases kk with
  | none => exact keq_spec h1 h2 r1 r2
  | some ks =>
    cases c <;> simp only [kkey, Bool.false_eq_true] at h1
    cases k <;> simp only [kkey, Bool.false_eq_true] at h2
    rw [sks_rep h1 r1, sks_rep h2 r2, keq, keqs_spec h1 h2]
    constructor
    · intro h; rw [h]
    · intro h
      simp only [Value.agg.injEq] at h
      have h := congrArg Array.toList h
      simp only [List.toList_toArray] at h
      exact scv_inj h1 h2 h
theorem kkey_drep {sh : Sh} {kk : Option (List Sh)} {c : PV} {v : Value} {E : Env} (h : kkey sh kk c = true) (hr : Rep E c v) (w : World) (ok : Nat → Prop) : DRep w ok c v := by
  cases kk with
  | none =>
    cases sh <;> cases c <;> simp only [kkey, Sh.key, Bool.false_eq_true] at h
    · rw [hr.int_inv]; exact .int _ _
    · rw [hr.str_inv]; exact .str _
    · rw [hr.bool_inv]; exact .bool _
  | some ks =>
    cases c <;> simp only [kkey, Bool.false_eq_true] at h
    rw [sks_rep h hr]
    refine .agg _ _ (by simp) fun i c v e1 e2 => ?_
    rw [List.getElem?_map, e1] at e2
    simp at e2; subst e2
    exact (sks_drep w ok h i c e1).1
theorem mixG_spec {E : Env} {sh : Sh} {kk : Option (List Sh)} {key : PV} {kv : Value} (hk : kkey sh kk key = true) (hr : Rep E key kv) : ∀ (rows : List (List PV)) (es : List MapEntry), keyedG sh kk rows = true → rows.length = es.length →
    (∀ (i : Nat) (row : List PV) (c : PV) (e : MapEntry), rows[i]? = some row → row[0]? = some c → es[i]? = some e → Rep E c e.key) →
    (mix key rows = none → ∀ e ∈ es, e.key ≠ kv) ∧ (∀ i, mix key rows = some i → (∃ e, es[i]? = some e ∧ e.key = kv) ∧ ∀ j e, j < i → es[j]? = some e → e.key ≠ kv)
  | [], es, _, hl, _ => by
    have : es = [] := List.eq_nil_of_length_eq_zero (by simpa using hl.symm)
    subst this
    exact ⟨fun _ e he => by simp at he, fun i h => by simp [mix] at h⟩
  | row :: rows, es, hrows, hl, hd => by
    cases es with
    | nil => simp at hl
    | cons e es =>
      simp only [keyedG, List.all_cons, Bool.and_eq_true] at hrows
      obtain ⟨ih1, ih2⟩ := mixG_spec hk hr rows es hrows.2 (by simpa using hl) (fun i row c e e1 e2 e3 => hd (i + 1) row c e (by simpa using e1) e2 (by simpa using e3))
      cases row with
      | nil => simp at hrows
      | cons c row =>
        have h0 := kkey_spec (E := E) (by simpa using hrows.1) hk (hd 0 (c :: row) c e rfl rfl rfl) hr
        cases hq : keq c key with
        | true =>
          have he := h0.1 hq
          refine ⟨fun h => by simp [mix, mhd, hq] at h, fun i h => ?_⟩
          simp [mix, mhd, hq] at h
          subst h
          exact ⟨⟨e, rfl, he⟩, fun j e' hj _ => by omega⟩
        | false =>
          have he : e.key ≠ kv := fun q => by have := h0.2 q; rw [hq] at this; cases this
          refine ⟨fun h e' he' => ?_, fun i h => ?_⟩
          · simp [mix, mhd, hq] at h
            rcases List.mem_cons.1 he' with rfl | he'
            · exact he
            · exact ih1 h e' he'
          · simp only [mix, mhd, hq, cond_false, Option.map_eq_some_iff] at h
            obtain ⟨i', h1, rfl⟩ := h
            obtain ⟨⟨e', f1, f2⟩, f3⟩ := ih2 i' h1
            refine ⟨⟨e', by simpa using f1, f2⟩, fun j e'' hj hje => ?_⟩
            cases j with
            | zero => simp at hje; subst hje; exact he
            | succ j => exact f3 j e'' (by omega) (by simpa using hje)
theorem keyG_run {P : Program} {L : Lay} {E : Env} {w : World} (hL : LOk P L) {K : TypeId} {rk : LRow} {kk : Option (List Sh)} {key : PV} {kv : Value} (hrk : L K = some rk) (hg : kgood P K kk = true) (hky : kkey rk.sh kk key = true) (hr : Rep E key kv)
    {rows : List (List PV)} {es : Array MapEntry} (hkeys : keyedG rk.sh kk rows = true) (f2 : rows.length = es.size) (f3 : ∀ row ∈ rows, row.length = 2)
    (f5 : ∀ (i : Nat) (row : List PV) (c : PV) (e : MapEntry), rows[i]? = some row → row[0]? = some c → es[i]? = some e → Rep E c e.key) :
    (∀ em, (Instr.checkKey em 10000 K kv).run P w = .ok () w) ∧ (Instr.keyThatStays kv kv).run P w = .ok kv w ∧
    (((Instr.findKey K kv es.toList).run P w = .ok none w ∧ mix key rows = none) ∨ ∃ j e, (Instr.findKey K kv es.toList).run P w = .ok (some (j, e.val)) w ∧ es[j]? = some e ∧ e.key = kv ∧ mix key rows = some j) := by
  obtain ⟨m1, m2⟩ := mixG_spec hky hr rows es.toList hkeys (by simpa using f2) (fun i row c e e1 e2 e3 => f5 i row c e e1 e2 (by simpa using e3))
  have hks : ∀ e ∈ es.toList, ∃ c, kkey rk.sh kk c = true ∧ Rep E c e.key := fun e he => by
    obtain ⟨j, hj, rfl⟩ := List.getElem_of_mem he
    have hj' : j < rows.length := by rw [f2]; simpa using hj
    have h2 := f3 rows[j] (by simp)
    obtain ⟨c0, hc0⟩ : ∃ c0, rows[j][0]? = some c0 := ⟨rows[j][0], by simp [h2]⟩
    exact ⟨c0, keyedG_at hkeys (List.getElem?_eq_getElem hj') hc0, f5 j _ c0 _ (List.getElem?_eq_getElem hj') hc0 (by simp)⟩
  have fin : ∀ {r : Option (Nat × Value)}, (r = none → ∀ e ∈ es.toList, e.key ≠ kv) → (∀ j v, r = some (j, v) → ∃ e, es.toList[j]? = some e ∧ e.key = kv ∧ v = e.val ∧ ∀ i e', i < j → es.toList[i]? = some e' → e'.key ≠ kv) → (Instr.findKey K kv es.toList).run P w = .ok r w →
      (((Instr.findKey K kv es.toList).run P w = .ok none w ∧ mix key rows = none) ∨ ∃ j e, (Instr.findKey K kv es.toList).run P w = .ok (some (j, e.val)) w ∧ es[j]? = some e ∧ e.key = kv ∧ mix key rows = some j) := by
    intro r h1 h2 hrun
    cases r with
    | none =>
      refine .inl ⟨hrun, ?_⟩
      cases hm : mix key rows with
      | none => rfl
      | some i =>
        obtain ⟨⟨e, g1, g2⟩, _⟩ := m2 i hm
        exact absurd g2 (h1 rfl e (List.mem_of_getElem? g1))
    | some p =>
      obtain ⟨j, v⟩ := p
      obtain ⟨e, g1, g2, rfl, g4⟩ := h2 j v rfl
      refine .inr ⟨j, e, hrun, by simpa using g1, g2, ?_⟩
      cases hm : mix key rows with
      | none => exact absurd g2 (m1 hm e (List.mem_of_getElem? g1))
      | some i =>
        obtain ⟨⟨e', q1, q2⟩, q3⟩ := m2 i hm
        rcases Nat.lt_trichotomy j i with hlt | heq | hgt
        · exact absurd g2 (q3 j e hlt g1)
        · rw [heq]
        · exact absurd q2 (g4 i e' hgt q1)
  cases kk with
  | none =>
    obtain ⟨ik, d, _, hd, _, _, hfit, _⟩ := LRow.spec (hL K rk hrk)
    have hk := isKey_of hfit hky hr
    have hks' : ∀ e ∈ es.toList, IsKey d e.key := fun e he => by
      obtain ⟨c, h1, h2⟩ := hks e he
      exact isKey_of hfit h1 h2
    refine ⟨fun em => run_checkKey hd hk em 9999, run_keyThatStays hk, ?_⟩
    rcases findNow_spec hk es.toList 0 hks' with ⟨h1, h2⟩ | ⟨j, e, h1, h2, h3⟩
    · exact fin (r := none) (fun _ => h2) (fun j v h => by cases h) (run_findKey hd h1)
    · refine fin (r := some (0 + j, e.val)) (fun h => by cases h) (fun j' v h => ?_) (run_findKey hd h1)
      cases h
      refine ⟨e, by rw [Nat.zero_add]; exact h2, h3, rfl, fun i e' hi hei hek => ?_⟩
      rw [Nat.zero_add] at hi
      exact find_first hk es.toList 0 j i e' e hks' hei hek hi h1
  | some ks =>
    have hT : eqT P K ks = true := hg
    cases key <;> simp only [kkey, Bool.false_eq_true] at hky
    rename_i us
    refine ⟨fun em => run_checkKeyS em hT hky hr, run_staysS hky hr, ?_⟩
    rcases run_findKeyS (w := w) hT hky hr es.toList (fun e he => by
      obtain ⟨c, h1, h2⟩ := hks e he
      cases c <;> simp only [kkey, Bool.false_eq_true] at h1
      exact ⟨_, h1, h2⟩) with ⟨h1, h2⟩ | ⟨j, e, h1, h2, h3, h4⟩
    · exact fin (r := none) (fun _ => h2) (fun j v h => by cases h) h1
    · refine fin (r := some (j, e.val)) (fun h => by cases h) (fun j' v h => ?_) h1
      cases h
      exact ⟨e, h2, h3, rfl, h4⟩
section
variable {P : Program} {L : Lay} {C : Ctx} {γ : Nat → Option Nat} {s : St} {a : Act} {w w' : World}
theorem und_map {T K V : TypeId} {r : LRow} (h : r.fits P T = true) (hs : r.sh = .map K V) : P.underlying T = some (.map K V) := by
  obtain ⟨i, d, _, hd, _, _, hf, _⟩ := LRow.spec h
  rw [hs] at hf
  cases d <;> simp [Sh.fits] at hf
  obtain ⟨rfl, rfl⟩ := hf; exact hd
structure Put (w w' : World) (b : Nat) : Prop where
  os : w'.os = w.os
  tape : w'.tape = w.tape
  output : w'.output = w.output
  size : w'.heap.size = w.heap.size
  other : ∀ b', b' ≠ b → w'.heap[b']? = w.heap[b']?
theorem put_leT (_h : Sim C γ s a w) {k g b : Nat} {c c' : Cont} (ho : s.own k = (g, some c)) (hb : γ k = some b) (hn : ∀ cur, w.heap[b]? ≠ some (.cells cur c.ty (0, 0))) (hp : Put w w' b)
    (h1 : c'.ty = c.ty) (h2 : c'.sz = c.sz) (h3 : c.rows.length ≤ c'.rows.length) : (envOf C γ s w).Le (envOf C γ (s.setOwn k g (some c')) w') := by
  have hown : ∀ k' c'', ((s.setOwn k g (some c')).own k').2 = some c'' → ∃ c3, (s.own k').2 = some c3 := by
    intro k' c'' hc
    by_cases hk : k' = k
    · subst hk; exact ⟨c, by rw [ho]⟩
    · rw [setOwn_ne hk] at hc; exact ⟨c'', hc⟩
  have hok : ∀ b', okOf C γ s w b' → okOf C γ (s.setOwn k g (some c')) w' b' := by
    rintro b' ⟨f1, f2, f3⟩
    exact ⟨by rw [hp.size]; exact f1, f2, fun k' c'' hc => let ⟨c3, hc3⟩ := hown k' c'' hc; f3 k' c3 hc3⟩
  have hne : ∀ b', okOf C γ s w b' → b' ≠ b := fun b' hb' e => hb'.2.2 k c (by rw [ho]) (by rw [e]; exact hb)
  refine ⟨hok, fun b' hb' => ⟨hb'.1, hok b' hb'.2⟩, fun b' hb' => hb'.2, fun b' hb' => ?_, fun k' => ?_, fun k' l' _ hl => ?_, fun k' l' b' cur'' _ hl hb' hh' => ?_⟩
  · exact hp.other b' (hne b' hb')
  · show (s.own k').1 ≤ ((s.setOwn k g (some c')).own k').1
    by_cases hk : k' = k
    · subst hk; rw [setOwn_same, ho]; exact Nat.le_refl _
    · rw [setOwn_ne hk]; exact Nat.le_refl _
  · by_cases hk : k' = k
    · subst hk
      simp only [envOf, setOwn_same, Option.map_some, Option.some.injEq] at hl
      subst hl
      exact ⟨⟨γ k', c.ty, c.sz, c.rows.length⟩, by simp [envOf, ho], rfl, h1, h2, h3⟩
    · simp only [envOf, setOwn_ne hk] at hl
      exact ⟨l', hl, rfl, rfl, rfl, Nat.le_refl _⟩
  · refine ⟨cur'', ?_, rfl⟩
    show w'.heap[b']? = _
    have hne' : b' ≠ b := fun e => by
      have hl2 : ∃ c3, ((s.setOwn k g (some c')).own k').2 = some c3 ∧ l' = ⟨γ k', c3.ty, c3.sz, c3.rows.length⟩ := by
        simp only [envOf, Option.map_eq_some_iff] at hl
        obtain ⟨c3, e1, e2⟩ := hl
        exact ⟨c3, e1, e2.symm⟩
      obtain ⟨c3, e1, e2⟩ := hl2
      obtain ⟨c4, e3⟩ := hown k' c3 e1
      have e5 : γ k' = some b := by rw [e2] at hb'; rw [← e]; exact hb'
      have e4 : k' = k := _h.inj k' k c4 c b e3 (by rw [ho]) e5 hb
      subst e4
      rw [setOwn_same] at e1
      simp at e1; subst e1
      rw [e2] at hh'
      have hh' : w.heap[b']? = some (.cells cur'' c'.ty (0, 0)) := hh'
      rw [e, h1] at hh'
      exact hn _ hh'
    rw [hp.other b' hne']; exact hh'
theorem put_le (_h : Sim C γ s a w) {k g b : Nat} {c c' : Cont} (ho : s.own k = (g, some c)) (hb : γ k = some b) (hn : ∀ cur T f, w.heap[b]? ≠ some (.cells cur T f)) (hp : Put w w' b)
    (h1 : c'.ty = c.ty) (h2 : c'.sz = c.sz) (h3 : c.rows.length ≤ c'.rows.length) : (envOf C γ s w).Le (envOf C γ (s.setOwn k g (some c')) w') := put_leT _h ho hb (fun cur => hn cur _ _) hp h1 h2 h3
theorem put_simT (h : Sim C γ s a w) {k g b : Nat} {c c' : Cont} (ho : s.own k = (g, some c)) (hb : γ k = some b) (hn : ∀ cur, w.heap[b]? ≠ some (.cells cur c.ty (0, 0))) (hp : Put w w' b)
    (h1 : c'.ty = c.ty) (h2 : c'.sz = c.sz) (h3 : c.rows.length ≤ c'.rows.length) (hs : SiteOk (envOf C γ (s.setOwn k g (some c')) w') (some b) c') : Sim C γ (s.setOwn k g (some c')) a w' := by
  have hle := put_leT h ho hb hn hp h1 h2 h3
  have hown : ∀ k' c'', ((s.setOwn k g (some c')).own k').2 = some c'' → ∃ c3, (s.own k').2 = some c3 := by
    intro k' c'' hc
    by_cases hk : k' = k
    · subst hk; exact ⟨c, by rw [ho]⟩
    · rw [setOwn_ne hk] at hc; exact ⟨c'', hc⟩
  refine ⟨h.defers, h.size, fun r => (h.regs r).mono hle, fun k' c'' hc => ?_, fun k1 k2 c1 c2 b' e1 e2 e3 e4 => ?_, fun k' c'' b' e1 e2 => ?_, ?_, by rw [hp.size]; exact h.top, fun c v hk => (h.kept c v hk).mono hle⟩
  · by_cases hk : k' = k
    · subst hk
      rw [setOwn_same] at hc
      simp at hc; subst hc
      rw [hb]; exact hs
    · rw [setOwn_ne hk] at hc
      refine (h.sites k' c'' hc).mono hle fun b' hb' => hp.other b' fun e => ?_
      subst e
      exact hk (h.inj k' k c'' c b' hc (by rw [ho]) hb' hb)
  · obtain ⟨d1, f1⟩ := hown k1 c1 e1
    obtain ⟨d2, f2⟩ := hown k2 c2 e2
    exact h.inj k1 k2 d1 d2 b' f1 f2 e3 e4
  · obtain ⟨d1, f1⟩ := hown k' c'' e1
    rw [hp.size]
    exact h.base k' d1 b' f1 e2
  · refine h.below.trans ⟨hp.os, hp.tape, hp.output, by rw [hp.size]; exact Nat.le_refl _, fun b' hb' => hp.other b' fun e => ?_⟩
    have := (h.base k c b (by rw [ho]) hb).1
    omega
theorem put_sim (h : Sim C γ s a w) {k g b : Nat} {c c' : Cont} (ho : s.own k = (g, some c)) (hb : γ k = some b) (hn : ∀ cur T f, w.heap[b]? ≠ some (.cells cur T f)) (hp : Put w w' b)
    (h1 : c'.ty = c.ty) (h2 : c'.sz = c.sz) (h3 : c.rows.length ≤ c'.rows.length) (hs : SiteOk (envOf C γ (s.setOwn k g (some c')) w') (some b) c') : Sim C γ (s.setOwn k g (some c')) a w' := put_simT h ho hb (fun cur => hn cur _ _) hp h1 h2 h3 hs
theorem put_set {b : Nat} {o o' : Obj} (hb : w.heap[b]? = some o) : Put w { w with heap := w.heap.setIfInBounds b o' } b ∧ ({ w with heap := w.heap.setIfInBounds b o' } : World).heap[b]? = some o' :=
  ⟨⟨rfl, rfl, rfl, by simp, fun b' hb' => (heap_set hb).2 b' hb'⟩, (heap_set hb).1⟩
theorem krep_any {E : Env} (hf : ∀ b, E.okf b → E.ok b) {k : Nat} {c : PV} {v : Value} (h : DRep E.w E.okf c v) : KRep E k c v := KRep.up hf (Nat.zero_le k) (k := 0) h
def zone (P : Program) (V : TypeId) : Bool :=
  match P.info? V with
  | some i => (match i.zero with | some v => v.oneCell' | none => false)
  | none => false
theorem zone_spec {V : TypeId} (h : zone P V = true) : ∀ i, P.info? V = some i → ∀ zv, i.zero = some zv → zv.cells = #[zv] := fun i hi zv hz => by
  unfold zone at h
  rw [hi] at h
  simp only [hz] at h
  exact cells_of_one h
theorem snd_mapOld (hL : LOk P L) (h : Sim C γ s a w) {T K V : TypeId} {r rk : LRow} {x y : Operand} {k g i : Nat} {c : Cont} (hr : L T = some r) (hs : r.sh = .map K V) (hrk : L K = some rk) (hx : s.ev x = .mp k g) (ho : s.own k = (g, some c)) (hkd : c.kind = 0)
    (hky : rk.sh.key (s.ev y) = true) (hkeys : keyed rk.sh c.rows = true) (hm : mix (s.ev y) c.rows = some i) {row : List PV} {v : PV} (hrow : c.rows[i]? = some row) (hv : row[1]? = some v) :
    ∃ w' u, (Instr.mapEntry T (a.eval x) (a.eval y)).run P w = .ok (.tuple #[u, goInt i]) w' ∧ Sim C γ s a w' ∧ Rep (envOf C γ s w') v u := by
  have hxr := h.ev x
  rw [hx] at hxr
  obtain ⟨hz, b, hb, hxv⟩ := h.mp_at hxr ho
  obtain ⟨es, nn, f1, f2, f3, f4, f5, f6⟩ := (h.sites k c (by rw [ho])).mp b hb hz (by omega)
  obtain ⟨rfl, f4c⟩ := f4.2.2 hkd
  have f1 : w.heap[b]? = some (.map es es.size) := f1
  obtain ⟨ik, d, _, hd, _, _, hfit, _⟩ := LRow.spec (hL K rk hrk)
  have hkrep := h.ev y
  have hk := isKey_of hfit hky hkrep
  have hks : ∀ e ∈ es.toList, IsKey d e.key := fun e he => by
    obtain ⟨j, hj, rfl⟩ := List.getElem_of_mem he
    have hj' : j < c.rows.length := by rw [f2]; simpa using hj
    have h2 := f3 c.rows[j] (by simp)
    obtain ⟨c0, hc0⟩ : ∃ c0, c.rows[j][0]? = some c0 := ⟨c.rows[j][0], by simp [h2]⟩
    exact isKey_of hfit (keyed_at hkeys (List.getElem?_eq_getElem hj') hc0) ((f5 j _ c0 _ (List.getElem?_eq_getElem hj') hc0 (by simp)).rep envOf_okfok)
  obtain ⟨⟨e, g1, g2⟩, g3⟩ := (mix_spec hky hkrep c.rows es.toList hkeys (by simpa using f2) (fun i row c e e1 e2 e3 => (f5 i row c e e1 e2 (by simpa using e3)).rep envOf_okfok)).2 i hm
  have g1' : es[i]? = some e := by simpa using g1
  rcases findNow_spec hk es.toList 0 hks with ⟨h1, h2⟩ | ⟨j, e', h1, h2, h3⟩
  · exact absurd g2 (h2 e (List.mem_of_getElem? g1))
  · have hji : j = i := by
      rcases Nat.lt_trichotomy j i with hlt | heq | hgt
      · exact absurd h3 (g3 j e' hlt h2)
      · exact heq
      ·
        exfalso
        exact find_first hk es.toList 0 j i e e' hks g1 g2 hgt h1
    subst hji
    have hee : e' = e := by rw [g1] at h2; exact (Option.some.inj h2).symm
    subst hee
    rw [Nat.zero_add] at h1
    have hu := und_map (hL T r hr) hs
    have hst := run_keyThatStays (P := P) (w := w) hk
    let es' := es.modify j fun e => { e with key := a.eval y }
    refine ⟨{ w with heap := w.heap.setIfInBounds b (.map es' es.size) }, e'.val, ?_, ?_⟩
    · rw [hxv]
      have hborn : e'.born = j := f4c j e' g1'
      simp only [Instr.mapEntry, Sem.run_bind, run_underlying hu, Result.andThen, MapKept.run_getObj_map f1, run_checkKey hd hk, run_findKey hd h1, g1', Option.map_some, Option.getD_some, h3, hst, MapKept.run_setObj_map _ f1, hborn]
      rfl
    · have hes' : es' = es := by
        apply Array.ext_getElem?
        intro n
        simp only [es', Array.getElem?_modify]
        by_cases hn : j = n
        · subst hn
          rw [g1', if_pos rfl]
          simp only [Option.map_some]
          rw [← h3]
        · rw [if_neg hn]
      have hw : ({ w with heap := w.heap.setIfInBounds b (.map es' es.size) } : World) = w := by
        rw [hes']
        have : w.heap.setIfInBounds b (.map es es.size) = w.heap := by
          apply Array.ext_getElem?
          intro n
          by_cases hn : n = b
          · subst hn; rw [(heap_set f1).1, f1]
          · rw [(heap_set f1).2 n hn]
        rw [this]
      rw [hw]
      exact ⟨h, (f6 j row v e' hrow hv g1').rep envOf_okfok⟩
theorem snd_mapNew (hL : LOk P L) (h : Sim C γ s a w) {T K V : TypeId} {r rk rv : LRow} {x y : Operand} {k g : Nat} {c : Cont} {z : PV} (hr : L T = some r) (hs : r.sh = .map K V) (hrk : L K = some rk) (hrv : L V = some rv) (hz : rv.zero = some [z]) (hx : s.ev x = .mp k g) (ho : s.own k = (g, some c)) (hkd : c.kind = 0)
    (hzone : ∀ i, P.info? V = some i → ∀ zv, i.zero = some zv → zv.cells = #[zv])
    (hky : rk.sh.key (s.ev y) = true) (hkeys : keyed rk.sh c.rows = true) (hm : mix (s.ev y) c.rows = none) :
    ∃ w' u, (Instr.mapEntry T (a.eval x) (a.eval y)).run P w = .ok (.tuple #[u, goInt c.rows.length]) w' ∧ Sim C γ (s.setOwn k g (some ⟨c.ty, c.sz, c.rows ++ [[s.ev y, z]], c.kind⟩)) a w' ∧
      Rep (envOf C γ (s.setOwn k g (some ⟨c.ty, c.sz, c.rows ++ [[s.ev y, z]], c.kind⟩)) w') z u := by
  have hxr := h.ev x
  rw [hx] at hxr
  obtain ⟨hsz, b, hb, hxv⟩ := h.mp_at hxr ho
  obtain ⟨es, nn, f1, f2, f3, f4, f5, f6⟩ := (h.sites k c (by rw [ho])).mp b hb hsz (by omega)
  obtain ⟨rfl, _⟩ := f4.2.2 hkd
  have f1 : w.heap[b]? = some (.map es es.size) := f1
  obtain ⟨ik, d, _, hd, _, _, hfit, _⟩ := LRow.spec (hL K rk hrk)
  obtain ⟨iv, dv, hiv, _, _, _, _, hzero⟩ := LRow.spec (hL V rv hrv)
  obtain ⟨zv, z1, z2, z3, z4⟩ := hzero _ hz
  have hcz := hzone iv hiv zv z1
  have hzeq := zeq_spec (z4 0 z zv rfl (by rw [hcz]; rfl))
  have hkrep := h.ev y
  have hk := isKey_of hfit hky hkrep
  have hks : ∀ e ∈ es.toList, IsKey d e.key := fun e he => by
    obtain ⟨j, hj, rfl⟩ := List.getElem_of_mem he
    have hj' : j < c.rows.length := by rw [f2]; simpa using hj
    have h2 := f3 c.rows[j] (by simp)
    obtain ⟨c0, hc0⟩ : ∃ c0, c.rows[j][0]? = some c0 := ⟨c.rows[j][0], by simp [h2]⟩
    exact isKey_of hfit (keyed_at hkeys (List.getElem?_eq_getElem hj') hc0) ((f5 j _ c0 _ (List.getElem?_eq_getElem hj') hc0 (by simp)).rep envOf_okfok)
  have hnone := (mix_spec hky hkrep c.rows es.toList hkeys (by simpa using f2) (fun i row c e e1 e2 e3 => (f5 i row c e e1 e2 (by simpa using e3)).rep envOf_okfok)).1 hm
  rcases findNow_spec hk es.toList 0 hks with ⟨h1, h2⟩ | ⟨j, e', h1, h2, h3⟩
  · have hu := und_map (hL T r hr) hs
    obtain ⟨hp, hnew⟩ := put_set (o' := .map (es.push { key := a.eval y, val := zv, born := es.size }) (es.size + 1)) f1
    have hl1 : c.rows.length ≤ (c.rows ++ [[s.ev y, z]]).length := by simp
    have hnc : ∀ cur T f, w.heap[b]? ≠ some (.cells cur T f) := fun cur T f e => by rw [f1] at e; simp at e
    have hle := put_le (c' := ⟨c.ty, c.sz, c.rows ++ [[s.ev y, z]], c.kind⟩) h ho hb hnc hp rfl rfl hl1
    refine ⟨_, zv, ?_, put_sim h ho hb hnc hp rfl rfl hl1 ⟨(fun e => by cases e), fun b' hb' _ _ => ?_, (fun b' _ _ hk3 => by simp only at hk3; omega), (fun b' _ hz' => by simp only at hz'; omega)⟩, .d (hzeq _ _).1⟩
    · rw [hxv]
      simp only [Instr.mapEntry, Sem.run_bind, run_underlying hu, Result.andThen, MapKept.run_getObj_map f1, run_checkKey hd hk, run_findKey hd h1, zeroValue, typeInfo, run_program, hiv, z1, Sem.run_pure, MapKept.run_setObj_map _ f1, f2]
    · have hb' : b' = b := (Option.some.inj hb').symm
      subst hb'
      have key0 : KRep (envOf C γ s w) c.kind (s.ev y) (a.eval y) := by
        have hd0 : DRep w (envOf C γ s w).okf (s.ev y) (a.eval y) := by
          generalize s.ev y = pk at hky hkrep
          generalize rk.sh = shk at hky
          cases shk <;> cases pk <;> simp only [Sh.key, Bool.false_eq_true] at hky
          · rw [hkrep.int_inv]; exact .int _ _
          · rw [hkrep.str_inv]; exact .str _
          · rw [hkrep.bool_inv]; exact .bool _
        exact krep_any envOf_okfok hd0
      refine ⟨_, _, hnew, by simp [f2], fun row hrow => ?_, f4.push _ rfl, fun i row c0 e e1 e2 e3 => ?_, fun i row c0 e e1 e2 e3 => ?_⟩
      · rcases List.mem_append.1 hrow with hrow | hrow
        · exact f3 row hrow
        · simp at hrow; subst hrow; rfl
      · rw [Array.getElem?_push] at e3
        rw [List.getElem?_append] at e1
        split at e3
        · rename_i hi
          subst hi
          rw [if_neg (by omega), f2, Nat.sub_self] at e1
          simp at e1 e3; subst e1; subst e3
          simp at e2; subst e2
          exact key0.mono hle
        · rename_i hi
          have hlt : i < es.size := (Array.getElem?_eq_some_iff.1 e3).1
          rw [if_pos (by omega)] at e1
          exact (f5 i row c0 e e1 e2 e3).mono hle
      · rw [Array.getElem?_push] at e3
        rw [List.getElem?_append] at e1
        split at e3
        · rename_i hi
          subst hi
          rw [if_neg (by omega), f2, Nat.sub_self] at e1
          simp at e1 e3; subst e1; subst e3
          simp at e2; subst e2
          exact krep_any envOf_okfok (hzeq _ _).1
        · rename_i hi
          have hlt : i < es.size := (Array.getElem?_eq_some_iff.1 e3).1
          rw [if_pos (by omega)] at e1
          exact (f6 i row c0 e e1 e2 e3).mono hle
  · exact absurd h3 (hnone e' (List.mem_of_getElem? h2))
theorem snd_entryStore (h : Sim C γ s a w) {T : TypeId} {x st y : Operand} {k g i kd : Nat} {ki : IntKind} {c : Cont} {row : List PV} (hx : s.ev x = .mp k g) (ho : s.own k = (g, some c)) (hst : s.ev st = .int ki i) (hrow : c.rows[i]? = some row) (hk0 : c.kind = 0) (hk : c.kind ≤ kd) (hk3 : kd < 3) (hkd : kOk kd (s.ev y) = true) :
    ∃ w', (Instr.entryStore T (a.eval x) (a.eval st) (a.eval y)).run P w = .ok () w' ∧ Sim C γ (s.setOwn k g (some ⟨c.ty, c.sz, c.rows.set i (row.set 1 (nrm kd (s.ev y))), kd⟩)) a w' := by
  have hxr := h.ev x
  rw [hx] at hxr
  obtain ⟨hsz, b, hb, hxv⟩ := h.mp_at hxr ho
  obtain ⟨es, nn, f1, f2, f3, f4, f5, f6⟩ := (h.sites k c (by rw [ho])).mp b hb hsz (by omega)
  obtain ⟨rfl, f4c⟩ := f4.2.2 hk0
  have f1 : w.heap[b]? = some (.map es es.size) := f1
  have hi : i < es.size := by rw [← f2]; exact (List.getElem?_eq_some_iff.1 hrow).1
  have hsv := h.ev st
  rw [hst] at hsv
  obtain ⟨hp, hnew⟩ := put_set (o' := .map (es.modify i fun e => { e with val := a.eval y }) es.size) f1
  have hl1 : c.rows.length ≤ (c.rows.set i (row.set 1 (nrm kd (s.ev y)))).length := by simp
  have hnc : ∀ cur T f, w.heap[b]? ≠ some (.cells cur T f) := fun cur T f e => by rw [f1] at e; simp at e
  have hle := put_le (c' := ⟨c.ty, c.sz, c.rows.set i (row.set 1 (nrm kd (s.ev y))), kd⟩) h ho hb hnc hp rfl rfl hl1
  have hidx : es.findIdx? (fun e => (e.born : Int) == (i : Int)) = some i := by
    rw [Array.findIdx?_eq_some_iff_getElem]
    refine ⟨hi, ?_, fun j hj => ?_⟩
    · simp [f4c i _ (Array.getElem?_eq_getElem hi)]
    · have hj' : j < es.size := by omega
      have := f4c j _ (Array.getElem?_eq_getElem hj')
      simp [this]; omega
  refine ⟨_, ?_, put_sim h ho hb hnc hp rfl rfl hl1 ⟨(fun e => by cases e), fun b' hb' _ _ => ?_, (fun b' _ _ hk3 => by simp only at hk3; omega), (fun b' _ hz' => by simp only at hz'; omega)⟩⟩
  · rw [hxv, hsv.int_inv]
    simp only [Instr.entryStore, Sem.run_bind, Result.andThen, MapKept.run_getObj_map f1, asInt, asIntOf, Sem.run_pure, hidx, MapKept.run_setObj_map _ f1]
  · have hb' : b' = b := (Option.some.inj hb').symm
    subst hb'
    have hrl : row.length = 2 := f3 row (List.mem_of_getElem? hrow)
    refine ⟨_, _, hnew, by simp [f2], fun row' hr' => ?_, (f4.up hk).modify i _ (fun _ => rfl), fun j row' c0 e e1 e2 e3 => ?_, fun j row' c0 e e1 e2 e3 => ?_⟩
    · rcases List.mem_or_eq_of_mem_set hr' with hr' | rfl
      · exact f3 row' hr'
      · simpa using hrl
    · rw [Array.getElem?_modify] at e3
      split at e3
      · rename_i hij
        subst hij
        cases hq : es[i]? with
        | none => rw [hq] at e3; simp at e3
        | some q =>
          rw [hq] at e3; simp at e3; subst e3
          rw [List.getElem?_set_self (by omega)] at e1
          have e1 := Option.some.inj e1
          subst e1
          rw [List.getElem?_set_ne (by decide)] at e2
          exact ((f5 i row c0 q hrow e2 hq).up envOf_okfok hk).mono hle
      · rename_i hij
        rw [List.getElem?_set_ne hij] at e1
        exact ((f5 j row' c0 e e1 e2 e3).up envOf_okfok hk).mono hle
    · rw [Array.getElem?_modify] at e3
      split at e3
      · rename_i hij
        subst hij
        cases hq : es[i]? with
        | none => rw [hq] at e3; simp at e3
        | some q =>
          rw [hq] at e3; simp at e3; subst e3
          rw [List.getElem?_set_self (by omega)] at e1
          have e1 := Option.some.inj e1
          subst e1
          rw [List.getElem?_set_self (by omega)] at e2
          have e2 := Option.some.inj e2
          subst e2
          exact (kOk_spec envOf_okfok hkd (h.ev y)).mono hle
      · rename_i hij
        rw [List.getElem?_set_ne hij] at e1
        exact ((f6 j row' c0 e e1 e2 e3).up envOf_okfok hk).mono hle
theorem snd_makeMap (h : Sim C γ s a w) (T : TypeId) (k : Nat) :
    Sim C (upg γ k (some w.heap.size)) (s.fin k ⟨T, 0, [], 0⟩) a (w.alloc (.map #[] 0)) ∧ Rep (envOf C (upg γ k (some w.heap.size)) (s.fin k ⟨T, 0, [], 0⟩) (w.alloc (.map #[] 0))) (.mp k ((s.own k).1 + 1)) (.map (some w.heap.size)) := by
  have ht : Turn C γ s w (w.alloc (.map #[] 0)) k (some w.heap.size) := Turn.alloc _ k
  refine ⟨ht.sim h ⟨(fun e => by cases e), fun b' hb' _ _ => ?_, (fun b' _ _ hk3 => by simp only at hk3; omega), (fun b' _ hz' => by simp only at hz'; omega)⟩, .mp ?_ fun _ l hl => ?_⟩
  · have hb' : b' = w.heap.size := (Option.some.inj hb').symm
    subst hb'
    exact ⟨#[], 0, heap_alloc_at _ _, rfl, (fun row hr => by simp at hr), .nil 0, (fun i row c e e1 => by simp at e1), (fun i row c e e1 => by simp at e1)⟩
  · show _ ≤ ((s.fin k _).own k).1
    rw [St.fin, setOwn_same]; exact Nat.le_refl _
  · simp only [envOf, St.fin, setOwn_same, upg_same, Option.map_some, Option.some.injEq] at hl
    subst hl
    exact ⟨rfl, w.heap.size, rfl, rfl⟩
def pairs (rows : List (List PV)) : List (List PV) := [.nil :: rows.map .agg]
theorem snd_range (hL : LOk P L) (h : Sim C γ s a w) {T K V : TypeId} {r : LRow} {x : Operand} {rows : List (List PV)} (k : Nat) (hr : L T = some r) (hs : r.sh = .map K V) (hx : s.ev x = .mapd rows) :
    ∃ w', (Instr.range T (a.eval x)).run P w = .ok (.pointer (some ⟨w.heap.size, 0, none⟩)) w' ∧ Sim C (upg γ k (some w.heap.size)) (s.fin k ⟨T, 0, pairs rows, 3⟩) a w' ∧
      Rep (envOf C (upg γ k (some w.heap.size)) (s.fin k ⟨T, 0, pairs rows, 3⟩) w') (.mi k ((s.own k).1 + 1)) (.pointer (some ⟨w.heap.size, 0, none⟩)) := by
  have hxr := h.ev x
  rw [hx] at hxr
  obtain ⟨b, es, nn, hxv, hok, f1, f2, f3, f4, f5, f6⟩ : ∃ (b : Nat) (es : Array MapEntry) (nn : Nat), a.eval x = .map (some b) ∧ okOf C γ s w b ∧ w.heap[b]? = some (.map es nn) ∧ rows.length = es.size ∧ (∀ row ∈ rows, row.length = 2) ∧ BornOk 1 es nn ∧
      (∀ (i : Nat) (row : List PV) (c : PV) (e : MapEntry), rows[i]? = some row → row[0]? = some c → es[i]? = some e → DRep w (okOf C γ s w) c e.key) ∧
      (∀ (i : Nat) (row : List PV) (c : PV) (e : MapEntry), rows[i]? = some row → row[1]? = some c → es[i]? = some e → DRep w (okOf C γ s w) c e.val) := by
    generalize a.eval x = xv at hxr
    cases hxr with
    | d hd => cases hd with | mapd rows b es nn h1 h2 h3 h4 h5 h6 h7 => exact ⟨b, es, nn, rfl, h1, h2, h3, h4, h5, h6, h7⟩
  have ht : Turn C γ s w (w.alloc (.mapIter (some b) nn #[] nn)) k (some w.heap.size) := Turn.alloc _ k
  have hle := ht.le h ⟨T, 0, pairs rows, 3⟩
  refine ⟨w.alloc (.mapIter (some b) nn #[] nn), by rw [hxv]; exact run_range_map w T K V b es nn (und_map (hL T r hr) hs) f1, ht.sim h ⟨(fun e => by cases e), (fun b' _ _ hk3 => by simp only at hk3; omega), fun b' hb' _ _ => ?_, (fun b' _ hz' => by simp only at hz'; omega)⟩, .mi ?_ fun _ l hl => ?_⟩
  · have hb' : b' = w.heap.size := (Option.some.inj hb').symm
    subst hb'
    have hfil : (es.filter fun e => !(#[] : Array Nat).contains e.born) = es := Array.filter_eq_self.2 (fun e _ => by simp)
    show IterAt _ _ _
    refine ⟨b, es, #[], nn, heap_alloc_at _ _, hle.ok b hok, hle.mapc b _ _ hok f1, f4, .nil, rows.map .agg, rfl, .inl rfl, by rw [hfil]; simpa using f2, fun i c e e1 e2 => ?_⟩
    rw [hfil] at e2
    rw [List.getElem?_map] at e1
    cases hq : rows[i]? with
    | none => rw [hq] at e1; simp at e1
    | some row =>
      rw [hq] at e1; simp at e1; subst e1
      have h2 := f3 row (List.mem_of_getElem? hq)
      obtain ⟨ck, cv, rfl⟩ : ∃ ck cv, row = [ck, cv] := by
        match row, h2 with
        | [ck, cv], _ => exact ⟨ck, cv, rfl⟩
      exact ⟨ck, cv, rfl, hle.drep (f5 i _ ck e hq rfl e2), hle.drep (f6 i _ cv e hq rfl e2)⟩
  · show _ ≤ ((s.fin k _).own k).1
    rw [St.fin, setOwn_same]; exact Nat.le_refl _
  · simp only [envOf, St.fin, setOwn_same, upg_same, Option.map_some, Option.some.injEq] at hl
    subst hl
    exact ⟨rfl, w.heap.size, rfl, rfl⟩
def mval (z key : PV) (rows : List (List PV)) : PV := match mix key rows with | some i => (match rows[i]? with | some row => row.getD 1 z | none => z) | none => z
def mput (key v : PV) (rows : List (List PV)) : List (List PV) := match mix key rows with | some i => (match rows[i]? with | some row => rows.set i (row.set 1 v) | none => rows) | none => rows ++ [[key, v]]
theorem run_look {E : Env} {b nn : Nat} {es : Array MapEntry} {rows : List (List PV)} (hL : LOk P L) {T K V : TypeId} {r rk rv : LRow} {z key : PV} {kv : Value} {ok : Bool} (hr : L T = some r) (hs : r.sh = .map K V) (hrk : L K = some rk) (hrv : L V = some rv) (hz : rv.zero = some [z]) (hz1 : zone P V = true)
    (f1 : E.w.heap[b]? = some (.map es nn)) (f2 : rows.length = es.size) (f3 : ∀ row ∈ rows, row.length = 2)
    (f5 : ∀ (i : Nat) (row : List PV) (c : PV) (e : MapEntry), rows[i]? = some row → row[0]? = some c → es[i]? = some e → Rep E c e.key)
    (f6 : ∀ (i : Nat) (row : List PV) (c : PV) (e : MapEntry), rows[i]? = some row → row[1]? = some c → es[i]? = some e → Rep E c e.val)
    (hky : rk.sh.key key = true) (hkrep : Rep E key kv) (hkeys : keyed rk.sh rows = true) :
    ∃ u, (Instr.lookup T (.map (some b)) kv ok).run P E.w = .ok u E.w ∧ Rep E (bif ok then .tup [mval z key rows, .bool (mix key rows).isSome] else mval z key rows) u := by
  obtain ⟨ik, d, _, hd, _, _, hfit, _⟩ := LRow.spec (hL K rk hrk)
  obtain ⟨iv, dv, hiv, _, _, _, _, hzero⟩ := LRow.spec (hL V rv hrv)
  obtain ⟨zv, z1, z2, z3, z4⟩ := hzero _ hz
  have hcz := zone_spec hz1 iv hiv zv z1
  have hzeq := zeq_spec (z4 0 z zv rfl (by rw [hcz]; rfl))
  have hk := isKey_of hfit hky hkrep
  have hks : ∀ e ∈ es.toList, IsKey d e.key := fun e he => by
    obtain ⟨j, hj, rfl⟩ := List.getElem_of_mem he
    have hj' : j < rows.length := by rw [f2]; simpa using hj
    have h2 := f3 rows[j] (by simp)
    obtain ⟨c0, hc0⟩ : ∃ c0, rows[j][0]? = some c0 := ⟨rows[j][0], by simp [h2]⟩
    exact isKey_of hfit (keyed_at hkeys (List.getElem?_eq_getElem hj') hc0) (f5 j _ c0 _ (List.getElem?_eq_getElem hj') hc0 (by simp))
  obtain ⟨m1, m2⟩ := mix_spec hky hkrep rows es.toList hkeys (by simpa using f2) (fun i row c e e1 e2 e3 => f5 i row c e e1 e2 (by simpa using e3))
  have hu := und_map (hL T r hr) hs
  have fin : ∀ (v : Value) (f : Bool) (p : PV), Rep E p v → Rep E (bif ok then .tup [p, .bool f] else p) (if ok then .tuple #[v, .bool f] else v) := by
    intro v f p hp
    cases ok
    · exact hp
    · refine .tup [p, .bool f] [v, .bool f] rfl fun j c0 v0 g1 g2 => ?_
      match j with
      | 0 => simp at g1 g2; subst g1; subst g2; exact hp
      | 1 => simp at g1 g2; subst g1; subst g2; exact .d (.bool _)
      | j + 2 => simp at g1
  rcases findNow_spec hk es.toList 0 hks with ⟨h1, h2⟩ | ⟨j, e, h1, h2, h3⟩
  · have hm : mix key rows = none := by
      cases hm : mix key rows with
      | none => rfl
      | some i =>
        obtain ⟨⟨e, g1, g2⟩, _⟩ := m2 i hm
        exact absurd g2 (h2 e (List.mem_of_getElem? g1))
    refine ⟨if ok then .tuple #[zv, .bool false] else zv, ?_, ?_⟩
    · simp only [Instr.lookup, Sem.run_bind, run_underlying hu, Result.andThen, MapKept.run_getObj_map f1, Sem.run_pure, run_checkKey hd hk, run_findKey hd h1, zeroValue, typeInfo, run_program, hiv, z1]
    · have hmv : mval z key rows = z := by simp [mval, hm]
      rw [hmv, hm]
      exact fin zv false z (.d (hzeq _ _).1)
  · have hex : ∃ i, mix key rows = some i := by
      cases hm : mix key rows with
      | none => exact absurd h3 (m1 hm e (List.mem_of_getElem? h2))
      | some i => exact ⟨i, rfl⟩
    obtain ⟨i, hm⟩ := hex
    obtain ⟨⟨e', g1, g2⟩, g3⟩ := m2 i hm
    have hji : j = i := by
      rcases Nat.lt_trichotomy j i with hlt | heq | hgt
      · exact absurd h3 (g3 j e hlt h2)
      · exact heq
      · exact absurd h1 (find_first hk es.toList 0 j i e' e hks g1 g2 hgt)
    subst hji
    have hlt := mix_lt hm
    have hrow : rows[j]? = some rows[j] := List.getElem?_eq_getElem hlt
    have hl2 := f3 rows[j] (by simp)
    have hv1 : rows[j][1]? = some (rows[j].getD 1 z) := by rw [List.getD_eq_getElem?_getD, List.getElem?_eq_getElem (by omega)]; rfl
    have hej : es[j]? = some e := by simpa using h2
    refine ⟨if ok then .tuple #[e.val, .bool true] else e.val, ?_, ?_⟩
    · simp only [Instr.lookup, Sem.run_bind, run_underlying hu, Result.andThen, MapKept.run_getObj_map f1, Sem.run_pure, run_checkKey hd hk, run_findKey hd h1]
    · have hmv : mval z key rows = rows[j].getD 1 z := by simp only [mval, hm, hrow]
      rw [hmv, hm]
      exact fin e.val true _ (f6 j _ _ e hrow hv1 hej)
def ZVal (P : Program) (V : TypeId) (z : PV) : Prop := ∃ iv zv, P.info? V = some iv ∧ iv.zero = some zv ∧ ∀ w ok, DRep w ok z zv
theorem run_lookG {E : Env} {b nn : Nat} {es : Array MapEntry} {rows : List (List PV)} (hL : LOk P L) {T K V : TypeId} {r rk : LRow} {kk : Option (List Sh)} {z key : PV} {kv : Value} {ok : Bool} (hr : L T = some r) (hs : r.sh = .map K V) (hrk : L K = some rk) (hz : ZVal P V z)
    (f1 : E.w.heap[b]? = some (.map es nn)) (f2 : rows.length = es.size) (f3 : ∀ row ∈ rows, row.length = 2)
    (f5 : ∀ (i : Nat) (row : List PV) (c : PV) (e : MapEntry), rows[i]? = some row → row[0]? = some c → es[i]? = some e → Rep E c e.key)
    (f6 : ∀ (i : Nat) (row : List PV) (c : PV) (e : MapEntry), rows[i]? = some row → row[1]? = some c → es[i]? = some e → Rep E c e.val)
    (hg : kgood P K kk = true) (hky : kkey rk.sh kk key = true) (hkrep : Rep E key kv) (hkeys : keyedG rk.sh kk rows = true) :
    ∃ u, (Instr.lookup T (.map (some b)) kv ok).run P E.w = .ok u E.w ∧ Rep E (bif ok then .tup [mval z key rows, .bool (mix key rows).isSome] else mval z key rows) u := by
  obtain ⟨iv, zv, hiv, z1, hzeq⟩ := hz
  have hu := und_map (hL T r hr) hs
  obtain ⟨k1, k2, k3⟩ := keyG_run (w := E.w) hL hrk hg hky hkrep hkeys f2 f3 f5
  have fin : ∀ (v : Value) (f : Bool) (p : PV), Rep E p v → Rep E (bif ok then .tup [p, .bool f] else p) (if ok then .tuple #[v, .bool f] else v) := by
    intro v f p hp
    cases ok
    · exact hp
    · refine .tup [p, .bool f] [v, .bool f] rfl fun j c0 v0 g1 g2 => ?_
      match j with
      | 0 => simp at g1 g2; subst g1; subst g2; exact hp
      | 1 => simp at g1 g2; subst g1; subst g2; exact .d (.bool _)
      | j + 2 => simp at g1
  rcases k3 with ⟨h1, hm⟩ | ⟨j, e, h1, hej, h3, hm⟩
  · refine ⟨if ok then .tuple #[zv, .bool false] else zv, ?_, ?_⟩
    · simp only [Instr.lookup, Sem.run_bind, run_underlying hu, Result.andThen, MapKept.run_getObj_map f1, Sem.run_pure, k1, h1, zeroValue, typeInfo, run_program, hiv, z1]
    · have hmv : mval z key rows = z := by simp [mval, hm]
      rw [hmv, hm]
      exact fin zv false z (.d (hzeq _ _))
  · have hlt := mix_lt hm
    have hrow : rows[j]? = some rows[j] := List.getElem?_eq_getElem hlt
    have hl2 := f3 rows[j] (by simp)
    have hv1 : rows[j][1]? = some (rows[j].getD 1 z) := by rw [List.getD_eq_getElem?_getD, List.getElem?_eq_getElem (by omega)]; rfl
    refine ⟨if ok then .tuple #[e.val, .bool true] else e.val, ?_, ?_⟩
    · simp only [Instr.lookup, Sem.run_bind, run_underlying hu, Result.andThen, MapKept.run_getObj_map f1, Sem.run_pure, k1, h1]
    · have hmv : mval z key rows = rows[j].getD 1 z := by simp only [mval, hm, hrow]
      rw [hmv, hm]
      exact fin e.val true _ (f6 j _ _ e hrow hv1 hej)
theorem snd_mapSet (hL : LOk P L) (h : Sim C γ s a w) {T K V : TypeId} {r rk : LRow} {x y v : Operand} {k g kd : Nat} {c : Cont} (hr : L T = some r) (hs : r.sh = .map K V) (hrk : L K = some rk) (hx : s.ev x = .mp k g) (ho : s.own k = (g, some c)) (hk1 : c.kind ≤ kd) (hk3 : kd < 3)
    (hky : rk.sh.key (s.ev y) = true) (hkeys : keyed rk.sh c.rows = true) (hkd : kOk kd (s.ev v) = true) :
    ∃ w', (Instr.mapUpdate T (a.eval x) (a.eval y) (a.eval v)).run P w = .ok () w' ∧ Sim C γ (s.setOwn k g (some ⟨c.ty, c.sz, mput (s.ev y) (nrm kd (s.ev v)) c.rows, kd⟩)) a w' := by
  have hxr := h.ev x
  rw [hx] at hxr
  obtain ⟨hsz, b, hb, hxv⟩ := h.mp_at hxr ho
  obtain ⟨es, nn, f1, f2, f3, f4, f5, f6⟩ := (h.sites k c (by rw [ho])).mp b hb hsz (by omega)
  have f1 : w.heap[b]? = some (.map es nn) := f1
  obtain ⟨ik, d, _, hd, _, _, hfit, _⟩ := LRow.spec (hL K rk hrk)
  have hkrep := h.ev y
  have hk := isKey_of hfit hky hkrep
  have hks : ∀ e ∈ es.toList, IsKey d e.key := fun e he => by
    obtain ⟨j, hj, rfl⟩ := List.getElem_of_mem he
    have hj' : j < c.rows.length := by rw [f2]; simpa using hj
    have h2 := f3 c.rows[j] (by simp)
    obtain ⟨c0, hc0⟩ : ∃ c0, c.rows[j][0]? = some c0 := ⟨c.rows[j][0], by simp [h2]⟩
    exact isKey_of hfit (keyed_at hkeys (List.getElem?_eq_getElem hj') hc0) ((f5 j _ c0 _ (List.getElem?_eq_getElem hj') hc0 (by simp)).rep envOf_okfok)
  obtain ⟨m1, m2⟩ := mix_spec hky hkrep c.rows es.toList hkeys (by simpa using f2) (fun i row c e e1 e2 e3 => (f5 i row c e e1 e2 (by simpa using e3)).rep envOf_okfok)
  have hu := und_map (hL T r hr) hs
  have hnc : ∀ cur T f, w.heap[b]? ≠ some (.cells cur T f) := fun cur T f e => by rw [f1] at e; simp at e
  have vrep := kOk_spec (k := kd) envOf_okfok hkd (h.ev v)
  have key0 : ∀ {kd : Nat}, KRep (envOf C γ s w) kd (s.ev y) (a.eval y) := by
    intro kd
    have hd0 : DRep w (envOf C γ s w).okf (s.ev y) (a.eval y) := by
      generalize s.ev y = pk at hky hkrep
      generalize rk.sh = shk at hky
      cases shk <;> cases pk <;> simp only [Sh.key, Bool.false_eq_true] at hky
      · rw [hkrep.int_inv]; exact .int _ _
      · rw [hkrep.str_inv]; exact .str _
      · rw [hkrep.bool_inv]; exact .bool _
    exact krep_any envOf_okfok hd0
  rcases findNow_spec hk es.toList 0 hks with ⟨h1, h2⟩ | ⟨j, e, h1, h2, h3⟩
  · have hm : mix (s.ev y) c.rows = none := by
      cases hm : mix (s.ev y) c.rows with
      | none => rfl
      | some i =>
        obtain ⟨⟨e, g1, g2⟩, _⟩ := m2 i hm
        exact absurd g2 (h2 e (List.mem_of_getElem? g1))
    have hmp : mput (s.ev y) (nrm kd (s.ev v)) c.rows = c.rows ++ [[s.ev y, nrm kd (s.ev v)]] := by simp only [mput, hm]
    rw [hmp]
    obtain ⟨hp, hnew⟩ := put_set (o' := .map (es.push { key := a.eval y, val := a.eval v, born := nn }) (nn + 1)) f1
    have hl1 : c.rows.length ≤ (c.rows ++ [[s.ev y, nrm kd (s.ev v)]]).length := by simp
    have hle := put_le (c' := ⟨c.ty, c.sz, c.rows ++ [[s.ev y, nrm kd (s.ev v)]], kd⟩) h ho hb hnc hp rfl rfl hl1
    refine ⟨_, ?_, put_sim h ho hb hnc hp rfl rfl hl1 ⟨(fun e => by cases e), fun b' hb' _ _ => ?_, (fun b' _ _ hk3 => by simp only at hk3; omega), (fun b' _ hz' => by simp only at hz'; omega)⟩⟩
    · rw [hxv]
      simp only [Instr.mapUpdate, Sem.run_bind, run_underlying hu, Result.andThen, MapKept.run_getObj_map f1, run_checkKey hd hk, run_findKey hd h1, MapKept.run_setObj_map _ f1]
    · have hb' : b' = b := (Option.some.inj hb').symm
      subst hb'
      refine ⟨_, _, hnew, by simp [f2], fun row hrow => ?_, (f4.up hk1).push _ rfl, fun i row c0 e e1 e2 e3 => ?_, fun i row c0 e e1 e2 e3 => ?_⟩
      · rcases List.mem_append.1 hrow with hrow | hrow
        · exact f3 row hrow
        · simp at hrow; subst hrow; rfl
      · rw [Array.getElem?_push] at e3
        rw [List.getElem?_append] at e1
        split at e3
        · rename_i hi
          subst hi
          rw [if_neg (by omega), f2, Nat.sub_self] at e1
          simp at e1 e3; subst e1; subst e3
          simp at e2; subst e2
          exact key0.mono hle
        · rename_i hi
          have hlt : i < es.size := (Array.getElem?_eq_some_iff.1 e3).1
          rw [if_pos (by omega)] at e1
          exact ((f5 i row c0 e e1 e2 e3).up envOf_okfok hk1).mono hle
      · rw [Array.getElem?_push] at e3
        rw [List.getElem?_append] at e1
        split at e3
        · rename_i hi
          subst hi
          rw [if_neg (by omega), f2, Nat.sub_self] at e1
          simp at e1 e3; subst e1; subst e3
          simp at e2; subst e2
          exact vrep.mono hle
        · rename_i hi
          have hlt : i < es.size := (Array.getElem?_eq_some_iff.1 e3).1
          rw [if_pos (by omega)] at e1
          exact ((f6 i row c0 e e1 e2 e3).up envOf_okfok hk1).mono hle
  · have hex : ∃ i, mix (s.ev y) c.rows = some i := by
      cases hm : mix (s.ev y) c.rows with
      | none => exact absurd h3 (m1 hm e (List.mem_of_getElem? h2))
      | some i => exact ⟨i, rfl⟩
    obtain ⟨i, hm⟩ := hex
    obtain ⟨⟨e', g1, g2⟩, g3⟩ := m2 i hm
    have hji : j = i := by
      rcases Nat.lt_trichotomy j i with hlt | heq | hgt
      · exact absurd h3 (g3 j e hlt h2)
      · exact heq
      · exact absurd h1 (find_first hk es.toList 0 j i e' e hks g1 g2 hgt)
    subst hji
    rw [Nat.zero_add] at h1
    have hlt := mix_lt hm
    have hrow : c.rows[j]? = some c.rows[j] := List.getElem?_eq_getElem hlt
    have hrl := f3 c.rows[j] (by simp)
    have hej : es[j]? = some e := by simpa using h2
    have hmp : mput (s.ev y) (nrm kd (s.ev v)) c.rows = c.rows.set j (c.rows[j].set 1 (nrm kd (s.ev v))) := by simp only [mput, hm, hrow]
    rw [hmp]
    have hst := run_keyThatStays (P := P) (w := w) hk
    obtain ⟨hp, hnew⟩ := put_set (o' := .map (es.modify j fun e => { e with key := a.eval y, val := a.eval v }) nn) f1
    have hl1 : c.rows.length ≤ (c.rows.set j (c.rows[j].set 1 (nrm kd (s.ev v)))).length := by simp
    have hle := put_le (c' := ⟨c.ty, c.sz, c.rows.set j (c.rows[j].set 1 (nrm kd (s.ev v))), kd⟩) h ho hb hnc hp rfl rfl hl1
    refine ⟨_, ?_, put_sim h ho hb hnc hp rfl rfl hl1 ⟨(fun e => by cases e), fun b' hb' _ _ => ?_, (fun b' _ _ hk3 => by simp only at hk3; omega), (fun b' _ hz' => by simp only at hz'; omega)⟩⟩
    · rw [hxv]
      simp only [Instr.mapUpdate, Sem.run_bind, run_underlying hu, Result.andThen, MapKept.run_getObj_map f1, run_checkKey hd hk, run_findKey hd h1, hej, Option.map_some, Option.getD_some, h3, hst, MapKept.run_setObj_map _ f1]
    · have hb' : b' = b := (Option.some.inj hb').symm
      subst hb'
      refine ⟨_, _, hnew, by simp [f2], fun row' hr' => ?_, (f4.up hk1).modify j _ (fun _ => rfl), fun i row' c0 e e1 e2 e3 => ?_, fun i row' c0 e e1 e2 e3 => ?_⟩
      · rcases List.mem_or_eq_of_mem_set hr' with hr' | rfl
        · exact f3 row' hr'
        · simpa using hrl
      · rw [Array.getElem?_modify] at e3
        split at e3
        · rename_i hij
          subst hij
          rw [hej] at e3
          simp at e3; subst e3
          rw [List.getElem?_set_self (by omega)] at e1
          have e1 := Option.some.inj e1
          subst e1
          rw [List.getElem?_set_ne (by decide)] at e2
          have := ((f5 j _ c0 _ hrow e2 hej).up envOf_okfok hk1).mono hle
          rw [h3] at this
          exact this
        · rename_i hij
          rw [List.getElem?_set_ne hij] at e1
          exact ((f5 i row' c0 e e1 e2 e3).up envOf_okfok hk1).mono hle
      · rw [Array.getElem?_modify] at e3
        split at e3
        · rename_i hij
          subst hij
          rw [hej] at e3
          simp at e3; subst e3
          rw [List.getElem?_set_self (by omega)] at e1
          have e1 := Option.some.inj e1
          subst e1
          rw [List.getElem?_set_self (by omega)] at e2
          have e2 := Option.some.inj e2
          subst e2
          exact vrep.mono hle
        · rename_i hij
          rw [List.getElem?_set_ne hij] at e1
          exact ((f6 i row' c0 e e1 e2 e3).up envOf_okfok hk1).mono hle
theorem snd_mapSetG (hL : LOk P L) (h : Sim C γ s a w) {T K V : TypeId} {r rk : LRow} {kk : Option (List Sh)} {x y v : Operand} {k g kd : Nat} {c : Cont} (hr : L T = some r) (hs : r.sh = .map K V) (hrk : L K = some rk) (hx : s.ev x = .mp k g) (ho : s.own k = (g, some c)) (hk1 : c.kind ≤ kd) (hk3 : kd < 3)
    (hg : kgood P K kk = true) (hky : kkey rk.sh kk (s.ev y) = true) (hkeys : keyedG rk.sh kk c.rows = true) (hkd : kOk kd (s.ev v) = true) :
    ∃ w', (Instr.mapUpdate T (a.eval x) (a.eval y) (a.eval v)).run P w = .ok () w' ∧ Sim C γ (s.setOwn k g (some ⟨c.ty, c.sz, mput (s.ev y) (nrm kd (s.ev v)) c.rows, kd⟩)) a w' := by
  have hxr := h.ev x
  rw [hx] at hxr
  obtain ⟨hsz, b, hb, hxv⟩ := h.mp_at hxr ho
  obtain ⟨es, nn, f1, f2, f3, f4, f5, f6⟩ := (h.sites k c (by rw [ho])).mp b hb hsz (by omega)
  have f1 : w.heap[b]? = some (.map es nn) := f1
  have hkrep := h.ev y
  obtain ⟨k1, k2, k3⟩ := keyG_run (w := w) hL hrk hg hky hkrep hkeys f2 f3 (fun i row c e e1 e2 e3 => (f5 i row c e e1 e2 e3).rep envOf_okfok)
  have hu := und_map (hL T r hr) hs
  have hnc : ∀ cur T f, w.heap[b]? ≠ some (.cells cur T f) := fun cur T f e => by rw [f1] at e; simp at e
  have vrep := kOk_spec (k := kd) envOf_okfok hkd (h.ev v)
  have key0 : ∀ {kd : Nat}, KRep (envOf C γ s w) kd (s.ev y) (a.eval y) := by
    intro kd
    have hd0 : DRep w (envOf C γ s w).okf (s.ev y) (a.eval y) := kkey_drep hky hkrep w _
    exact krep_any envOf_okfok hd0
  rcases k3 with ⟨h1, hm⟩ | ⟨j, e, h1, hej, h3, hm⟩
  · have hmp : mput (s.ev y) (nrm kd (s.ev v)) c.rows = c.rows ++ [[s.ev y, nrm kd (s.ev v)]] := by simp only [mput, hm]
    rw [hmp]
    obtain ⟨hp, hnew⟩ := put_set (o' := .map (es.push { key := a.eval y, val := a.eval v, born := nn }) (nn + 1)) f1
    have hl1 : c.rows.length ≤ (c.rows ++ [[s.ev y, nrm kd (s.ev v)]]).length := by simp
    have hle := put_le (c' := ⟨c.ty, c.sz, c.rows ++ [[s.ev y, nrm kd (s.ev v)]], kd⟩) h ho hb hnc hp rfl rfl hl1
    refine ⟨_, ?_, put_sim h ho hb hnc hp rfl rfl hl1 ⟨(fun e => by cases e), fun b' hb' _ _ => ?_, (fun b' _ _ hk3 => by simp only at hk3; omega), (fun b' _ hz' => by simp only at hz'; omega)⟩⟩
    · rw [hxv]
      simp only [Instr.mapUpdate, Sem.run_bind, run_underlying hu, Result.andThen, MapKept.run_getObj_map f1, k1, h1, MapKept.run_setObj_map _ f1]
    · have hb' : b' = b := (Option.some.inj hb').symm
      subst hb'
      refine ⟨_, _, hnew, by simp [f2], fun row hrow => ?_, (f4.up hk1).push _ rfl, fun i row c0 e e1 e2 e3 => ?_, fun i row c0 e e1 e2 e3 => ?_⟩
      · rcases List.mem_append.1 hrow with hrow | hrow
        · exact f3 row hrow
        · simp at hrow; subst hrow; rfl
      · rw [Array.getElem?_push] at e3
        rw [List.getElem?_append] at e1
        split at e3
        · rename_i hi
          subst hi
          rw [if_neg (by omega), f2, Nat.sub_self] at e1
          simp at e1 e3; subst e1; subst e3
          simp at e2; subst e2
          exact key0.mono hle
        · rename_i hi
          have hlt : i < es.size := (Array.getElem?_eq_some_iff.1 e3).1
          rw [if_pos (by omega)] at e1
          exact ((f5 i row c0 e e1 e2 e3).up envOf_okfok hk1).mono hle
      · rw [Array.getElem?_push] at e3
        rw [List.getElem?_append] at e1
        split at e3
        · rename_i hi
          subst hi
          rw [if_neg (by omega), f2, Nat.sub_self] at e1
          simp at e1 e3; subst e1; subst e3
          simp at e2; subst e2
          exact vrep.mono hle
        · rename_i hi
          have hlt : i < es.size := (Array.getElem?_eq_some_iff.1 e3).1
          rw [if_pos (by omega)] at e1
          exact ((f6 i row c0 e e1 e2 e3).up envOf_okfok hk1).mono hle
  · have hlt := mix_lt hm
    have hrow : c.rows[j]? = some c.rows[j] := List.getElem?_eq_getElem hlt
    have hrl := f3 c.rows[j] (by simp)
    have hmp : mput (s.ev y) (nrm kd (s.ev v)) c.rows = c.rows.set j (c.rows[j].set 1 (nrm kd (s.ev v))) := by simp only [mput, hm, hrow]
    rw [hmp]
    have hst := k2
    obtain ⟨hp, hnew⟩ := put_set (o' := .map (es.modify j fun e => { e with key := a.eval y, val := a.eval v }) nn) f1
    have hl1 : c.rows.length ≤ (c.rows.set j (c.rows[j].set 1 (nrm kd (s.ev v)))).length := by simp
    have hle := put_le (c' := ⟨c.ty, c.sz, c.rows.set j (c.rows[j].set 1 (nrm kd (s.ev v))), kd⟩) h ho hb hnc hp rfl rfl hl1
    refine ⟨_, ?_, put_sim h ho hb hnc hp rfl rfl hl1 ⟨(fun e => by cases e), fun b' hb' _ _ => ?_, (fun b' _ _ hk3 => by simp only at hk3; omega), (fun b' _ hz' => by simp only at hz'; omega)⟩⟩
    · rw [hxv]
      simp only [Instr.mapUpdate, Sem.run_bind, run_underlying hu, Result.andThen, MapKept.run_getObj_map f1, k1, h1, hej, Option.map_some, Option.getD_some, h3, hst, MapKept.run_setObj_map _ f1]
    · have hb' : b' = b := (Option.some.inj hb').symm
      subst hb'
      refine ⟨_, _, hnew, by simp [f2], fun row' hr' => ?_, (f4.up hk1).modify j _ (fun _ => rfl), fun i row' c0 e e1 e2 e3 => ?_, fun i row' c0 e e1 e2 e3 => ?_⟩
      · rcases List.mem_or_eq_of_mem_set hr' with hr' | rfl
        · exact f3 row' hr'
        · simpa using hrl
      · rw [Array.getElem?_modify] at e3
        split at e3
        · rename_i hij
          subst hij
          rw [hej] at e3
          simp at e3; subst e3
          rw [List.getElem?_set_self (by omega)] at e1
          have e1 := Option.some.inj e1
          subst e1
          rw [List.getElem?_set_ne (by decide)] at e2
          have := ((f5 j _ c0 _ hrow e2 hej).up envOf_okfok hk1).mono hle
          rw [h3] at this
          exact this
        · rename_i hij
          rw [List.getElem?_set_ne hij] at e1
          exact ((f5 i row' c0 e e1 e2 e3).up envOf_okfok hk1).mono hle
      · rw [Array.getElem?_modify] at e3
        split at e3
        · rename_i hij
          subst hij
          rw [hej] at e3
          simp at e3; subst e3
          rw [List.getElem?_set_self (by omega)] at e1
          have e1 := Option.some.inj e1
          subst e1
          rw [List.getElem?_set_self (by omega)] at e2
          have e2 := Option.some.inj e2
          subst e2
          exact vrep.mono hle
        · rename_i hij
          rw [List.getElem?_set_ne hij] at e1
          exact ((f6 i row' c0 e e1 e2 e3).up envOf_okfok hk1).mono hle
theorem it3 {E : Env} {blk : Option Nat} {c : Cont} (h : SiteOk E blk c) {b : Nat} (hb : blk = some b) (hz : c.sz = 0) (hk : c.kind = 3) : IterAt E b c.rows := by
  have h1 := h.it b hb hz (by omega)
  rw [hk] at h1; exact h1
theorem snd_entry (h : Sim C γ s a w) {x : Operand} {k g : Nat} {c : Cont} {ck cv : PV} {rem : List PV} (hx : s.ev x = .mi k g) (ho : s.own k = (g, some c)) (hk3 : c.kind = 3) (hrows : c.rows = [.agg [ck, cv] :: rem]) :
    ∃ u, (Instr.entry (a.eval x)).run P w = .ok u w ∧ Rep (envOf C γ s w) (.tup [ck, cv]) u := by
  have hxr := h.ev x
  rw [hx] at hxr
  obtain ⟨hsz, b, hb, hxv⟩ := h.mi_at hxr ho
  obtain ⟨m, es, seen, nn, f1, hok, f2, f4, last', rem', hr', hlast, hlen, hd⟩ := it3 (h.sites k c (by rw [ho])) hb hsz hk3
  have f1 : w.heap[b]? = some (.mapIter (some m) nn seen nn) := f1
  have f2 : w.heap[m]? = some (.map es nn) := f2
  rw [hrows] at hr'
  simp at hr'
  obtain ⟨rfl, rfl⟩ := hr'
  rcases hlast with hlast | ⟨j, e, ck', cv', g1, g2, g3, g4, g5⟩
  · cases hlast
  · simp at g1
    obtain ⟨rfl, rfl⟩ := g1
    have hfind : es.find? (fun q => q.born == j) = some e := by
      obtain ⟨hm, hj⟩ := g3
      obtain ⟨i, hi, hie⟩ := List.getElem_of_mem hm
      rw [Array.find?_eq_some_iff_getElem]
      have hi' : i < es.size := by simpa using hi
      refine ⟨by simp [hj], i, hi', by simpa using hie, fun q hq => ?_⟩
      have h5 := List.pairwise_iff_getElem.1 f4.2.1 q i (by simp; omega) hi hq
      rw [hie] at h5
      have h6 : es[q].born < e.born := by simpa using h5
      have : es[q].born ≠ j := by omega
      simpa using this
    refine ⟨.tuple #[e.key, e.val], ?_, .tup [ck, cv] [e.key, e.val] rfl fun i c0 v0 q1 q2 => ?_⟩
    · rw [hxv]
      simp only [Instr.entry, getObj, Sem.run_bind, Sem.run, f1, f2, Result.andThen, g2, hfind]
      simp
    · match i with
      | 0 => simp at q1 q2; subst q1; subst q2; exact .d g4
      | 1 => simp at q1 q2; subst q1; subst q2; exact .d g5
      | i + 2 => simp at q1
theorem sim_drew (h : Sim C γ s a w) : Sim C γ s a w.drew := h.ext (below_drew w)
theorem snd_next (h : Sim C γ s a w) {x : Operand} {ty : TypeId} {k g : Nat} {c : Cont} {last : PV} {rem : List PV} (hx : s.ev x = .mi k g) (ho : s.own k = (g, some c)) (hk3 : c.kind = 3) (hrows : c.rows = [last :: rem]) :
    (rem = [] ∧ (Instr.next (a.eval x) false ty).run P w = .ok (.tuple #[.bool false]) w) ∨
    ∃ i ck cv uk uv w', rem[i]? = some (.agg [ck, cv]) ∧ (Instr.next (a.eval x) false ty).run P w = .ok (.tuple #[.bool true, uk, uv]) w' ∧ Sim C γ (s.setOwn k g (some ⟨c.ty, c.sz, [.agg [ck, cv] :: rem.eraseIdx i], 3⟩)) a w' ∧
      Rep (envOf C γ (s.setOwn k g (some ⟨c.ty, c.sz, [.agg [ck, cv] :: rem.eraseIdx i], 3⟩)) w') ck uk ∧ Rep (envOf C γ (s.setOwn k g (some ⟨c.ty, c.sz, [.agg [ck, cv] :: rem.eraseIdx i], 3⟩)) w') cv uv := by
  have hxr := h.ev x
  rw [hx] at hxr
  obtain ⟨hsz, b, hb, hxv⟩ := h.mi_at hxr ho
  obtain ⟨m, es, seen, nn, f1, hok, f2, f4, last', rem', hr', _, hlen, hd⟩ := it3 (h.sites k c (by rw [ho])) hb hsz hk3
  have f1 : w.heap[b]? = some (.mapIter (some m) nn seen nn) := f1
  have f2 : w.heap[m]? = some (.map es nn) := f2
  have hrr : rem' = rem := by rw [hrows] at hr'; simp at hr'; exact hr'.2.symm
  subst hrr
  rcases run_next_at (P := P) w ty b m nn nn seen es nn f1 f2 f4.1 (Nat.le_refl _) with ⟨h0, hrun⟩ | ⟨e, he, w1, hw1, hrun⟩
  · refine .inl ⟨List.eq_nil_of_length_eq_zero (by rw [hlen]; exact h0), by rw [hxv]; exact hrun⟩
  · right
    obtain ⟨i, hi, hie⟩ := List.getElem_of_mem he
    have hie' : (es.filter fun e => !seen.contains e.born)[i]? = some e := by
      have : (leftOf es seen)[i]? = some e := by rw [← Array.getElem?_toList, List.getElem?_eq_getElem hi, hie]
      exact this
    have hi' : i < rem'.length := by rw [hlen]; exact (Array.getElem?_eq_some_iff.1 hie').1
    obtain ⟨ck, cv, hc, hck, hcv⟩ := hd i rem'[i] e (List.getElem?_eq_getElem hi') hie'
    have hs1 : Sim C γ s a w1 := by
      rcases hw1 with rfl | rfl
      · exact h
      · exact sim_drew h
    have f1' : w1.heap[b]? = some (.mapIter (some m) nn seen nn) := by rcases hw1 with rfl | rfl <;> exact f1
    have f2' : w1.heap[m]? = some (.map es nn) := by rcases hw1 with rfl | rfl <;> exact f2
    have hok' : (envOf C γ s w1).ok m := by rcases hw1 with rfl | rfl <;> exact hok
    have hdr : ∀ {c : PV} {v : Value}, DRep w (okOf C γ s w) c v → DRep w1 (okOf C γ s w1) c v := by
      intro c v hd
      rcases hw1 with rfl | rfl
      · exact hd
      · exact (envLe_ext (below_drew w) h.base).drep hd
    have hput := put_set (o' := .mapIter (some m) nn (seen.push e.born) nn) f1'
    have hnc : ∀ cur T f, w1.heap[b]? ≠ some (.cells cur T f) := fun cur T f q => by rw [f1'] at q; simp at q
    have hl1 : c.rows.length ≤ [PV.agg [ck, cv] :: rem'.eraseIdx i].length := by rw [hrows]; simp
    have hle := put_le (c' := ⟨c.ty, c.sz, [.agg [ck, cv] :: rem'.eraseIdx i], 3⟩) hs1 ho hb hnc hput.1 rfl rfl hl1
    refine ⟨i, ck, cv, e.key, e.val, _, by rw [List.getElem?_eq_getElem hi', hc], by rw [hxv]; exact hrun, put_sim hs1 ho hb hnc hput.1 rfl rfl hl1 ⟨(fun e => by cases e), (fun b' _ _ hk3 => by simp only at hk3; omega), fun b' hb' _ _ => ?_, (fun b' _ hz' => by simp only at hz'; omega)⟩, .d (hle.drep (hdr hck)), .d (hle.drep (hdr hcv))⟩
    have hb' : b' = b := (Option.some.inj hb').symm
    subst hb'
    have hborn : ∀ (q : MapEntry), q ∈ es.toList → ∀ q' ∈ es.toList, q.born = q'.born → q = q' := by
      intro q hq q' hq' hqq
      obtain ⟨j, hj, rfl⟩ := List.getElem_of_mem hq
      obtain ⟨j', hj', rfl⟩ := List.getElem_of_mem hq'
      rcases Nat.lt_trichotomy j j' with hlt | heq | hgt
      · have := List.pairwise_iff_getElem.1 f4.2.1 j j' hj hj' hlt; omega
      · subst heq; rfl
      · have := List.pairwise_iff_getElem.1 f4.2.1 j' j hj' hj hgt; omega
    have hnodup : es.toList.Nodup := f4.2.1.imp fun {a b} hab hE => by subst hE; omega
    have hfl : (es.filter fun q => !(seen.push e.born).contains q.born).toList = (es.filter fun q => !seen.contains q.born).toList.eraseIdx i := by
      have hL : ((es.filter fun q => !seen.contains q.born).toList).Nodup := by
        rw [Array.toList_filter]; exact List.Pairwise.filter _ hnodup
      have hsub : ∀ q ∈ (es.filter fun q => !seen.contains q.born).toList, q ∈ es.toList := fun q hq => by rw [Array.toList_filter] at hq; exact (List.mem_filter.1 hq).1
      have hmemE : e ∈ es.toList := hsub e he
      have h1 : (es.filter fun q => !(seen.push e.born).contains q.born).toList = (es.filter fun q => !seen.contains q.born).toList.filter (fun q => !decide (q.born = e.born)) := by
        rw [Array.toList_filter, Array.toList_filter, List.filter_filter]
        apply List.filter_congr
        intro q hq
        by_cases hqe : q.born = e.born <;> simp [hqe]
      have h2 : ∀ (l : List MapEntry) (i : Nat) (hi : i < l.length), l.Nodup → (∀ q ∈ l, q.born = e.born → q = e) → l[i] = e → l.filter (fun q => !decide (q.born = e.born)) = l.eraseIdx i := by
        intro l
        induction l with
        | nil => intro i hi; simp at hi
        | cons q l ih =>
          intro i hi hn hqb he'
          rw [List.nodup_cons] at hn
          cases i with
          | zero =>
            simp at he'; subst he'
            simp only [List.eraseIdx_cons_zero, List.filter_cons]
            rw [if_neg (by simp)]
            rw [List.filter_eq_self]
            intro q' hq'
            have : q'.born ≠ q.born := fun hh => hn.1 (by rw [← hqb q' (.tail _ hq') hh]; exact hq')
            simpa using this
          | succ i =>
            simp only [List.getElem_cons_succ] at he'
            have hne : q.born ≠ e.born := fun hh => hn.1 (by rw [hqb q (.head _) hh, ← he']; exact List.getElem_mem _)
            simp only [List.eraseIdx_cons_succ, List.filter_cons]
            rw [if_pos (by simpa using hne), ih i (by simpa using hi) hn.2 (fun q' hq' => hqb q' (.tail _ hq')) he']
      rw [h1]
      exact h2 _ i hi hL (fun q hq hqe => hborn q (hsub q hq) e hmemE hqe) hie
    have hself : e ∈ es.toList ∧ e.born = e.born := ⟨by have := he; rw [leftOf, Array.toList_filter] at this; exact (List.mem_filter.1 this).1, rfl⟩
    have hfl' : ∀ j, (es.filter fun q => !(seen.push e.born).contains q.born)[j]? = ((es.filter fun q => !seen.contains q.born).toList.eraseIdx i)[j]? := fun j => by rw [← hfl, Array.getElem?_toList]
    show IterAt _ _ _
    refine ⟨m, es, seen.push e.born, nn, hput.2, hle.ok m hok', hle.mapc m _ _ hok' f2', f4, .agg [ck, cv], rem'.eraseIdx i, rfl, .inr ⟨e.born, e, ck, cv, rfl, by simp, hself, hle.drep (hdr hck), hle.drep (hdr hcv)⟩, ?_, fun j c' q e1 e2 => ?_⟩
    · have := congrArg List.length hfl
      rw [Array.length_toList] at this
      rw [this, List.length_eraseIdx, List.length_eraseIdx, hlen]
      rfl
    · rw [hfl' j, List.getElem?_eraseIdx] at e2
      rw [List.getElem?_eraseIdx] at e1
      split at e1
      · rename_i hj
        rw [if_pos hj, Array.getElem?_toList] at e2
        obtain ⟨ck', cv', g1, g2, g3⟩ := hd j c' q e1 e2
        exact ⟨ck', cv', g1, hle.drep (hdr g2), hle.drep (hdr g3)⟩
      · rename_i hj
        rw [if_neg hj, Array.getElem?_toList] at e2
        obtain ⟨ck', cv', g1, g2, g3⟩ := hd (j + 1) c' q e1 e2
        exact ⟨ck', cv', g1, hle.drep (hdr g2), hle.drep (hdr g3)⟩
end
end Go.Pv


namespace Go.Pv
open Go.RowKit
inductive Eff (P : Program) (L : Lay) (s : St) (o : Oper) : St → Prop
  | nils (e : TypeId) (sz kd : Nat) {x : Operand} {d : Nat} (ho : o.op = .move x ∨ o.op = .assign x) (hd : o.dst = some d) (hx : s.ev x = .nil) : Eff P L s o ((s.fin d ⟨e, sz, [], kd⟩).putR d (.als d ((s.own d).1 + 1) 0 0))
  | box {T : TypeId} {x : Operand} {d : Nat} {Pr : Prop} (ho : o.op = .box T x) (hd : o.dst = some d) (h1 : oneL s (s.ev x).cells = some Pr) (h2 : Pr) (h0 : 0 < (s.ev x).cells.length) :
      Eff P L s o ((s.fin d ⟨T, (s.ev x).cells.length, [(s.ev x).cells], 2⟩).putR d (.ptr d ((s.own d).1 + 1) 0 0))
  | alloc {T : TypeId} {r : LRow} {z : List PV} {d : Nat} (ho : o.op = .alloc T) (hd : o.dst = some d) (hr : L T = some r) (hz : r.zero = some z) (h0 : 0 < z.length) :
      Eff P L s o ((s.fin d ⟨T, z.length, [z], 2⟩).putR d (.ptr d ((s.own d).1 + 1) 0 0))
  | store {T : TypeId} {r : LRow} {x y : Operand} {k g i j : Nat} {c : Cont} {row : List PV} {Pr : Prop} (kd : Nat) (ho : o.op = .store T x y) (hd : o.dst = none) (hr : L T = some r) (hx : s.ev x = .ptr k g i j) (hown : s.own k = (g, some c))
      (hrow : c.rows[i]? = some row) (h1 : oneL s (s.ev y).cells = some Pr) (h2 : Pr) (hsz : (s.ev y).cells.length = r.size) (hle : j + r.size ≤ row.length) (hk : c.kind ≤ kd) (hkd : (s.ev y).cells.all (kOk kd) = true) :
      Eff P L s o (s.setOwn k g (some ⟨c.ty, c.sz, c.rows.set i (splc row j ((s.ev y).cells.map (nrm kd))), kd⟩))
  | appN {T e : TypeId} {r re : LRow} {x y : Operand} {d : Nat} {rows2 : List (List PV)} {k2 : Nat} {Cd2 : Prop} (ho : o.op = .call ⟨.builtin .append, #[x, y], #[T, T]⟩) (hd : o.dst = some d) (hr : L T = some r) (hs : r.sh = .sl e) (hre : L e = some re)
      (hz : re.zero.isSome = true) (hsz : 0 < re.size) (hx : s.ev x = .nil) (hq : srcOf s (s.ev y) = some (rows2, k2, Cd2)) (hc2 : Cd2) (hlen : ∀ row ∈ rows2, row.length = re.size) (hb : rows2.length * re.bytes ≤ 140737488355328) (h63 : rows2.length ≤ 9223372036854775807) :
      Eff P L s o ((s.fin d ⟨e, re.size, rows2, k2⟩).putR d (.als d ((s.own d).1 + 1) 0 rows2.length))
  | app {T e : TypeId} {r re : LRow} {x y : Operand} {d k g : Nat} {c : Cont} {m : Nat} {rows2 : List (List PV)} {k2 : Nat} {Cd2 : Prop} (kd : Nat) (ho : o.op = .call ⟨.builtin .append, #[x, y], #[T, T]⟩) (hd : o.dst = some d) (hr : L T = some r) (hs : r.sh = .sl e) (hre : L e = some re)
      (hz : re.zero.isSome = true) (hsz : 0 < re.size) (hx : s.ev x = .als k g 0 m) (hown : s.own k = (g, some c)) (hm : m = c.rows.length) (hcs : c.sz = re.size) (hct : c.ty = e)
      (hq : srcOf s (s.ev y) = some (rows2, k2, Cd2)) (hc2 : Cd2) (hlen : ∀ row ∈ rows2, row.length = re.size) (hk1 : c.kind ≤ kd) (hk2 : k2 ≤ kd) (hb : (c.rows.length + rows2.length) * re.bytes ≤ 140737488355328) (h63 : c.rows.length + rows2.length ≤ 9223372036854775807) :
      Eff P L s o ((s.fin k ⟨e, re.size, c.rows ++ rows2, kd⟩).putR d (.als k (g + 1) 0 (c.rows ++ rows2).length))
  | make {T e : TypeId} {r re : LRow} {l c : Operand} {kl kc : IntKind} {n m : Int} {z : List PV} {d : Nat} (ho : o.op = .makeSlice T l c) (hd : o.dst = some d) (hr : L T = some r) (hs : r.sh = .sl e) (hre : L e = some re) (hz : re.zero = some z) (hsz : 0 < re.size)
      (hl : s.ev l = .int kl n) (hc : s.ev c = .int kc m) (h0 : 0 ≤ n) (hnm : n ≤ m) (hb : (re.bytes : Int) * m ≤ 140737488355328) (h63 : m ≤ 9223372036854775807) :
      Eff P L s o ((s.fin d ⟨e, re.size, List.replicate n.toNat z, 0⟩).putR d (.als d ((s.own d).1 + 1) 0 (List.replicate n.toNat z).length))
  | slit {T e : TypeId} {r re : LRow} {n d : Nat} {parts : Array (Nat × Operand)} {Pr : Prop} (kd : Nat) (ho : o.op = .buildSlice T n parts) (hd : o.dst = some d) (hr : L T = some r) (hs : r.sh = .sl e) (hre : L e = some re) (hz : re.zero.isSome = true) (hsz : 0 < re.size)
      (hn : parts.toList.map (·.1) = List.range n) (hN : n * re.size ≤ 16777216) (hcells : ∀ p ∈ parts.toList, (s.ev p.2).cells.length = re.size)
      (h1 : oneL s (parts.toList.flatMap fun p => (s.ev p.2).cells) = some Pr) (h2 : Pr) (hkd : (parts.toList.flatMap fun p => (s.ev p.2).cells).all (kOk kd) = true) :
      Eff P L s o ((s.fin d ⟨e, re.size, parts.toList.map fun p => (s.ev p.2).cells.map (nrm kd), kd⟩).putR d (.als d ((s.own d).1 + 1) 0 (parts.toList.map fun p => (s.ev p.2).cells.map (nrm kd)).length))
  | makeMap {T d : Nat} (ho : o.op = .makeMap T none) (hd : o.dst = some d) : Eff P L s o ((s.fin d ⟨T, 0, [], 0⟩).putR d (.mp d ((s.own d).1 + 1)))
  | mapOld {T K V : TypeId} {r rk : LRow} {x y : Operand} {k g i d : Nat} {c : Cont} {row : List PV} {v : PV} (ho : o.op = .mapEntry T x y) (hd : o.dst = some d) (hr : L T = some r) (hs : r.sh = .map K V) (hrk : L K = some rk) (hx : s.ev x = .mp k g) (hown : s.own k = (g, some c)) (hkd : c.kind = 0)
      (hky : rk.sh.key (s.ev y) = true) (hkeys : keyed rk.sh c.rows = true) (hm : mix (s.ev y) c.rows = some i) (hrow : c.rows[i]? = some row) (hv : row[1]? = some v) : Eff P L s o (s.putR d (.tup [v, .int .i64 i]))
  | mapNew {T K V : TypeId} {r rk rv : LRow} {x y : Operand} {k g d : Nat} {c : Cont} {z : PV} (ho : o.op = .mapEntry T x y) (hd : o.dst = some d) (hr : L T = some r) (hs : r.sh = .map K V) (hrk : L K = some rk) (hrv : L V = some rv) (hz : rv.zero = some [z]) (hz1 : zone P V = true) (hx : s.ev x = .mp k g) (hown : s.own k = (g, some c)) (hkd : c.kind = 0)
      (hky : rk.sh.key (s.ev y) = true) (hkeys : keyed rk.sh c.rows = true) (hm : mix (s.ev y) c.rows = none) : Eff P L s o ((s.setOwn k g (some ⟨c.ty, c.sz, c.rows ++ [[s.ev y, z]], c.kind⟩)).putR d (.tup [z, .int .i64 c.rows.length]))
  | entStore {T : TypeId} {x st y : Operand} {k g i : Nat} {ki : IntKind} {c : Cont} {row : List PV} (kd : Nat) (ho : o.op = .entryStore T x st y) (hd : o.dst = none) (hx : s.ev x = .mp k g) (hown : s.own k = (g, some c)) (hst : s.ev st = .int ki i) (hrow : c.rows[i]? = some row) (hk0 : c.kind = 0) (hk : c.kind ≤ kd) (hk3 : kd < 3) (hkd : kOk kd (s.ev y) = true) :
      Eff P L s o (s.setOwn k g (some ⟨c.ty, c.sz, c.rows.set i (row.set 1 (nrm kd (s.ev y))), kd⟩))
  | mapSet {T K V : TypeId} {r rk : LRow} {x y v : Operand} {k g : Nat} {c : Cont} (kd : Nat) (ho : o.op = .mapUpdate T x y v) (hd : o.dst = none) (hr : L T = some r) (hs : r.sh = .map K V) (hrk : L K = some rk) (hx : s.ev x = .mp k g) (hown : s.own k = (g, some c)) (hk1 : c.kind ≤ kd) (hk3 : kd < 3)
      (hky : rk.sh.key (s.ev y) = true) (hkeys : keyed rk.sh c.rows = true) (hkd : kOk kd (s.ev v) = true) : Eff P L s o (s.setOwn k g (some ⟨c.ty, c.sz, mput (s.ev y) (nrm kd (s.ev v)) c.rows, kd⟩))
  | mapSetG {T K V : TypeId} {r rk : LRow} {kk : Option (List Sh)} {x y v : Operand} {k g : Nat} {c : Cont} (kd : Nat) (ho : o.op = .mapUpdate T x y v) (hd : o.dst = none) (hr : L T = some r) (hs : r.sh = .map K V) (hrk : L K = some rk) (hx : s.ev x = .mp k g) (hown : s.own k = (g, some c)) (hk1 : c.kind ≤ kd) (hk3 : kd < 3)
      (hg : kgood P K kk = true) (hky : kkey rk.sh kk (s.ev y) = true) (hkeys : keyedG rk.sh kk c.rows = true) (hkd : kOk kd (s.ev v) = true) : Eff P L s o (s.setOwn k g (some ⟨c.ty, c.sz, mput (s.ev y) (nrm kd (s.ev v)) c.rows, kd⟩))
  | range {T K V : TypeId} {r : LRow} {x : Operand} {rows : List (List PV)} {d : Nat} (ho : o.op = .range T x) (hd : o.dst = some d) (hr : L T = some r) (hs : r.sh = .map K V) (hx : s.ev x = .mapd rows) : Eff P L s o ((s.fin d ⟨T, 0, pairs rows, 3⟩).putR d (.mi d ((s.own d).1 + 1)))
section
variable {P : Program} {L : Lay} {C : Ctx} {γ : Nat → Option Nat} {s : St} {a : Act} {w w' : World}
def SimE (C : Ctx) (s : St) (a : Act) (w : World) : Prop := ∃ γ, Sim C γ s a w
theorem fill_rows {place : Nat → Option (Nat × Nat)} {size : Nat} (hpl : ∀ i, place i = some (i * size, size)) : ∀ (parts : List (Nat × Value)) (k : Nat) (ws : List (List Value)) (pre : List Value) (post : List Value),
    parts.map (·.1) = (List.range parts.length).map (k + ·) → pre.length = k * size → parts.length * size ≤ post.length → ws.length = parts.length →
    (∀ (i : Nat) (p : Nat × Value) (u : List Value), parts[i]? = some p → ws[i]? = some u → p.2.cells = u.toArray ∧ u.length = size) →
    Instr.fill place (pre ++ post).toArray parts = some (pre ++ ws.flatten ++ post.drop (parts.length * size)).toArray
  | [], k, ws, pre, post, _, _, _, hw, _ => by
    have : ws = [] := List.eq_nil_of_length_eq_zero (by simpa using hw)
    subst this
    simp [Instr.fill]
  | (i, v) :: parts, k, ws, pre, post, hi, hpre, hpost, hw, hd => by
    cases ws with
    | nil => simp at hw
    | cons u ws =>
      obtain ⟨h1, h2⟩ := hd 0 (i, v) u rfl rfl
      simp only [List.length_cons, List.map_cons, List.range_succ_eq_map, List.map_map, List.cons.injEq, Nat.add_zero] at hi
      obtain ⟨rfl, hi⟩ := hi
      have hpost' : size + parts.length * size ≤ post.length := by
        have : (parts.length + 1) * size ≤ post.length := by simpa using hpost
        rw [Nat.add_mul, Nat.one_mul] at this; omega
      rw [fill_cons (hpl i) u h1 h2 (by simp [hpre, h2]; omega)]
      have e1 : (pre ++ post).take (i * size) = pre := by rw [← hpre, List.take_left]
      have e2 : (pre ++ post).drop (i * size + u.length) = post.drop size := by
        rw [List.drop_append, List.drop_eq_nil_of_le (by rw [hpre]; omega), List.nil_append, hpre, h2]
        congr 1
        omega
      rw [e1, e2]
      have ih := fill_rows hpl parts (i + 1) ws (pre ++ u) (post.drop size) (by rw [hi]; apply List.map_congr_left; intro x _; simp; omega) (by simp [hpre, h2, Nat.add_mul]) (by simp; omega) (by simpa using hw)
        (fun j p u' e1 e2 => hd (j + 1) p u' (by simpa using e1) (by simpa using e2))
      rw [ih]
      congr 2
      simp only [List.flatten_cons, List.append_assoc, List.drop_drop, List.length_cons]
      congr 3
      rw [Nat.add_mul, Nat.one_mul, Nat.add_comm]
theorem oneL_append : ∀ {l1 l2 : List PV} {Pr : Prop}, oneL s (l1 ++ l2) = some Pr → Pr → (∃ A, oneL s l1 = some A ∧ A) ∧ (∃ B, oneL s l2 = some B ∧ B)
  | [], l2, Pr, h, hp => ⟨⟨True, rfl, trivial⟩, ⟨Pr, h, hp⟩⟩
  | c :: l1, l2, Pr, h, hp => by
    simp only [List.cons_append, oneL] at h
    split at h
    · rename_i A hA
      split at h
      · rename_i B hB
        have h' := Option.some.inj h
        subst h'
        obtain ⟨⟨A', f1, f2⟩, g⟩ := oneL_append hB hp.2
        exact ⟨⟨A ∧ A', by simp [oneL, hA, f1], hp.1, f2⟩, g⟩
      · cases h
    · cases h
theorem oneL_flat : ∀ {l : List (Nat × Operand)} {Pr : Prop}, oneL s (l.flatMap fun p => (s.ev p.2).cells) = some Pr → Pr → ∀ p ∈ l, ∃ A, oneL s (s.ev p.2).cells = some A ∧ A
  | [], _, _, _, _, hp => by cases hp
  | q :: l, Pr, h, hp, p, hm => by
    rw [List.flatMap_cons] at h
    obtain ⟨h1, B, h2, h3⟩ := oneL_append h hp
    rcases List.mem_cons.1 hm with rfl | hm
    · exact h1
    · exact oneL_flat h2 h3 p hm
theorem flat_rows {E : Env} {k sz : Nat} : ∀ (rows : List (List PV)) (vals : List (List Value)), rows.length = vals.length → (∀ row ∈ rows, row.length = sz) →
    (∀ (i : Nat) (row : List PV) (vs : List Value), rows[i]? = some row → vals[i]? = some vs → row.length = vs.length ∧ ∀ (j : Nat) (c : PV) (v : Value), row[j]? = some c → vs[j]? = some v → v.oneCell' = true ∧ KRep E k c v) → FlatRep E k sz rows vals.flatten
  | [], vals, hl, _, _ => by
    have : vals = [] := List.eq_nil_of_length_eq_zero (by simpa using hl.symm)
    subst this
    exact FlatRep.nil E k sz
  | row :: rows, vals, hl, hr, hd => by
    cases vals with
    | nil => simp at hl
    | cons vs vals =>
      have h0 := hd 0 row vs rfl rfl
      have ih := flat_rows rows vals (by simpa using hl) (fun r hr' => hr r (by simp [hr'])) (fun i r v e1 e2 => hd (i + 1) r v (by simpa using e1) (by simpa using e2))
      have h1 : FlatRep E k sz [row] vs := by
        have hlr := hr row (by simp)
        refine ⟨by simp; omega, by simpa using hlr, fun i j r pv e1 e2 => ?_⟩
        cases i with
        | succ i => simp at e1
        | zero =>
          simp at e1; subst e1
          have hj : j < vs.length := by rw [← h0.1]; exact (List.getElem?_eq_some_iff.1 e2).1
          have := h0.2 j pv vs[j] e2 (List.getElem?_eq_getElem hj)
          exact ⟨vs[j], by simp [hj], this.1, this.2⟩
      exact h1.append ih
theorem slit_core (hL : LOk P L) (h : Sim C γ s a w) {o : Oper} {T e : TypeId} {r re : LRow} {n : Nat} {parts : Array (Nat × Operand)} {Pr : Prop} (kd : Nat) (ho : o.op = .buildSlice T n parts) (hr : L T = some r) (hs : r.sh = .sl e) (hre : L e = some re) (hz : re.zero.isSome = true) (hsz : 0 < re.size)
    (hn : parts.toList.map (·.1) = List.range n) (hNs : n * re.size ≤ 16777216) (hcells : ∀ p ∈ parts.toList, (s.ev p.2).cells.length = re.size)
    (h1 : oneL s (parts.toList.flatMap fun p => (s.ev p.2).cells) = some Pr) (h2 : Pr) (hkd : (parts.toList.flatMap fun p => (s.ev p.2).cells).all (kOk kd) = true) :
    ∃ cur : Array Value, FlatRep (envOf C γ s w) kd re.size (parts.toList.map fun p => (s.ev p.2).cells.map (nrm kd)) cur.toList ∧ (parts.toList.map fun p => (s.ev p.2).cells.map (nrm kd)).length ≤ maxLen ∧
      (execOp a.eval o).run P w = .ok (.value (.slice (some ⟨w.heap.size, 0, none⟩) (parts.toList.map fun p => (s.ev p.2).cells.map (nrm kd)).length (parts.toList.map fun p => (s.ev p.2).cells.map (nrm kd)).length)) (w.alloc (.cells cur e)) := by
  have wrapv : ∀ {m : Sem Value} {v : Value} {w' : World}, m.run P w = .ok v w' → (do pure (Next.value (← m)) : Sem Next).run P w = .ok (.value v) w' := fun hm => by simp [hm]
  obtain ⟨i, dd, hi, hud, hisz, hiby, _, hzero⟩ := LRow.spec (hL e re hre)
  obtain ⟨zv, z1, z2, z3, z4⟩ := hzero _ (Option.some_get hz).symm
  have hu := und_sl (hL T r hr) hs
  have hlen : parts.toList.length = n := by have := congrArg List.length hn; simpa using this
  have hp : ∀ p ∈ parts.toList, ∃ vs : List Value, (a.eval p.2).cells = vs.toArray ∧ (s.ev p.2).cells.length = vs.length ∧ (∀ (i : Nat) (c : PV) (u : Value), (s.ev p.2).cells[i]? = some c → vs[i]? = some u → Rep (envOf C γ s w) c u) ∧ ∀ u ∈ vs, u.oneCell' = true := fun p hp => by
    obtain ⟨A, e1, e2⟩ := oneL_flat h1 h2 p hp
    exact cells_spec h.live (h.ev p.2) e1 e2
  let ws : List (List Value) := parts.toList.map fun p => (a.eval p.2).cells.toList
  have hflat : FlatRep (envOf C γ s w) kd re.size (parts.toList.map fun p => (s.ev p.2).cells.map (nrm kd)) ws.flatten := by
    refine flat_rows _ _ (by simp [ws]) (fun row hr => ?_) fun i' row vs e1 e2 => ?_
    · obtain ⟨p, hp', rfl⟩ := List.mem_map.1 hr
      simpa using hcells p hp'
    · rw [List.getElem?_map] at e1 e2
      cases hx : parts.toList[i']? with
      | none => rw [hx] at e1; simp at e1
      | some p =>
        rw [hx] at e1 e2
        simp at e1 e2
        subst e1; subst e2
        have hmem : p ∈ parts.toList := List.mem_of_getElem? hx
        obtain ⟨vs, f1, f2, f3, f4⟩ := hp p hmem
        rw [f1]
        refine ⟨by simp [f2], fun j c v g1 g2 => ?_⟩
        rw [List.getElem?_map] at g1
        cases hq : (s.ev p.2).cells[j]? with
        | none => rw [hq] at g1; simp at g1
        | some q =>
          rw [hq] at g1
          simp at g1 g2
          subst g1
          have hkq : kOk kd q = true := List.all_eq_true.1 hkd q (List.mem_flatMap.2 ⟨p, hmem, List.mem_of_getElem? hq⟩)
          exact ⟨f4 v (List.mem_of_getElem? g2), kOk_spec envOf_okfok hkq (f3 j q v hq g2)⟩
  have hmx : (parts.toList.map fun p => (s.ev p.2).cells.map (nrm kd)).length ≤ maxLen := by
    have : n * 1 ≤ n * re.size := Nat.mul_le_mul_left _ hsz
    simp [hlen, maxLen]; omega
  refine ⟨ws.flatten.toArray, by simpa using hflat, hmx, ?_⟩
  simp only [execOp, ho]
  refine wrapv ?_
  have hfill : ∀ zc : Array Value, zc.size = n * re.size → Instr.fill (fun i => some (i * re.size, re.size)) zc (parts.toList.map fun p => (p.1, a.eval p.2)) = some ws.flatten.toArray := by
    intro zc y1
    have hfill := fill_rows (place := fun i => some (i * re.size, re.size)) (fun _ => rfl) (parts.toList.map fun p => (p.1, a.eval p.2)) 0 ws [] zc.toList (by
        simp only [List.map_map, List.length_map, Nat.zero_add]
        rw [show (List.range parts.toList.length).map (fun x => x) = List.range parts.toList.length by simp, hlen, ← hn]
        apply List.map_congr_left; intro p _; rfl) (by simp) (by rw [List.length_map, hlen, Array.length_toList, y1]; exact Nat.le_refl _) (by simp [ws]) (fun i' p u e1 e2 => by
        simp only [ws] at e2
        rw [List.getElem?_map] at e1 e2
        cases hx : parts.toList[i']? with
        | none => rw [hx] at e1; simp at e1
        | some q =>
          rw [hx] at e1 e2
          simp at e1 e2
          subst e1; subst e2
          have hmem : q ∈ parts.toList := List.mem_of_getElem? hx
          obtain ⟨vs, f1, f2, _⟩ := hp q hmem
          refine ⟨by simp, ?_⟩
          rw [← hcells q hmem, f2, f1])
    have hdrop : zc.toList.drop ((parts.toList.map fun p => (p.1, a.eval p.2)).length * re.size) = [] := List.drop_eq_nil_of_le (by rw [List.length_map, hlen, Array.length_toList, y1]; exact Nat.le_refl _)
    rw [hdrop] at hfill
    simp only [List.nil_append, List.append_nil] at hfill
    rwa [show zc.toList.toArray = zc by simp] at hfill
  have hparts : (parts.map fun (i, x) => (i, a.eval x)).toList = parts.toList.map fun p => (p.1, a.eval p.2) := by simp
  have hn24 : ¬ (n * re.size > 2 ^ 24) := by omega
  have hl2 : (parts.toList.map fun p => (s.ev p.2).cells.map (nrm kd)).length = n := by simp [hlen]
  rw [hl2]
  by_cases h00 : n * re.size = 0
  · simp only [Instr.buildSlice, Sem.run_bind, run_underlying hu, Result.andThen_ok, run_sizeOf (hL e re hre), Sem.run_ite, Sem.run_pure, hparts, h00, if_true]
    have := hfill ((Array.range 0).map (fun i => (#[] : Array Value)[i % (#[] : Array Value).size]!)) (by simp [h00])
    rw [this]
    simp [newRow]
  · simp only [Instr.buildSlice, Sem.run_bind, run_underlying hu, Result.andThen_ok, run_sizeOf (hL e re hre), Sem.run_ite, if_neg hn24, Sem.run_pure, hparts, h00, if_false, zeroValue, typeInfo, run_program, hi, z1]
    have := hfill ((Array.range (n * re.size)).map (fun i => zv.cells[i % zv.cells.size]!)) (by simp)
    rw [this]
    simp [newRow]
theorem Eff.sound (hL : LOk P L) (h : SimE C s a w) {o : Oper} (hN : dstLt C.N o.dst = true) {s' : St} (hq : Eff P L s o s') {K : Act → World → Prop} {Q : Exit → Act → World → Prop} (hK : ∀ a' w', SimE C s' a' w' → K a' w') : o.wp P a w K Q := by
  obtain ⟨γ, h⟩ := h
  have wrapv : ∀ {m : Sem Value} {v : Value} {w' : World}, m.run P w = .ok v w' → (do pure (Next.value (← m)) : Sem Next).run P w = .ok (.value v) w' := fun hm => by simp [hm]
  have done : ∀ {γ' : Nat → Option Nat} {s1 : St} {d : Nat} {pv : PV} {v : Value} {w' : World}, (execOp a.eval o).run P w = .ok (.value v) w' → o.dst = some d → Sim C γ' s1 a w' → Rep (envOf C γ' s1 w') pv v → s1.putR d pv = s' → o.wp P a w K Q := by
    intro γ' s1 d pv v w' hrun hd hsim hrep heq
    unfold Oper.wp
    rw [hrun, Oper.upon_value, hd]
    refine hK _ _ ⟨γ', ?_⟩
    rw [← heq]
    exact hsim.put (d := some d) (by rw [← hd]; exact hN) hrep
  cases hq with
  | nils e sz kd ho hd hx =>
    rename_i x d
    have hv : a.eval x = .slice none 0 0 := by
      have := h.ev x
      rw [hx] at this
      exact this.nil_inv
    have ht : Turn C γ s w w d none := ⟨rfl, rfl, rfl, Nat.le_refl _, fun b _ => .inl rfl, fun b hb => by cases hb⟩
    refine done (γ' := upg γ d none) (w' := w) (v := .slice none 0 0) ?_ hd (ht.sim h (.none_ rfl)) (.als ?_ fun _ l hl => ?_) rfl
    · rcases ho with ho | ho <;> simp [execOp, ho, hv]
    · show _ ≤ ((s.fin d _).own d).1
      rw [St.fin, setOwn_same]; exact Nat.le_refl _
    · simp only [envOf, St.fin, setOwn_same, upg_same, Option.map_some, Option.some.injEq] at hl
      subst hl
      exact .inl ⟨rfl, rfl, rfl, rfl⟩
  | box ho hd h1 h2 h0 =>
    rename_i T x d Pr
    obtain ⟨w', e1, e2, e3⟩ := snd_newVar (P := P) (T := T) (k := d) h (h.ev x) h1 h2 h0
    refine done (γ' := upg γ d (some w.heap.size)) (w' := w') (v := .pointer (some ⟨w.heap.size, 0, none⟩)) ?_ hd e2 e3 rfl
    simp only [execOp, ho]
    exact wrapv (by simp [Instr.box, e1])
  | alloc ho hd hr hz h0 =>
    rename_i T r z d
    obtain ⟨i, dd, hi, hud, hisz, hiby, _, hzero⟩ := LRow.spec (hL T r hr)
    obtain ⟨zv, z1, z2, z3, z4⟩ := hzero z hz
    have hrep : ∀ (i : Nat) (c : PV) (v : Value), z[i]? = some c → zv.cells.toList[i]? = some v → Rep (envOf C γ s w) c v ∧ v.oneCell' = true := fun i c v e1 e2 => by
      have := zeq_spec (z4 i c v e1 (by simpa using e2)) w (okOf C γ s w)
      exact ⟨.d this.1, this.2⟩
    have ht : Turn C γ s w (w.alloc (.cells zv.cells T)) d (some w.heap.size) := Turn.alloc _ d
    have hle := ht.le h ⟨T, z.length, [z], 2⟩
    refine done (γ' := upg γ d (some w.heap.size)) (w' := w.alloc (.cells zv.cells T)) (v := .pointer (some ⟨w.heap.size, 0, none⟩)) ?_ hd (ht.sim h (SiteOk.row (vs := zv.cells.toList) (by
        show (w.alloc (.cells zv.cells T)).heap[w.heap.size]? = _
        rw [heap_alloc_at]) (by simpa using z3) h0 (fun v hv => ?_) fun i c u f1 f2 => (hrep i c u f1 f2).1.mono hle)) (.ptr ?_ fun _ l hl => ?_) rfl
    · simp only [execOp, ho]
      refine wrapv ?_
      simp [Instr.alloc, zeroValue, typeInfo, hi, z1, newVar, newRow]
    · obtain ⟨i, hi', rfl⟩ := List.getElem_of_mem hv
      have hzl : i < z.length := by rw [z3]; simpa using hi'
      exact (hrep i z[i] _ (List.getElem?_eq_getElem hzl) (List.getElem?_eq_getElem hi')).2
    · show _ ≤ ((s.fin d _).own d).1
      rw [St.fin, setOwn_same]; exact Nat.le_refl _
    · simp only [envOf, St.fin, setOwn_same, upg_same, Option.map_some, Option.some.injEq] at hl
      subst hl
      exact ⟨w.heap.size, rfl, by simp, by simp, h0⟩
  | store kd ho hd hr hx hown hrow h1 h2 hsz hle hk hkd =>
    obtain ⟨w', e1, e2⟩ := snd_store (P := P) hL h hr hx hown hrow h1 h2 hsz hle hk hkd
    unfold Oper.wp
    have : (execOp a.eval o).run P w = .ok .skip w' := by
      simp only [execOp, ho]
      simp [e1]
    rw [this, Oper.upon_skip, hd]
    exact hK _ _ ⟨γ, e2⟩
  | appN ho hd hr hs hre hz hsz hx hq hc2 hlen hb h63 =>
    rename_i T e r re x y d rows2 k2 Cd2
    have hxr := h.ev x
    rw [hx] at hxr
    obtain ⟨v', w', blk', e1, e2, e3⟩ := snd_append (P := P) (ty := o.type) (k := d) (kd := k2) (rows1 := []) (k1 := 0) (Cd1 := True) hL h hr hs hre hz hsz hxr (h.ev y) (.inl ⟨rfl, rfl, rfl⟩) trivial hq hc2 hlen (Nat.zero_le _) (Nat.le_refl _) (by simpa using hb) (by simpa [maxLen] using h63)
    refine done (γ' := upg γ d blk') (w' := w') (v := v') ?_ hd e2 e3 rfl
    simp only [execOp, ho, resolve, invoke, builtin, Sem.run_bind, Sem.run_pure, Result.andThen_ok, List.map_toArray, List.map_cons, List.map_nil]
    rw [e1]; rfl
  | app kd ho hd hr hs hre hz hsz hx hown hm hcs hct hq hc2 hlen hk1 hk2 hb h63 =>
    rename_i T e r re x y d k g c m rows2 k2 Cd2
    have hxr := h.ev x
    rw [hx] at hxr
    obtain ⟨v', w', blk', e1, e2, e3⟩ := snd_append (P := P) (ty := o.type) (k := k) (kd := kd) (rows1 := c.rows) (k1 := c.kind) (Cd1 := (s.own k).1 = g ∧ 0 = 0 ∧ m = c.rows.length) hL h hr hs hre hz hsz hxr (h.ev y)
      (.inr ⟨c, by simp [dstOf, hown], rfl, rfl, hcs, hct⟩) ⟨by rw [hown], rfl, hm⟩ hq hc2 hlen hk1 hk2 hb (by simpa [maxLen] using h63)
    refine done (γ' := upg γ k blk') (w' := w') (v := v') ?_ hd e2 e3 (by rw [hown])
    simp only [execOp, ho, resolve, invoke, builtin, Sem.run_bind, Sem.run_pure, Result.andThen_ok, List.map_toArray, List.map_cons, List.map_nil]
    rw [e1]; rfl
  | make ho hd hr hs hre hz hsz hl hc h0 hnm hb h63 =>
    rename_i T e r re l c kl kc n m z d
    obtain ⟨i, dd, hi, hud, hisz, hiby, _, hzero⟩ := LRow.spec (hL e re hre)
    obtain ⟨zv, z1, z2, z3, z4⟩ := hzero z hz
    have hu := und_sl (hL T r hr) hs
    have hlr := h.ev l
    rw [hl] at hlr
    have hcr := h.ev c
    rw [hc] at hcr
    have hrun := run_make (P := P) w T e i zv hu hi z1 kl kc n m h0 hnm (by rw [hiby]; omega) h63
    have hnm' : n.toNat * re.size ≤ m.toNat * re.size := Nat.mul_le_mul_right _ (by omega)
    have hflat : FlatRep (envOf C γ s w) 0 re.size (List.replicate n.toNat z) ((madeCells zv.cells (m.toNat * i.size)).toList.take ((List.replicate n.toNat z).length * re.size)) := by
      have e0 : (madeCells zv.cells (m.toNat * i.size)).toList.length = m.toNat * re.size := by simp [size_madeCells, hisz]
      refine ⟨by
        show (List.take _ _).length = (List.replicate n.toNat z).length * re.size
        rw [List.length_take, e0, List.length_replicate]; exact Nat.min_eq_left hnm', fun row hr => ?_, fun i' j row pv e1 e2 => ?_⟩
      · rw [List.eq_of_mem_replicate hr, z3, z2]
      · have hi' : i' < n.toNat := by have := (List.getElem?_eq_some_iff.1 e1).1; simpa using this
        have hrow : row = z := by rw [List.getElem?_replicate, if_pos hi'] at e1; simpa using e1.symm
        subst hrow
        have hj : j < re.size := by have := (List.getElem?_eq_some_iff.1 e2).1; rw [z3, z2] at this; exact this
        have hmul : (i' + 1) * re.size ≤ n.toNat * re.size := Nat.mul_le_mul_right _ hi'
        rw [Nat.add_mul, Nat.one_mul] at hmul
        have hjz : j < zv.cells.size := by rw [z2]; exact hj
        have hz4 := zeq_spec (z4 j pv zv.cells[j] e2 (Array.getElem?_eq_getElem hjz)) w (envOf C γ s w).okf
        refine ⟨zv.cells[j], ?_, hz4.2, hz4.1⟩
        have hm : (i' * re.size + j) % zv.cells.size = j := by rw [z2, Nat.mul_comm, Nat.mul_add_mod, Nat.mod_eq_of_lt hj]
        rw [List.getElem?_take, if_pos (by rw [List.length_replicate]; omega)]
        simp only [madeCells, Array.toList_map, List.getElem?_map]
        rw [Array.toList_range, List.getElem?_range (by rw [hisz]; omega)]
        simp [hm, hjz]
    have hmx : m.toNat ≤ maxLen := by simp [maxLen]; omega
    obtain ⟨f1, f2⟩ := newSliceC (T := e) (k := d) (cap := m.toNat) (cur := madeCells zv.cells (m.toNat * i.size)) h hsz hmx (by simp [size_madeCells, hisz]) (by simp; omega) hflat
    refine done (γ' := upg γ d (some w.heap.size)) (w' := w.alloc (.cells (madeCells zv.cells (m.toNat * i.size)) e)) (v := .slice (some ⟨w.heap.size, 0, none⟩) (List.replicate n.toNat z).length m.toNat) ?_ hd f1 f2 rfl
    simp only [execOp, ho, hlr.int_inv, hcr.int_inv]
    exact wrapv (by rw [hrun]; simp)
  | slit kd ho hd hr hs hre hz hsz hn hNs hcells h1 h2 hkd =>
    rename_i T e r re n d parts Pr
    obtain ⟨cur, g1, g2, g3⟩ := slit_core (P := P) hL h kd ho hr hs hre hz hsz hn hNs hcells h1 h2 hkd
    obtain ⟨f1, f2⟩ := newSlice (T := e) (k := d) (cur := cur) h hsz g2 g1
    exact done (γ' := upg γ d (some w.heap.size)) g3 hd f1 f2 rfl
  | makeMap ho hd =>
    rename_i T d
    obtain ⟨e1, e2⟩ := snd_makeMap h T d
    refine done (γ' := upg γ d (some w.heap.size)) (w' := w.alloc (.map #[] 0)) (v := .map (some w.heap.size)) ?_ hd e1 e2 rfl
    simp only [execOp, ho]
    exact wrapv (run_makeMap T w)
  | mapOld ho hd hr hs hrk hx hown hkd hky hkeys hm hrow hv =>
    rename_i T K V r rk x y k g i d c row v
    obtain ⟨w', u, e1, e2, e3⟩ := snd_mapOld (P := P) hL h hr hs hrk hx hown hkd hky hkeys hm hrow hv
    refine done (γ' := γ) (w' := w') (v := .tuple #[u, goInt i]) ?_ hd e2 (.tup [v, .int .i64 i] [u, goInt i] rfl fun j c0 v0 f1 f2 => ?_) rfl
    · simp only [execOp, ho]
      exact wrapv e1
    · match j with
      | 0 => simp at f1 f2; subst f1; subst f2; exact e3
      | 1 => simp at f1 f2; subst f1; subst f2; exact .d (.int _ _)
      | j + 2 => simp at f1
  | mapNew ho hd hr hs hrk hrv hz hz1 hx hown hkd hky hkeys hm =>
    rename_i T K V r rk rv x y k g d c z
    obtain ⟨w', u, e1, e2, e3⟩ := snd_mapNew (P := P) hL h hr hs hrk hrv hz hx hown hkd (zone_spec hz1) hky hkeys hm
    refine done (γ' := γ) (w' := w') (v := .tuple #[u, goInt c.rows.length]) ?_ hd e2 (.tup [z, .int .i64 c.rows.length] [u, goInt c.rows.length] rfl fun j c0 v0 f1 f2 => ?_) rfl
    · simp only [execOp, ho]
      exact wrapv e1
    · match j with
      | 0 => simp at f1 f2; subst f1; subst f2; exact e3
      | 1 => simp at f1 f2; subst f1; subst f2; exact .d (.int _ _)
      | j + 2 => simp at f1
  | entStore kd ho hd hx hown hst hrow hk0 hk hk3 hkd =>
    rename_i T x st y k g i ki c row
    obtain ⟨w', e1, e2⟩ := snd_entryStore (P := P) (T := T) h hx hown hst hrow hk0 hk hk3 hkd
    unfold Oper.wp
    have : (execOp a.eval o).run P w = .ok .skip w' := by
      simp only [execOp, ho]
      simp [e1]
    rw [this, Oper.upon_skip, hd]
    exact hK _ _ ⟨γ, e2⟩
  | mapSet kd ho hd hr hs hrk hx hown hk1 hk3 hky hkeys hkd =>
    obtain ⟨w', e1, e2⟩ := snd_mapSet (P := P) hL h hr hs hrk hx hown hk1 hk3 hky hkeys hkd
    unfold Oper.wp
    have : (execOp a.eval o).run P w = .ok .skip w' := by
      simp only [execOp, ho]
      simp [e1]
    rw [this, Oper.upon_skip, hd]
    exact hK _ _ ⟨γ, e2⟩
  | mapSetG kd ho hd hr hs hrk hx hown hk1 hk3 hg hky hkeys hkd =>
    obtain ⟨w', e1, e2⟩ := snd_mapSetG (P := P) hL h hr hs hrk hx hown hk1 hk3 hg hky hkeys hkd
    unfold Oper.wp
    have : (execOp a.eval o).run P w = .ok .skip w' := by
      simp only [execOp, ho]
      simp [e1]
    rw [this, Oper.upon_skip, hd]
    exact hK _ _ ⟨γ, e2⟩
  | range ho hd hr hs hx =>
    rename_i T K V r x rows d
    obtain ⟨w', e1, e2, e3⟩ := snd_range (P := P) hL h d hr hs hx
    refine done (γ' := upg γ d (some w.heap.size)) (w' := w') (v := .pointer (some ⟨w.heap.size, 0, none⟩)) ?_ hd e2 e3 rfl
    simp only [execOp, ho]
    exact wrapv e1
inductive Dem (P : Program) (L : Lay) (s : St) (o : Oper) (K : St → Prop) : Prop
  | next {x : Operand} {k g d : Nat} {c : Cont} {last : PV} {rem : List PV} (ho : o.op = .next x false) (hd : o.dst = some d) (hx : s.ev x = .mi k g) (hown : s.own k = (g, some c)) (hk3 : c.kind = 3) (hrows : c.rows = [last :: rem])
      (h0 : rem = [] → K (s.putR d (.tup [.bool false])))
      (h1 : ∀ i ck cv, rem[i]? = some (.agg [ck, cv]) → K ((s.setOwn k g (some ⟨c.ty, c.sz, [.agg [ck, cv] :: rem.eraseIdx i], 3⟩)).putR d (.tup [.bool true, ck, cv]))) : Dem P L s o K
theorem Dem.sound (h : SimE C s a w) {o : Oper} (hN : dstLt C.N o.dst = true) {K' : St → Prop} (hq : Dem P L s o K') {K : Act → World → Prop} {Q : Exit → Act → World → Prop} (hK : ∀ s' a' w', SimE C s' a' w' → K' s' → K a' w') : o.wp P a w K Q := by
  obtain ⟨γ, h⟩ := h
  have wrapv : ∀ {m : Sem Value} {v : Value} {w' : World}, m.run P w = .ok v w' → (do pure (Next.value (← m)) : Sem Next).run P w = .ok (.value v) w' := fun hm => by simp [hm]
  cases hq with
  | next ho hd hx hown hk3 hrows h0 h1 =>
    rename_i x k g d c last rem
    unfold Oper.wp
    rcases snd_next (P := P) (ty := o.type) h hx hown hk3 hrows with ⟨e0, e1⟩ | ⟨i, ck, cv, uk, uv, w', e0, e1, e2, e3, e4⟩
    · have : (execOp a.eval o).run P w = .ok (.value (.tuple #[.bool false])) w := by
        simp only [execOp, ho]
        exact wrapv e1
      rw [this, Oper.upon_value, hd]
      refine hK _ _ _ ⟨γ, h.put (d := some d) (by rw [← hd]; exact hN) (.tup [.bool false] [.bool false] rfl fun j c0 v0 f1 f2 => ?_)⟩ (h0 e0)
      match j with
      | 0 => simp at f1 f2; subst f1; subst f2; exact .d (.bool _)
      | j + 1 => simp at f1
    · have : (execOp a.eval o).run P w = .ok (.value (.tuple #[.bool true, uk, uv])) w' := by
        simp only [execOp, ho]
        exact wrapv e1
      rw [this, Oper.upon_value, hd]
      refine hK _ _ _ ⟨γ, e2.put (d := some d) (by rw [← hd]; exact hN) (.tup [.bool true, ck, cv] [.bool true, uk, uv] rfl fun j c0 v0 f1 f2 => ?_)⟩ (h1 i ck cv e0)
      match j with
      | 0 => simp at f1 f2; subst f1; subst f2; exact .d (.bool _)
      | 1 => simp at f1 f2; subst f1; subst f2; exact e3
      | 2 => simp at f1 f2; subst f1; subst f2; exact e4
      | j + 3 => simp at f1
theorem Dem.mono {o : Oper} {K K' : St → Prop} (hk : ∀ s, K s → K' s) (h : Dem P L s o K) : Dem P L s o K' := by
  cases h with
  | next ho hd hx hown hk3 hrows h0 h1 => exact .next ho hd hx hown hk3 hrows (fun e => hk _ (h0 e)) (fun i ck cv e => hk _ (h1 i ck cv e))
end
end Go.Pv


namespace Go.Pv
open Go.RowKit
variable [Globs]
def fixV : PV → Option Value
  | .bool b => some (.bool b)
  | .int k n => some (.int k n)
  | .str s => some (.string ⟨s.toArray⟩)
  | .raw v => some v
  | _ => none
def bnd (s : St) (o : Option Operand) (d n : Nat) : Prop := (o = none ∧ n = d) ∨ ∃ x k, o = some x ∧ s.ev x = .int k (n : Int)
inductive QOp (P : Program) (L : Lay) (s : St) (o : Oper) : PV → Prop
  | v {pv : PV} {Cd : Prop} (hq : qv L s o.op = some (pv, Cd)) (hc : Cd) : QOp P L s o pv
  | idx {T e : TypeId} {x ix : Operand} {r re : LRow} {rows : List (List PV)} {row : List PV} {k : IntKind} {n : Int} (ho : o.op = .indexAddr T x ix) (hr : L T = some r) (hs : r.sh = .sl e) (hre : L e = some re)
      (hx : s.ev x = .sl rows ∨ s.ev x = .fsl rows) (hix : s.ev ix = .int k n) (h0 : 0 ≤ n) (hrow : rows[n.toNat]? = some row) (hlen : row.length = re.size) : QOp P L s o (.dref row 0)
  | idxA {T e : TypeId} {x ix : Operand} {r re : LRow} {k : IntKind} {n : Int} {st g i m : Nat} {c : Cont} (ho : o.op = .indexAddr T x ix) (hr : L T = some r) (hs : r.sh = .sl e) (hre : L e = some re)
      (hx : s.ev x = .als st g i m) (hown : s.own st = (g, some c)) (hsz : c.sz = re.size) (hix : s.ev ix = .int k n) (h0 : 0 ≤ n) (hlt : n < m) : QOp P L s o (.ptr st g (i + n.toNat) 0)
  | ldp {T : TypeId} {x : Operand} {r : LRow} {st g i j : Nat} {c : Cont} {row : List PV} {pv : PV} (ho : o.op = .load T x) (hr : L T = some r) (hx : s.ev x = .ptr st g i j) (hown : s.own st = (g, some c))
      (hrow : c.rows[i]? = some row) (hp : part r row j = some pv) : QOp P L s o pv
  | slc {T e : TypeId} {x lo : Operand} {r re : LRow} {rows : List (List PV)} {k : IntKind} {n : Int} (ho : o.op = .slice T x (some lo) none none) (hr : L T = some r) (hs : r.sh = .sl e) (hre : L e = some re)
      (hx : s.ev x = .sl rows) (hix : s.ev lo = .int k n) (h0 : 0 ≤ n) (hle : n ≤ rows.length) (hlen : ∀ row ∈ rows, row.length = re.size) : QOp P L s o (.sl (rows.drop n.toNat))
  | slh {T e : TypeId} {x hi : Operand} {r re : LRow} {rows : List (List PV)} {k : IntKind} {n : Int} (ho : o.op = .slice T x none (some hi) none) (hr : L T = some r) (hs : r.sh = .sl e) (hre : L e = some re)
      (hx : s.ev x = .sl rows) (hix : s.ev hi = .int k n) (h0 : 0 ≤ n) (hle : n ≤ rows.length) (hlen : ∀ row ∈ rows, row.length = re.size) : QOp P L s o (.sl (rows.take n.toNat))
  | slg {T e : TypeId} {x : Operand} {lo hi : Option Operand} {r re : LRow} {rows : List (List PV)} {l h : Nat} (fr : Bool) (ho : o.op = .slice T x lo hi none) (hr : L T = some r) (hs : r.sh = .sl e) (hre : L e = some re)
      (hx : s.ev x = bif fr then .fsl rows else .sl rows) (hlo : bnd s lo 0 l) (hhi : bnd s hi rows.length h) (hlh : l ≤ h) (hle : h ≤ rows.length) (hlen : ∀ row ∈ rows, row.length = re.size) : QOp P L s o (bif fr then .fsl ((rows.take h).drop l) else .sl ((rows.take h).drop l))
  | slA {T e : TypeId} {x : Operand} {lo hi : Option Operand} {r re : LRow} {st g i m l h : Nat} {c : Cont} (ho : o.op = .slice T x lo hi none) (hr : L T = some r) (hs : r.sh = .sl e) (hre : L e = some re)
      (hx : s.ev x = .als st g i m) (hown : s.own st = (g, some c)) (hsz : c.sz = re.size) (hlo : bnd s lo 0 l) (hhi : bnd s hi m h) (hlt : l < h) (hle : h ≤ m) : QOp P L s o (.als st g (i + l) (h - l))
  | slE {T e : TypeId} {x : Operand} {lo hi : Option Operand} {r re : LRow} {st g i m l : Nat} {c : Cont} (ho : o.op = .slice T x lo hi none) (hr : L T = some r) (hs : r.sh = .sl e) (hre : L e = some re)
      (hx : s.ev x = .als st g i m) (hown : s.own st = (g, some c)) (hlo : bnd s lo 0 l) (hhi : bnd s hi m l) (hle : l ≤ m) : QOp P L s o (.sl [])
  | call {fop : Operand} {args : Array Operand} {tys : Array TypeId} {f : FuncId} {caps pargs : List PV} {Cd : Prop} {b : Fl} {r : PV} (ho : o.op = .call ⟨.value fop, args, tys⟩) (hf : s.ev fop = .clo f caps)
      (hres : resL (res s 4) (args.toList.map s.ev ++ caps) = some (pargs, Cd, b)) (hc : Cd) (hb : b.cl = true) (hret : Ret P .shared f pargs r) : QOp P L s o r
  | callF {fop : Operand} {args : Array Operand} {tys : Array TypeId} {f : FuncId} {caps pargs : List PV} {Cd : Prop} {b : Fl} {r : PV} (ho : o.op = .call ⟨.value fop, args, tys⟩) (hf : s.ev fop = .clo f caps)
      (hres : resL (res s 4) (args.toList.map s.ev ++ caps) = some (pargs, Cd, b)) (hc : Cd) (hret : Ret P .fresh f pargs r) : QOp P L s o r.frs
  | slit {T e : TypeId} {r re : LRow} {n : Nat} {parts : Array (Nat × Operand)} {Pr : Prop} (ho : o.op = .buildSlice T n parts) (hr : L T = some r) (hs : r.sh = .sl e) (hre : L e = some re) (hz : re.zero.isSome = true) (hsz : 0 < re.size)
      (hn : parts.toList.map (·.1) = List.range n) (hN : n * re.size ≤ 16777216) (hcells : ∀ p ∈ parts.toList, (s.ev p.2).cells.length = re.size)
      (h1 : oneL s (parts.toList.flatMap fun p => (s.ev p.2).cells) = some Pr) (h2 : Pr) (hkd : (parts.toList.flatMap fun p => (s.ev p.2).cells).all (kOk 0) = true) : QOp P L s o (.fsl (parts.toList.map fun p => (s.ev p.2).cells.map (nrm 0)))
  | mks {T e : TypeId} {r re : LRow} {l c : Operand} {kl kc : IntKind} {n : Int} {z : List PV} (ho : o.op = .makeSlice T l c) (hr : L T = some r) (hs : r.sh = .sl e) (hre : L e = some re) (hz : re.zero = some z) (hsz : 0 < re.size)
      (hl : s.ev l = .int kl n) (hc : s.ev c = .int kc n) (h0 : 0 ≤ n) (hb : (re.bytes : Int) * n ≤ 140737488355328) (h63 : n ≤ 9223372036854775807) : QOp P L s o (.fsl (List.replicate n.toNat z))
  | look {T K V : TypeId} {r rk rv : LRow} {x y : Operand} {k g : Nat} {c : Cont} {z : PV} {ok : Bool} (ho : o.op = .lookup T x y ok) (hr : L T = some r) (hs : r.sh = .map K V) (hrk : L K = some rk) (hrv : L V = some rv) (hz : rv.zero = some [z]) (hz1 : zone P V = true) (hx : s.ev x = .mp k g) (hown : s.own k = (g, some c)) (hk3 : c.kind < 3)
      (hky : rk.sh.key (s.ev y) = true) (hkeys : keyed rk.sh c.rows = true) : QOp P L s o (bif ok then .tup [mval z (s.ev y) c.rows, .bool (mix (s.ev y) c.rows).isSome] else mval z (s.ev y) c.rows)
  | entry {x : Operand} {k g : Nat} {c : Cont} {ck cv : PV} {rem : List PV} (ho : o.op = .entry x) (hx : s.ev x = .mi k g) (hown : s.own k = (g, some c)) (hk3 : c.kind = 3) (hrows : c.rows = [.agg [ck, cv] :: rem]) : QOp P L s o (.tup [ck, cv])
  | sem {x : Operand} {u v : Value} {pv : PV} (hx : s.ev x = .raw u) (ho : o.op.operands = #[x]) (hrun : ∀ (ev : Operand → Value) (w : World), Globs.glob w → ev x = u → (execOp ev o).run P w = .ok (.value v) w) (hpv : ∀ (w : World) (ok : Nat → Prop), DRep w ok pv v) : QOp P L s o pv
  | semF {v : Value} {pv : PV} (hne : o.op.operands.size ≠ 0) (hall : ∀ x ∈ o.op.operands, ∃ u, fixV (s.ev x) = some u) (hrun : ∀ (ev : Operand → Value) (w : World), Globs.glob w → (∀ x ∈ o.op.operands, fixV (s.ev x) = some (ev x)) → (execOp ev o).run P w = .ok (.value v) w) (hpv : ∀ (w : World) (ok : Nat → Prop), DRep w ok pv v) : QOp P L s o pv
  | lookG {T K V : TypeId} {r rk : LRow} {kk : Option (List Sh)} {x y : Operand} {rows : List (List PV)} {z : PV} {ok : Bool} (ho : o.op = .lookup T x y ok) (hr : L T = some r) (hs : r.sh = .map K V) (hrk : L K = some rk) (hz : LOk P L → ZVal P V z)
      (hx : s.ev x = .mapd rows ∨ ∃ k g c, s.ev x = .mp k g ∧ s.own k = (g, some c) ∧ c.kind < 3 ∧ c.rows = rows) (hg : kgood P K kk = true) (hky : kkey rk.sh kk (s.ev y) = true) (hkeys : keyedG rk.sh kk rows = true) :
      QOp P L s o (bif ok then .tup [mval z (s.ev y) rows, .bool (mix (s.ev y) rows).isSome] else mval z (s.ev y) rows)
  | s2b {src T e : TypeId} {x : Operand} {r re rs : LRow} {l : List UInt8} (ho : o.op = .convert src T x) (hrs : L src = some rs) (hr : L T = some r) (hs : r.sh = .sl e) (hre : L e = some re) (hsh : re.sh = .int .u8) (hx : s.ev x = .str l) : QOp P L s o (.fsl (l.map fun c => [.int .u8 c.toNat]))
  | b2s {src T e : TypeId} {x : Operand} {r re rs : LRow} {l : List UInt8} (ho : o.op = .convert src T x) (hrs : L src = some rs) (hr : L T = some r) (hs : rs.sh = .sl e) (hre : L e = some re) (hsh : re.sh = .int .u8) (hrd : r.sh = .str) (hl : l ≠ []) (hx : s.ev x = .fsl (l.map fun c => [.int .u8 c.toNat]) ∨ s.ev x = .sl (l.map fun c => [.int .u8 c.toNat])) : QOp P L s o (.str l)
  | seq {T : TypeId} {x y : Operand} {T' : TypeId} {ks : List Sh} {us vs : List PV} {r neg : Bool} (ho : o.op = .binOp (bif neg then .neq else .eql) T x y T') (hT : eqT P T ks = true) (hx : s.ev x = .agg us) (hy : s.ev y = .agg vs) (hl : leqs ks us vs = some r) : QOp P L s o (.bool (bif neg then !r else r))
def Gives (P : Program) (C : Ctx) (γ : Nat → Option Nat) (s : St) (a : Act) (w : World) (o : Oper) (pv : PV) : Prop :=
  (∃ v, (execOp a.eval o).run P w = .ok (.value v) w ∧ Rep (envOf C γ s w) pv v) ∨
  (∃ v w', (execOp a.eval o).run P w = .ok (.value v) w' ∧ Below w.heap.size w w' ∧ Rep (envOf C γ s w') pv v) ∨
  (∃ f args, (execOp a.eval o).run P w = .ok (.enter f args) w ∧ Calls P f args w fun e w' => ∃ v, e = .returned v ∧ Below w.heap.size w w' ∧ Rep (envOf C γ s w') pv v)
section
variable {P : Program} {L : Lay} {C : Ctx} {γ : Nat → Option Nat} {s : St} {a : Act} {w : World}
theorem run_slice_any {w : World} {T : TypeId} {ad : Option Addr} {len cap l h : Nat} {lo hi : Option Value} (ht : P.underlying T = some (.slice (P.elem T)))
    (hlo : (lo = none ∧ l = 0) ∨ ∃ k, lo = some (.int k (l : Int))) (hhi : (hi = none ∧ h = len) ∨ ∃ k, hi = some (.int k (h : Int))) (hlh : l ≤ h) (hc : h ≤ cap) :
    (Instr.slice T (.slice ad len cap) lo hi none).run P w = ((sizeOf (P.elem T)).run P w).andThen fun s w => .ok (sliced ad l h cap s) w := by
  rcases hlo with ⟨rfl, rfl⟩ | ⟨kl, rfl⟩ <;> rcases hhi with ⟨rfl, rfl⟩ | ⟨kh, rfl⟩
  · rw [run_slice_all w T ad h cap ht]
  · rw [run_slice_h w T ad len cap ht kh h (by omega) (by omega)]; rfl
  · rw [run_slice_l w T ad h cap ht kl l (by omega) (by omega)]; rfl
  · rw [run_slice_lh w T ad len cap ht kl kh l h (by omega) (by omega) (by omega)]; rfl
theorem drep_slice {E : Env} {ok : Nat → Prop} {rows : List (List PV)} {v : Value} {sz l h : Nat} (hd : DRep E.w ok (.sl rows) v) (hsz : ∀ row ∈ rows, row.length = sz) (hlh : l ≤ h) (hle : h ≤ rows.length) :
    ∃ ad cap, v = .slice ad rows.length cap ∧ h ≤ cap ∧ DRep E.w ok (.sl ((rows.take h).drop l)) (sliced ad l h cap sz) := by
  rcases sl_inv hd with ⟨rfl, ad, cap, hv⟩ | ⟨b, off, cap, sz', vals, hv, h1, h2, h3, h4, h5, h6⟩
  · simp at hle
    refine ⟨ad, cap, hv, by omega, ?_⟩
    have : l = 0 := by omega
    subst this
    subst hle
    exact .sl0 _ _
  · refine ⟨_, cap, hv, by omega, ?_⟩
    by_cases he : l = h
    · subst he
      have : (rows.take l).drop l = [] := List.drop_eq_nil_of_le (by rw [List.length_take]; exact Nat.min_le_left _ _)
      rw [this, sliced, Nat.sub_self]
      exact .sl0 _ _
    · have hszz : sz' = sz := by
        have hx := hsz rows[0] (by simp)
        rw [← hx]; exact (h4 _ (by simp)).symm
      subst hszz
      rw [sliced, if_neg (by omega)]
      simp only [Option.map_some, Addr.add_mk]
      have hlen : ((rows.take h).drop l).length = h - l := by simp; omega
      have hget : ∀ i, ((rows.take h).drop l)[i]? = if l + i < h then rows[l + i]? else none := fun i => by rw [List.getElem?_drop, List.getElem?_take]
      have := DRep.sl (w := E.w) (ok := ok) ((rows.take h).drop l) b (off + l * sz') (cap - l) sz' (fun i j => vals (l + i) j) h1 h2 (by omega) (fun row hr => h4 row (List.mem_of_mem_take (List.mem_of_mem_drop hr)))
        (fun i j row c e1 e2 => by
          rw [hget] at e1
          split at e1
          · have := h5 _ _ _ _ e1 e2
            rwa [show off + (l + i) * sz' + j = off + l * sz' + i * sz' + j by rw [Nat.add_mul]; omega] at this
          · cases e1)
        (fun i j row c e1 e2 => by
          rw [hget] at e1
          split at e1
          · exact h6 _ _ _ _ e1 e2
          · cases e1)
      rwa [hlen] at this
theorem bnd_run {γ : Nat → Option Nat} (h : Sim C γ s a w) {o : Option Operand} {d n : Nat} (hb : bnd s o d n) : (o.map a.eval = none ∧ n = d) ∨ ∃ k, o.map a.eval = some (.int k (n : Int)) := by
  rcases hb with ⟨rfl, rfl⟩ | ⟨x, k, rfl, hx⟩
  · exact .inl ⟨rfl, rfl⟩
  · have hv := h.ev x
    rw [hx] at hv
    exact .inr ⟨k, by rw [Option.map_some, hv.int_inv]⟩
theorem QOp.sound (hL : LOk P L) (hX : ∀ b, C.X b → b < C.B) (hglob : Globs.glob w) (h : Sim C γ s a w) {o : Oper} {pv : PV} (hq : QOp P L s o pv) : Gives P C γ s a w o pv := by
  have wrapv : ∀ {m : Sem Value} {v : Value}, m.run P w = .ok v w → (do pure (Next.value (← m)) : Sem Next).run P w = .ok (.value v) w := fun hm => by simp [hm]
  cases hq with
  | v hq hc => exact .inl (qv_sound hL h hq hc)
  | seq ho hT hx hy hl =>
    rename_i T x y T' ks us vs r neg
    have hxr := h.ev x
    rw [hx] at hxr
    have hyr := h.ev y
    rw [hy] at hyr
    obtain ⟨e1, e2⟩ := run_eqs (P := P) (w := w) (x := x) (y := y) hT hl hxr hyr
    cases neg
    · refine .inl ⟨.bool r, ?_, .d (.bool r)⟩
      simp only [execOp, ho, cond_false]
      exact wrapv e1
    · refine .inl ⟨.bool (!r), ?_, .d (.bool _)⟩
      simp only [execOp, ho, cond_true]
      exact wrapv e2
  | look ho hr hs hrk hrv hz hz1 hx hown hk3 hky hkeys =>
    rename_i T K V r rk rv x y k g c z ok
    have hxr := h.ev x
    rw [hx] at hxr
    obtain ⟨hsz, b, hb, hxv⟩ := h.mp_at hxr hown
    obtain ⟨es, nn, f1, f2, f3, f4, f5, f6⟩ := (h.sites k c (by rw [hown])).mp b hb hsz hk3
    obtain ⟨u, e1, e2⟩ := run_look (E := envOf C γ s w) (P := P) (ok := ok) hL hr hs hrk hrv hz hz1 f1 f2 f3 (fun i row c e e1 e2 e3 => (f5 i row c e e1 e2 e3).rep envOf_okfok) (fun i row c e e1 e2 e3 => (f6 i row c e e1 e2 e3).rep envOf_okfok) hky (h.ev y) hkeys
    refine .inl ⟨u, ?_, e2⟩
    simp only [execOp, ho, hxv]
    exact wrapv e1
  | sem hx ho hrun hpv =>
    rename_i x u v
    have hxr := h.ev x
    rw [hx] at hxr
    exact .inl ⟨_, hrun a.eval w hglob hxr.raw_inv, .d (hpv _ _)⟩
  | semF hne hall hrun hpv =>
    refine .inl ⟨_, hrun a.eval w hglob (fun x hx => ?_), .d (hpv _ _)⟩
    obtain ⟨u, hu⟩ := hall x hx
    have hxr := h.ev x
    generalize s.ev x = c at hu hxr ⊢
    rw [hu]
    cases c with
    | bool b => cases hu; rw [hxr.bool_inv]
    | int k n => cases hu; rw [hxr.int_inv]
    | str l => cases hu; rw [hxr.str_inv]
    | raw v => cases hu; rw [hxr.raw_inv]
    | _ => cases hu
  | lookG ho hr hs hrk hz hx hg hky hkeys =>
    rename_i T K V r rk kk x y rows z ok
    have hxr := h.ev x
    obtain ⟨b, es, nn, hxv, f1, f2, f3, f5, f6⟩ : ∃ b es nn, a.eval x = .map (some b) ∧ w.heap[b]? = some (.map es nn) ∧ rows.length = es.size ∧ (∀ row ∈ rows, row.length = 2) ∧
        (∀ (i : Nat) (row : List PV) (c : PV) (e : MapEntry), rows[i]? = some row → row[0]? = some c → es[i]? = some e → Rep (envOf C γ s w) c e.key) ∧
        (∀ (i : Nat) (row : List PV) (c : PV) (e : MapEntry), rows[i]? = some row → row[1]? = some c → es[i]? = some e → Rep (envOf C γ s w) c e.val) := by
      rcases hx with hx | ⟨k, g, c, hx, hown, hk3, hrows⟩
      · rw [hx] at hxr
        cases hxr with | d hd =>
        generalize he : a.eval x = v at hd
        cases hd with
        | mapd rows b es nn hb hh hl h2 hborn hk hv => exact ⟨b, es, nn, rfl, hh, hl, h2, fun i row c e e1 e2 e3 => .d (hk i row c e e1 e2 e3), fun i row c e e1 e2 e3 => .d (hv i row c e e1 e2 e3)⟩
      · rw [hx] at hxr
        obtain ⟨hsz, b, hb, hxv⟩ := h.mp_at hxr hown
        obtain ⟨es, nn, f1, f2, f3, f4, f5, f6⟩ := (h.sites k c (by rw [hown])).mp b hb hsz hk3
        subst hrows
        exact ⟨b, es, nn, hxv, f1, f2, f3, fun i row c e e1 e2 e3 => (f5 i row c e e1 e2 e3).rep envOf_okfok, fun i row c e e1 e2 e3 => (f6 i row c e e1 e2 e3).rep envOf_okfok⟩
    obtain ⟨u, e1, e2⟩ := run_lookG (E := envOf C γ s w) (P := P) (ok := ok) hL hr hs hrk (hz hL) f1 f2 f3 f5 f6 hg hky (h.ev y) hkeys
    refine .inl ⟨u, ?_, e2⟩
    simp only [execOp, ho, hxv]
    exact wrapv e1
  | b2s ho hrs hr hs hre hsh hrd hl hx =>
    rename_i src T e x r re rs l
    have hxr := h.ev x
    have main : ∀ (ok : Nat → Prop) (v : Value), DRep w ok (.sl (l.map fun c => [PV.int .u8 c.toNat])) v → (convert src T v).run P w = .ok (.string ⟨l.toArray⟩) w := by
      intro ok v hd
      rcases sl_inv (E := ⟨w, ok, ok, fun _ => 0, fun _ => none⟩) hd with ⟨h0, _⟩ | ⟨b, off, cap, sz, vals, hv, _, hsz, _, hrow, hcell, hdr⟩
      · exact absurd (by simpa using h0) hl
      · have h1 : sz = 1 := by
          cases l with
          | nil => exact absurd rfl hl
          | cons a l => exact (hrow [.int .u8 a.toNat] (by simp)).symm
        subst h1
        have hrun := run_convert_bytes_arg (P := P) w src e (und_sl (hL src rs hrs) hs) (und_int (hL e re hre) hsh) b off l.length cap (l.map fun c => (c.toNat : Int)) (by simp) (fun i hi => by
          have g1 : (l.map fun c => [PV.int .u8 c.toNat])[i]? = some [.int .u8 l[i].toNat] := by rw [List.getElem?_map, List.getElem?_eq_getElem hi]; rfl
          have g2 := (hcell i 0 _ _ g1 rfl).1
          have g3 := hdr i 0 _ _ g1 rfl
          generalize vals i 0 = u at g2 g3
          cases g3
          rw [show off + i = off + i * 1 + 0 by omega]
          rw [show (w.cell? ⟨b, off + i * 1 + 0, none⟩) = _ from g2]
          rw [List.getD_eq_getElem?_getD, List.getElem?_map, List.getElem?_eq_getElem hi]; rfl) T (und_str (hL T r hr) hrd)
        rw [hv, List.length_map, hrun]
        congr 2
        rw [strOfNums, List.map_map]
        congr 2
        conv => rhs; rw [← List.map_id l]
        exact List.map_congr_left fun c _ => by simp
    rcases hx with hx | hx
    · rw [hx] at hxr
      cases hxr with
      | d hd => cases hd
      | fsl hd =>
        refine .inl ⟨_, ?_, .d (.str l)⟩
        simp only [execOp, ho]
        rw [Sem.run_bind, main _ _ hd]; rfl
    · rw [hx] at hxr
      cases hxr with
      | d hd =>
        refine .inl ⟨_, ?_, .d (.str l)⟩
        simp only [execOp, ho]
        rw [Sem.run_bind, main _ _ hd]; rfl
  | s2b ho hrs hr hs hre hsh hx =>
    rename_i src T e x r re rs l
    have hxr := h.ev x
    rw [hx] at hxr
    have hus : ∃ u, P.underlying src = some u := Option.isSome_iff_exists.1 (und_any (hL src rs hrs))
    obtain ⟨u, hu⟩ := hus
    have hrun := Lib.run_convert_string_bytes (P := P) w src T e ⟨l.toArray⟩ hu (und_sl (hL T r hr) hs) (und_int (hL e re hre) hsh)
    have hsz : (⟨l.toArray⟩ : ByteArray).size = l.length := rfl
    rw [hsz] at hrun
    have hbel : Below w.heap.size w (Lib.bytesWorld w e ⟨l.toArray⟩) := ⟨rfl, rfl, rfl, by rw [Lib.bytesWorld_size]; omega, fun b hb => Lib.bytesWorld_at_old w e _ b hb⟩
    refine .inr (.inl ⟨.slice (some ⟨w.heap.size, 0, none⟩) (l.map fun c => [PV.int .u8 c.toNat]).length (grownCap w l.length 0 e), Lib.bytesWorld w e ⟨l.toArray⟩, ?_, hbel, .fsl ?_⟩)
    · simp only [execOp, ho, hxr.str_inv, List.length_map]
      rw [Sem.run_bind, hrun]
      rfl
    have hcap : l.length ≤ grownCap w l.length 0 e := grownCap_ge w l.length 0 e
    have := DRep.sl (w := Lib.bytesWorld w e ⟨l.toArray⟩) (ok := (envOf C γ s (Lib.bytesWorld w e ⟨l.toArray⟩)).okf) (l.map fun c => [PV.int .u8 c.toNat]) w.heap.size 0 (grownCap w l.length 0 e) 1 (fun i _ => .int .u8 (l.getD i 0).toNat)
      ⟨h.top, by show _ < (Lib.bytesWorld w e _).heap.size; rw [Lib.bytesWorld_size]; omega, fun hx => by have := hX _ hx; have := h.top; omega, fun k c hc hk => by have := (h.base k c _ hc hk).2; omega⟩ (by omega) (by simpa using hcap)
      (fun row hr => by simp only [List.mem_map] at hr; obtain ⟨c, _, rfl⟩ := hr; rfl) (fun i j row c e1 e2 => by
        have hi : i < l.length := by have := (List.getElem?_eq_some_iff.1 e1).1; simpa using this
        rw [List.getElem?_map, List.getElem?_eq_getElem hi] at e1
        simp only [Option.map_some, Option.some.injEq] at e1
        subst e1
        have hj : j = 0 := by have := (List.getElem?_eq_some_iff.1 e2).1; simp at this; omega
        subst hj
        refine ⟨?_, rfl⟩
        have := Lib.bytesWorld_cell w e ⟨l.toArray⟩ i (by rw [hsz]; exact hi)
        simpa using this) (fun i j row c e1 e2 => by
        have hi : i < l.length := by have := (List.getElem?_eq_some_iff.1 e1).1; simpa using this
        rw [List.getElem?_map, List.getElem?_eq_getElem hi] at e1
        simp only [Option.map_some, Option.some.injEq] at e1
        subst e1
        have hj : j = 0 := by have := (List.getElem?_eq_some_iff.1 e2).1; simp at this; omega
        subst hj
        simp at e2
        subst e2
        have : l.getD i 0 = l[i] := by simp [List.getD_eq_getElem?_getD, hi]
        simp only [this]
        exact .int _ _)
    exact this
  | entry ho hx hown hk3 hrows =>
    obtain ⟨u, e1, e2⟩ := snd_entry (P := P) h hx hown hk3 hrows
    refine .inl ⟨u, ?_, e2⟩
    simp only [execOp, ho]
    exact wrapv e1
  | slit ho hr hs hre hz hsz hn hN hcells h1 h2 hkd =>
    rename_i T e r re n parts Pr
    obtain ⟨cur, g1, g2, g3⟩ := slit_core (P := P) hL h 0 ho hr hs hre hz hsz hn hN hcells h1 h2 hkd
    have hb : Below w.heap.size w (w.alloc (.cells cur e)) := ⟨rfl, rfl, rfl, by simp, fun b hb => Below.heap_alloc w _ b hb⟩
    have hle := envLe_ext (C := C) (γ := γ) (s := s) hb h.base
    refine .inr (.inl ⟨_, _, g3, hb, .fsl ?_⟩)
    have hf := g1.mono hle
    have hblk : (w.alloc (.cells cur e)).heap[w.heap.size]? = some (.cells cur e (0, 0)) := heap_alloc_at _ _
    refine .sl _ w.heap.size 0 _ re.size (fun i j => cur.getD (i * re.size + j) undef) ⟨h.top, by simp, fun hx => ?_, fun k c hc hk => ?_⟩ hsz (Nat.le_refl _) hf.row_ (fun i j row pv e1 e2 => ?_) (fun i j row pv e1 e2 => ?_)
    · have := hX _ hx; have := h.top; omega
    · have := (h.base k c _ hc hk).2; omega
    · obtain ⟨v, f1, f2, f3⟩ := hf.at_ i j row pv e1 e2
      rw [Array.getElem?_toList] at f1
      show (w.alloc (.cells cur e)).cell? _ = _ ∧ _
      rw [cell_of_cells hblk, Nat.zero_add, f1]
      simp [f1, f2]
    · obtain ⟨v, f1, f2, f3⟩ := hf.at_ i j row pv e1 e2
      rw [Array.getElem?_toList] at f1
      have : cur.getD (i * re.size + j) undef = v := by simp [f1]
      simp only [this]
      exact f3
  | mks ho hr hs hre hz hsz hl hc h0 hb h63 =>
    rename_i T e r re l c kl kc n z
    obtain ⟨i, dd, hi, hud, hisz, hiby, _, hzero⟩ := LRow.spec (hL e re hre)
    obtain ⟨zv, z1, z2, z3, z4⟩ := hzero z hz
    have hu := und_sl (hL T r hr) hs
    have hlr := h.ev l
    rw [hl] at hlr
    have hcr := h.ev c
    rw [hc] at hcr
    have hrun := run_make (P := P) w T e i zv hu hi z1 kl kc n n h0 (Int.le_refl _) (by rw [hiby]; omega) h63
    have hflat : FlatRep (envOf C γ s w) 0 re.size (List.replicate n.toNat z) (madeCells zv.cells (n.toNat * i.size)).toList := by
      refine ⟨by simp [size_madeCells, hisz], fun row hr => ?_, fun i' j row pv e1 e2 => ?_⟩
      · rw [List.eq_of_mem_replicate hr, z3, z2]
      · have hi' : i' < n.toNat := by have := (List.getElem?_eq_some_iff.1 e1).1; simpa using this
        have hrow : row = z := by rw [List.getElem?_replicate, if_pos hi'] at e1; simpa using e1.symm
        subst hrow
        have hj : j < re.size := by have := (List.getElem?_eq_some_iff.1 e2).1; rw [z3, z2] at this; exact this
        have hmul : (i' + 1) * re.size ≤ n.toNat * re.size := Nat.mul_le_mul_right _ hi'
        rw [Nat.add_mul, Nat.one_mul] at hmul
        have hjz : j < zv.cells.size := by rw [z2]; exact hj
        have hz4 := zeq_spec (z4 j pv zv.cells[j] e2 (Array.getElem?_eq_getElem hjz)) w (envOf C γ s w).okf
        refine ⟨zv.cells[j], ?_, hz4.2, hz4.1⟩
        have hm : (i' * re.size + j) % zv.cells.size = j := by rw [z2, Nat.mul_comm, Nat.mul_add_mod, Nat.mod_eq_of_lt hj]
        simp only [madeCells, Array.toList_map, List.getElem?_map]
        rw [Array.toList_range, List.getElem?_range (by rw [hisz]; omega)]
        simp [hm, hjz]
    generalize madeCells zv.cells (n.toNat * i.size) = cur at *
    have hbel : Below w.heap.size w (w.alloc (.cells cur e)) := ⟨rfl, rfl, rfl, by simp, fun b hb => Below.heap_alloc w _ b hb⟩
    have hle := envLe_ext (C := C) (γ := γ) (s := s) hbel h.base
    refine .inr (.inl ⟨.slice (some ⟨w.heap.size, 0, none⟩) (List.replicate n.toNat z).length (List.replicate n.toNat z).length, w.alloc (.cells cur e), ?_, hbel, .fsl ?_⟩)
    · simp only [execOp, ho, hlr.int_inv, hcr.int_inv]
      simp [hrun]
    have hf := hflat.mono hle
    have hblk : (w.alloc (.cells cur e)).heap[w.heap.size]? = some (.cells cur e (0, 0)) := heap_alloc_at _ _
    refine .sl _ w.heap.size 0 _ re.size (fun i j => cur.getD (i * re.size + j) undef) ⟨h.top, by simp, fun hx => ?_, fun k c hc hk => ?_⟩ hsz (Nat.le_refl _) hf.row_ (fun i j row pv e1 e2 => ?_) (fun i j row pv e1 e2 => ?_)
    · have := hX _ hx; have := h.top; omega
    · have := (h.base k c _ hc hk).2; omega
    · obtain ⟨v, f1, f2, f3⟩ := hf.at_ i j row pv e1 e2
      rw [Array.getElem?_toList] at f1
      show (w.alloc (.cells cur e)).cell? _ = _ ∧ _
      rw [cell_of_cells hblk, Nat.zero_add, f1]
      simp [f1, f2]
    · obtain ⟨v, f1, f2, f3⟩ := hf.at_ i j row pv e1 e2
      rw [Array.getElem?_toList] at f1
      have : cur.getD (i * re.size + j) undef = v := by simp [f1]
      simp only [this]
      exact f3
  | idx ho hr hs hre hx hix h0 hrow hlen =>
    rename_i T e x ix r re rows row k n
    have hi := h.ev ix
    rw [hix] at hi
    have hxr := h.ev x
    obtain ⟨ok, hok, hd⟩ : ∃ ok : Nat → Prop, (∀ b, ok b → okOf C γ s w b) ∧ DRep w ok (.sl rows) (a.eval x) := by
      rcases hx with hx | hx
      · rw [hx] at hxr; cases hxr with | d hd => exact ⟨_, fun b hb => hb, hd⟩
      · rw [hx] at hxr; cases hxr with
        | d hd => cases hd
        | fsl hd => exact ⟨_, fun b hb => hb.2, hd⟩
    have hlt : n.toNat < rows.length := (List.getElem?_eq_some_iff.1 hrow).1
    rcases sl_inv (E := envOf C γ s w) hd with ⟨rfl, _⟩ | ⟨b, off, cap, sz, vals, hv, h1, h2, h3, h4, h5, h6⟩
    · simp at hrow
    · have hsz : sz = re.size := by rw [← hlen]; exact (h4 row (List.mem_of_getElem? hrow)).symm
      refine .inl ⟨.pointer (some ⟨b, (off + n.toNat * sz) + 0, none⟩), ?_, .d (.dref row 0 b (off + n.toNat * sz) (fun j => vals n.toNat j) (hok b h1) (fun j c e => h5 _ _ _ _ hrow e) (fun j c e => (h6 _ _ _ _ hrow e).weaken hok))⟩
      simp only [execOp, ho, hv, hi.int_inv]
      refine wrapv ?_
      rw [snd_idx hL hr hs hre h0 (by omega), Addr.add_mk, hsz]
      rfl
  | idxA ho hr hs hre hx hown hsz hix h0 hlt =>
    rename_i T e x ix r re k n st g i m c
    have hi := h.ev ix
    rw [hix] at hi
    have hxr := h.ev x
    rw [hx] at hxr
    rcases h.als_at hxr hown with ⟨_, _, h3, _⟩ | ⟨b, cap, cur, h1, hv, h3, h4, h5, h6, h7⟩
    · omega
    · obtain ⟨cur', g1, g2, _⟩ := h.site_at hown h1 (h.cells_sz hown h1 h3 h6)
      refine .inl ⟨.pointer (some ⟨b, (i + n.toNat) * c.sz + 0, none⟩), ?_, .ptr (by simp [envOf, hown]) fun _ l hl => ?_⟩
      · simp only [execOp, ho, hv, hi.int_inv]
        refine wrapv ?_
        rw [snd_idx hL hr hs hre h0 hlt, Addr.add_mk, hsz, Nat.add_mul]
        rfl
      · simp [envOf, hown] at hl
        subst hl
        exact ⟨b, h1, rfl, by simp only at h7 ⊢; omega, g2⟩
  | ldp ho hr hx hown hrow hp =>
    rename_i T x r st g i j c row
    have hxr := h.ev x
    rw [hx] at hxr
    obtain ⟨b, hb, hv, hi, hj⟩ := h.ptr_at hxr hown
    obtain ⟨cur, hh, hsz, hle, hrows, hcell⟩ := h.site_at hown hb (by omega)
    obtain ⟨v, e1, e2⟩ := rep_part (E := envOf C γ s w) (P := P) (hL T r hr) (b := b) (off := i * c.sz) (fun i' => cur.getD (i * c.sz + i') undef) (fun i' c' e => by
      obtain ⟨u, e1, _, _⟩ := hcell i i' row c' hrow e
      show w.cell? _ = _
      rw [cell_of_cells hh, e1]; simp [e1]) (fun i' c' e => by
      obtain ⟨u, e1, _, e2⟩ := hcell i i' row c' hrow e
      have : cur.getD (i * c.sz + i') undef = u := by simp [e1]
      rw [this]
      exact e2.rep envOf_okfok) hp
    refine .inl ⟨v, ?_, e2⟩
    simp only [execOp, ho, hv]
    refine wrapv ?_
    simp only [Instr.loadAt, Instr.sureAddr, Sem.run_bind, Sem.run_pure, Result.andThen_ok]
    exact e1
  | slc ho hr hs hre hx hix h0 hle hlen =>
    rename_i T e x lo r re rows k n
    have hi := h.ev lo
    rw [hix] at hi
    have hxr := h.ev x
    rw [hx] at hxr
    cases hxr with | d hd =>
    obtain ⟨u1, u2, u3⟩ := run_sizes (P := P) (w := w) hL hr hs hre
    have run : ∀ (ad : Option Addr) (len cap : Nat), a.eval x = .slice ad len cap → n ≤ len → (execOp a.eval o).run P w = .ok (.value (sliced ad n.toNat len cap re.size)) w := by
      intro ad len cap hv hn
      simp only [execOp, ho, hv, hi.int_inv, Option.map_some, Option.map_none]
      refine wrapv ?_
      rw [run_sliceAt_slice w T _ _ _ _ u1, run_slice_l w T ad len cap u1 k n h0 hn, u3]
      rfl
    rcases sl_inv (E := envOf C γ s w) hd with ⟨rfl, ad, cap, hv⟩ | ⟨b, off, cap, sz, vals, hv, h1, h2, h3, h4, h5, h6⟩
    · have hn0 : n = 0 := by simp at hle; omega
      subst hn0
      refine .inl ⟨_, run ad 0 cap hv (by omega), ?_⟩
      simp only [sliced, Int.toNat_zero, Nat.sub_zero, List.drop_nil]
      exact .d (.sl0 _ _)
    · refine .inl ⟨_, run _ _ cap hv hle, .d ?_⟩
      have hlt : n.toNat ≤ rows.length := by omega
      unfold sliced
      by_cases hnil : rows.drop n.toNat = []
      · have : rows.length - n.toNat = 0 := by have := congrArg List.length hnil; simpa using this
        rw [hnil, this]
        exact .sl0 _ _
      · have hlt' : n.toNat < rows.length := by
          rcases Nat.lt_or_ge n.toNat rows.length with h' | h'
          · exact h'
          · exact absurd (List.drop_eq_nil_of_le h') hnil
        rw [if_neg (by omega)]
        have hsz : sz = re.size := by
          have h' := hlen rows[n.toNat] (by simp)
          rw [← h']; exact (h4 _ (by simp)).symm
        simp only [Option.map_some, Addr.add_mk]
        rw [← hsz]
        have := DRep.sl (w := w) (ok := (envOf C γ s w).ok) (rows.drop n.toNat) b (off + n.toNat * sz) (cap - n.toNat) sz (fun i j => vals (n.toNat + i) j) h1 h2 (by simp; omega) (fun row hr => h4 row (List.mem_of_mem_drop hr))
          (fun i j row c e1 e2 => by
            rw [List.getElem?_drop] at e1
            have := h5 _ _ _ _ e1 e2
            rwa [show off + (n.toNat + i) * sz + j = off + n.toNat * sz + i * sz + j by rw [Nat.add_mul]; omega] at this)
          (fun i j row c e1 e2 => by
            rw [List.getElem?_drop] at e1
            exact h6 _ _ _ _ e1 e2)
        rwa [List.length_drop] at this
  | slh ho hr hs hre hx hix h0 hle hlen =>
    rename_i T e x hi' r re rows k n
    have hi := h.ev hi'
    rw [hix] at hi
    have hxr := h.ev x
    rw [hx] at hxr
    cases hxr with | d hd =>
    obtain ⟨u1, u2, u3⟩ := run_sizes (P := P) (w := w) hL hr hs hre
    have run : ∀ (ad : Option Addr) (len cap : Nat), a.eval x = .slice ad len cap → n ≤ cap → (execOp a.eval o).run P w = .ok (.value (sliced ad 0 n.toNat cap re.size)) w := by
      intro ad len cap hv hn
      simp only [execOp, ho, hv, hi.int_inv, Option.map_some, Option.map_none]
      refine wrapv ?_
      rw [run_sliceAt_slice w T _ _ _ _ u1, run_slice_h w T ad len cap u1 k n h0 hn, u3]
      rfl
    rcases sl_inv (E := envOf C γ s w) hd with ⟨rfl, ad, cap, hv⟩ | ⟨b, off, cap, sz, vals, hv, h1, h2, h3, h4, h5, h6⟩
    · have hn0 : n = 0 := by simp at hle; omega
      subst hn0
      refine .inl ⟨_, run ad 0 cap hv (by omega), ?_⟩
      simp only [sliced, Int.toNat_zero, Nat.sub_zero, List.take_nil]
      exact .d (.sl0 _ _)
    · refine .inl ⟨_, run _ _ cap hv (by omega), .d ?_⟩
      have hlt : n.toNat ≤ rows.length := by omega
      unfold sliced
      have hz : (if cap = 0 then some (⟨b, off, none⟩ : Addr) else (some (⟨b, off, none⟩ : Addr)).map fun x => x.add (0 * re.size)) = some ⟨b, off, none⟩ := by
        split
        · rfl
        · simp [Addr.add]
      rw [hz, Nat.sub_zero, Nat.sub_zero]
      have hlen' : (rows.take n.toNat).length = n.toNat := by simp; omega
      have := DRep.sl (w := w) (ok := (envOf C γ s w).ok) (rows.take n.toNat) b off cap sz vals h1 h2 (by omega) (fun row hr => h4 row (List.mem_of_mem_take hr))
        (fun i j row c e1 e2 => by
          rw [List.getElem?_take] at e1
          split at e1
          · exact h5 _ _ _ _ e1 e2
          · cases e1)
        (fun i j row c e1 e2 => by
          rw [List.getElem?_take] at e1
          split at e1
          · exact h6 _ _ _ _ e1 e2
          · cases e1)
      rwa [hlen'] at this
  | slg fr ho hr hs hre hx hlo hhi hlh hle hlen =>
    rename_i T e x lo hi r re rows l h'
    have hxr := h.ev x
    obtain ⟨u1, u2, u3⟩ := run_sizes (P := P) (w := w) hL hr hs hre
    have run : ∀ (ad : Option Addr) (cap : Nat), a.eval x = .slice ad rows.length cap → h' ≤ cap → (execOp a.eval o).run P w = .ok (.value (sliced ad l h' cap re.size)) w := by
      intro ad cap hv hc
      simp only [execOp, ho, hv]
      refine wrapv ?_
      show (Instr.sliceAt T (.slice ad rows.length cap) (lo.map a.eval) (hi.map a.eval) none).run P w = _
      rw [run_sliceAt_slice w T _ _ _ _ u1, run_slice_any u1 (bnd_run h hlo) (bnd_run h hhi) hlh hc, u3]
      rfl
    cases fr with
    | false =>
      rw [hx] at hxr
      cases hxr with | d hd =>
      obtain ⟨ad, cap, e1, e2, e3⟩ := drep_slice (E := envOf C γ s w) hd hlen hlh hle
      exact .inl ⟨_, run ad cap e1 e2, .d e3⟩
    | true =>
      rw [hx] at hxr
      cases hxr with
      | d hd => cases hd
      | fsl hd =>
      obtain ⟨ad, cap, e1, e2, e3⟩ := drep_slice (E := envOf C γ s w) hd hlen hlh hle
      exact .inl ⟨_, run ad cap e1 e2, .fsl e3⟩
  | slA ho hr hs hre hx hown hsz hlo hhi hlt hle =>
    rename_i T e x lo hi r re st g i m l h' c
    have hxr := h.ev x
    rw [hx] at hxr
    obtain ⟨u1, u2, u3⟩ := run_sizes (P := P) (w := w) hL hr hs hre
    rcases h.als_at hxr hown with ⟨_, _, h3, _⟩ | ⟨b, cap, cur, h1, hv, h3, h4, h5, h6, h7⟩
    · omega
    · refine .inl ⟨sliced (some ⟨b, i * c.sz, none⟩) l h' cap re.size, ?_, .als (by simp [envOf, hown]) fun _ q hq => ?_⟩
      · simp only [execOp, ho, hv]
        refine wrapv ?_
        show (Instr.sliceAt T (.slice (some ⟨b, i * c.sz, none⟩) m cap) (lo.map a.eval) (hi.map a.eval) none).run P w = _
        rw [run_sliceAt_slice w T _ _ _ _ u1, run_slice_any u1 (bnd_run h hlo) (bnd_run h hhi) (by omega) (by omega), u3]
        rfl
      · simp [envOf, hown] at hq
        subst hq
        refine .inr ⟨b, cap - l, cur, h1, ?_, h3, by omega, by omega, ?_, ?_⟩
        · rw [sliced, if_neg (by omega), ← hsz]
          simp only [Option.map_some, Addr.add_mk]
          rw [Nat.add_mul]
        · rw [h6, show i + l + (cap - l) = i + cap by omega]
        · simp only at h7 ⊢; omega
  | slE ho hr hs hre hx hown hlo hhi hle =>
    rename_i T e x lo hi r re st g i m l c
    have hxr := h.ev x
    rw [hx] at hxr
    obtain ⟨u1, u2, u3⟩ := run_sizes (P := P) (w := w) hL hr hs hre
    have run : ∀ (ad : Option Addr) (cap : Nat), a.eval x = .slice ad m cap → l ≤ cap → (execOp a.eval o).run P w = .ok (.value (sliced ad l l cap re.size)) w := by
      intro ad cap hv hc
      simp only [execOp, ho, hv]
      refine wrapv ?_
      show (Instr.sliceAt T (.slice ad m cap) (lo.map a.eval) (hi.map a.eval) none).run P w = _
      rw [run_sliceAt_slice w T _ _ _ _ u1, run_slice_any u1 (bnd_run h hlo) (bnd_run h hhi) (Nat.le_refl _) hc, u3]
      rfl
    rcases h.als_at hxr hown with ⟨_, _, rfl, hv⟩ | ⟨b, cap, cur, h1, hv, h3, h4, h5, h6, h7⟩
    · refine .inl ⟨_, run none 0 hv (by omega), .d ?_⟩
      rw [sliced, Nat.sub_self]; exact .sl0 _ _
    · refine .inl ⟨_, run _ cap hv (by omega), .d ?_⟩
      rw [sliced, Nat.sub_self]; exact .sl0 _ _
  | call ho hf hres hc hb hret =>
    rename_i fop args tys f caps pargs Cd b
    have hfv := h.ev fop
    rw [hf] at hfv
    obtain ⟨vs, hv, hl, hd⟩ := hfv.clo_inv
    have hspec := resL_spec (S := Rep (envOf C γ s w)) (R := fun b => DRep w (okArg C γ s w b)) (fun b1 b2 c v => ⟨fun hd => hd.weaken fun k => okArg_and.1, fun hd => hd.weaken fun k => okArg_and.2⟩) (fun c d Cd b v e1 e2 e3 => res_spec hX h 4 c d Cd b v e1 e2 e3) (args.toList.map s.ev ++ caps) pargs Cd b (args.toList.map a.eval ++ vs) hres hc (by simp [hl]) (fun i c v e1 e2 => by
      rw [List.getElem?_append] at e1 e2
      simp only [List.length_map] at e1 e2
      split at e1
      · rename_i hlt
        rw [if_pos hlt] at e2
        rw [List.getElem?_map] at e1 e2
        cases hx : args.toList[i]? with
        | none => rw [hx] at e1; simp at e1
        | some x => rw [hx] at e1 e2; simp at e1 e2; subst e1; subst e2; exact h.ev x
      · rename_i hlt
        rw [if_neg hlt] at e2
        exact hd _ c v e1 e2)
    refine .inr (.inr ⟨f, _, run_call ho hv hret.1, ?_⟩)
    refine (hret.2 w (fun k => k < w.heap.size ∧ ¬ okArg C γ s w b k) _ hglob (fun _ hb => hb.1) hspec.1 (fun i c v e1 e2 => (hspec.2 i c v e1 e2).weaken fun k hk => ⟨hk.1, fun hn => hn.2 hk⟩)).mono ?_
    rintro e w' ⟨v, rfl, hbel, hdr⟩
    exact ⟨v, rfl, hbel, .d (hdr.weaken fun k hk => ctxX (b := b) (m := .shared) hX h hbel k hk hb)⟩
  | callF ho hf hres hc hret =>
    rename_i fop args tys f caps pargs Cd b r
    have hfv := h.ev fop
    rw [hf] at hfv
    obtain ⟨vs, hv, hl, hd⟩ := hfv.clo_inv
    have hspec := resL_spec (S := Rep (envOf C γ s w)) (R := fun b => DRep w (okArg C γ s w b)) (fun b1 b2 c v => ⟨fun hd => hd.weaken fun k => okArg_and.1, fun hd => hd.weaken fun k => okArg_and.2⟩) (fun c d Cd b v e1 e2 e3 => res_spec hX h 4 c d Cd b v e1 e2 e3) (args.toList.map s.ev ++ caps) pargs Cd b (args.toList.map a.eval ++ vs) hres hc (by simp [hl]) (fun i c v e1 e2 => by
      rw [List.getElem?_append] at e1 e2
      simp only [List.length_map] at e1 e2
      split at e1
      · rename_i hlt
        rw [if_pos hlt] at e2
        rw [List.getElem?_map] at e1 e2
        cases hx : args.toList[i]? with
        | none => rw [hx] at e1; simp at e1
        | some x => rw [hx] at e1 e2; simp at e1 e2; subst e1; subst e2; exact h.ev x
      · rename_i hlt
        rw [if_neg hlt] at e2
        exact hd _ c v e1 e2)
    refine .inr (.inr ⟨f, _, run_call ho hv hret.1, ?_⟩)
    refine (hret.2 w (fun k => k < w.heap.size ∧ ¬ okArg C γ s w b k) _ hglob (fun _ hb => hb.1) hspec.1 (fun i c v e1 e2 => (hspec.2 i c v e1 e2).weaken fun k hk => ⟨hk.1, fun hn => hn.2 hk⟩)).mono ?_
    rintro e w' ⟨v, rfl, hbel, hdr⟩
    refine ⟨v, rfl, hbel, Rep.frs envOf_okfok ?_⟩
    exact hdr.weaken fun k hk => ctxX (b := b) (m := .fresh) hX h hbel k hk
end
end Go.Pv


namespace Go.Pv
open Go.RowKit
variable [Globs]
inductive Wants (ops : Array Oper) (s : St) (o : Oper) : Bool → Prop
  | none (h : o.guard = none) : Wants ops s o true
  | yes {j d : Nat} {want : Bool} (h : o.guard = some (j, want)) (hd : (ops[j]?).bind (·.dst) = some d) (hr : s.reg d = .bool want) : Wants ops s o true
  | no {j d : Nat} {want b : Bool} (h : o.guard = some (j, want)) (hd : (ops[j]?).bind (·.dst) = some d) (hr : s.reg d = .bool b) (hne : b ≠ want) : Wants ops s o false
  | junk {j d : Nat} {want : Bool} (h : o.guard = some (j, want)) (hd : (ops[j]?).bind (·.dst) = some d) (hr : s.reg d = .raw undef) : Wants ops s o false
section
variable {P : Program} {L : Lay} {C : Ctx} {s : St} {a : Act} {w w' : World} {ops : Array Oper}
theorem Wants.spec (h : SimE C s a w) {o : Oper} {b : Bool} (hw : Wants ops s o b) : Region.wanted o (yielded ops a.tmps) = b := by
  obtain ⟨γ, h⟩ := h
  have key : ∀ {d : Nat} {t : Bool}, s.reg d = .bool t → a.tmps[d]? = some (.bool t) := by
    intro d t hr
    have h1 := h.regs d
    rw [hr] at h1
    have h2 := h1.bool_inv
    rcases Nat.lt_or_ge d a.tmps.size with hlt | hge
    · rw [Array.getElem?_eq_getElem hlt]
      simpa [hlt] using h2
    · rw [show a.tmps.getD d undef = undef by simp [Array.getElem?_eq_none hge]] at h2
      cases h2
  cases hw with
  | none h => simp [Region.wanted, h]
  | yes h hd hr => simp [Region.wanted, h, yielded, hd, key hr]
  | no h hd hr hne =>
    rename_i j d want b
    simp only [Region.wanted, h, yielded, hd, Option.bind_some, key hr]
    cases b <;> cases want <;> simp_all
  | junk h hd hr =>
    rename_i j d want
    have h1 := ‹Sim C γ s a w›.regs d
    rw [hr] at h1
    have h2 := h1.raw_inv
    simp only [Region.wanted, h, yielded, hd, Option.bind_some]
    rcases Nat.lt_or_ge d a.tmps.size with hlt | hge
    · have h3 : a.tmps[d]? = some undef := by rw [Array.getElem?_eq_getElem hlt]; simpa [hlt] using h2
      rw [h3]; rfl
    · rw [Array.getElem?_eq_none hge]; rfl
def POp (P : Program) (L : Lay) (s : St) (o : Oper) (K : St → Prop) : Prop := (∃ pv, QOp P L s o pv ∧ K (s.put o.dst pv)) ∨ (∃ s', Eff P L s o s' ∧ K s') ∨ Dem P L s o K
def POps (P : Program) (L : Lay) (ops : Array Oper) (K : St → Prop) : List Oper → St → Prop
  | [], s => K s
  | o :: rest, s => (Wants ops s o true ∧ POp P L s o (POps P L ops K rest)) ∨ (Wants ops s o false ∧ POps P L ops K rest (s.put o.dst (.raw undef)))
structure Good (P : Program) (L : Lay) (C : Ctx) : Prop where
  lay : LOk P L
  x : ∀ b, C.X b → b < C.B
  mixed : P.follows .mixedOrders = true
  glob : ∀ w, Below C.B C.w0 w → Globs.glob w
theorem QOp.wp (hG : Good P L C) (h : SimE C s a w) {o : Oper} (hN : dstLt C.N o.dst = true) {pv : PV} (hq : QOp P L s o pv) {K : Act → World → Prop} {Q : Exit → Act → World → Prop} (hK : ∀ a' w', SimE C (s.put o.dst pv) a' w' → K a' w') : o.wp P a w K Q := by
  obtain ⟨γ, h⟩ := h
  unfold Oper.wp
  rcases hq.sound hG.lay hG.x (hG.glob _ h.below) h with ⟨v, h1, h2⟩ | ⟨v, w', h1, hb, h2⟩ | ⟨f, args, h1, h2⟩
  · rw [h1, Oper.upon_value]
    exact hK _ _ ⟨γ, h.put hN h2⟩
  · rw [h1, Oper.upon_value]
    exact hK _ _ ⟨γ, (h.ext hb).put hN h2⟩
  · rw [h1, Oper.upon_enter]
    refine h2.mono ?_
    rintro e w' ⟨v, rfl, hb, hr⟩
    exact hK _ _ ⟨γ, (h.ext hb).put hN hr⟩
theorem POp.wp (hG : Good P L C) (h : SimE C s a w) {o : Oper} (hN : dstLt C.N o.dst = true) {K' : St → Prop} (hq : POp P L s o K') {K : Act → World → Prop} {Q : Exit → Act → World → Prop} (hK : ∀ s' a' w', SimE C s' a' w' → K' s' → K a' w') : o.wp P a w K Q := by
  rcases hq with ⟨pv, h1, h2⟩ | ⟨s', h1, h2⟩ | h1
  · exact h1.wp hG h hN fun a' w' h' => hK _ a' w' h' h2
  · exact h1.sound hG.lay h hN fun a' w' h' => hK _ a' w' h' h2
  · exact h1.sound h hN hK
theorem SimE.put (h : SimE C s a w) {d : Option Nat} (hd : dstLt C.N d = true) (v : Value) : SimE C (s.put d (.raw v)) (a.put d v) w :=
  let ⟨γ, h⟩ := h
  ⟨γ, h.put hd (.d (.raw v))⟩
theorem POps.sound (hG : Good P L C) {K' : St → Prop} {Q : Exit → Act → World → Prop} (hK : ∀ s' a' w', SimE C s' a' w' → K' s' → Q .normal a' w') :
    ∀ (l : List Oper) (s : St) (a : Act) (w : World), (∀ o ∈ l, dstLt C.N o.dst = true) → SimE C s a w → POps P L ops K' l s → wpList P ops Q l a w
  | [], s, a, w, _, h, hp => hK s a w h hp
  | o :: l, s, a, w, hN, h, hp => by
    unfold wpList
    rcases hp with ⟨hw, hp⟩ | ⟨hw, hp⟩
    · rw [if_pos (hw.spec h)]
      exact .inl (hp.wp hG h (hN o (by simp)) fun s' a' w' h' hp' => POps.sound hG hK l s' a' w' (fun o' ho' => hN o' (by simp [ho'])) h' hp')
    · rw [if_neg (by rw [hw.spec h]; simp)]
      exact POps.sound hG hK l _ _ w (fun o' ho' => hN o' (by simp [ho'])) (h.put (hN o (by simp)) undef) hp
def Sm (P : Program) (L : Lay) (s : St) (o : Oper) (K : St → Prop) : Prop := ∀ (C : Ctx) (a : Act) (w : World) (Q : Exit → Act → World → Prop), Good P L C → SimE C s a w → dstLt C.N o.dst = true → o.wp P a w (fun a' w' => ∃ s', SimE C s' a' w' ∧ K s') Q
def PSem (P : Program) (L : Lay) (ops : Array Oper) (K : St → Prop) : List Oper → St → Prop
  | [], s => K s
  | o :: rest, s => (Wants ops s o true ∧ (POp P L s o (PSem P L ops K rest) ∨ Sm P L s o (PSem P L ops K rest))) ∨ (Wants ops s o false ∧ PSem P L ops K rest (s.put o.dst (.raw undef)))
theorem PSem.sound (hG : Good P L C) {K' : St → Prop} {Q : Exit → Act → World → Prop} (hK : ∀ s' a' w', SimE C s' a' w' → K' s' → Q .normal a' w') :
    ∀ (l : List Oper) (s : St) (a : Act) (w : World), (∀ o ∈ l, dstLt C.N o.dst = true) → SimE C s a w → PSem P L ops K' l s → wpList P ops Q l a w
  | [], s, a, w, _, h, hp => hK s a w h hp
  | o :: l, s, a, w, hN, h, hp => by
    unfold wpList
    rcases hp with ⟨hw, hp⟩ | ⟨hw, hp⟩
    · rw [if_pos (hw.spec h)]
      rcases hp with hp | hp
      · exact .inl (hp.wp hG h (hN o (by simp)) fun s' a' w' h' hp' => PSem.sound hG hK l s' a' w' (fun o' ho' => hN o' (by simp [ho'])) h' hp')
      · exact .inl (Oper.wp_mono (fun a' w' ⟨s', h', hp'⟩ => PSem.sound hG hK l s' a' w' (fun o' ho' => hN o' (by simp [ho'])) h' hp') (hp C a w _ hG h (hN o (by simp))))
    · rw [if_neg (by rw [hw.spec h]; simp)]
      exact PSem.sound hG hK l _ _ w (fun o' ho' => hN o' (by simp [ho'])) (h.put (hN o (by simp)) undef) hp
def PQuiet (P : Program) (L : Lay) (ops : Array Oper) (K : St → Prop) : List Oper → St → Prop
  | [], s => K s
  | o :: rest, s => (Wants ops s o true ∧ ∃ pv, QOp P L s o pv ∧ PQuiet P L ops K rest (s.put o.dst pv)) ∨ (Wants ops s o false ∧ PQuiet P L ops K rest (s.put o.dst (.raw undef)))
def Yld (P : Program) (L : Lay) (ops : Array Oper) (s : St) (o : Oper) (v : PV) : Prop := (Wants ops s o true ∧ QOp P L s o v) ∨ (Wants ops s o false ∧ v = .raw undef)
theorem res_own {s s' : St} (ho : s.own = s'.own) : ∀ (n : Nat) (c : PV), res s n c = res s' n c
  | 0, _ => rfl
  | n + 1, c => by
    have hf : res s n = res s' n := funext (res_own ho n)
    cases c <;> simp only [res, ho, hf]
theorem qv_congr {s s' : St} (ho : s.own = s'.own) {op : Op} (he : ∀ x ∈ op.operands, s.ev x = s'.ev x) : qv L s op = qv L s' op := by
  have hplen : plen s = plen s' := by funext v; cases v <;> simp only [plen, ho]
  have hone : oneC s = oneC s' := by funext v; cases v <;> simp only [oneC, ho]
  have hpn : pnil s = pnil s' := by funext r op v; cases v <;> simp only [pnil, ho]
  have hfill : ∀ fs l cs C, fillP L s fs l cs C = fillP L s' fs l cs C := by
    intro fs l
    induction l with
    | nil => intro cs C; rfl
    | cons p l ih =>
      intro cs C
      obtain ⟨i, x⟩ := p
      simp only [fillP, hone, ih]
  cases op <;> simp only [Op.operands] at he
  case move x => simp only [qv, he x (by simp)]
  case assign x => simp only [qv, he x (by simp)]
  case pick c x y => simp only [qv, he c (by simp), he x (by simp), he y (by simp)]
  case nilCheck x => simp only [qv, he x (by simp), ho]
  case binOp op T x y T' => simp only [qv, he x (by simp), he y (by simp), hpn]
  case unOp op T x => simp only [qv, he x (by simp)]
  case convert src dst x => simp only [qv, he x (by simp)]
  case makeFunc fn first caps =>
    obtain ⟨caps⟩ := caps
    obtain ⟨first⟩ := first
    cases fn <;> cases first <;> simp only [qv]
    rw [List.map_congr_left (fun x hx => he x (by simp [hx]))]
  case fieldAddr T x f => simp only [qv, he x (by simp), ho]
  case field T x f => simp only [qv, he x (by simp)]
  case load T x => simp only [qv, he x (by simp), ho]
  case extract x i => simp only [qv, he x (by simp)]
  case index T x ix => simp only [qv, he x (by simp), he ix (by simp)]
  case build T parts =>
    have : (parts.toList.map fun p => (p.1, s.ev p.2)) = parts.toList.map fun p => (p.1, s'.ev p.2) := by
      apply List.map_congr_left
      intro p hp
      rw [he p.2 (by simp; exact ⟨p.1, by simpa using hp⟩)]
    simp only [qv, this, hfill]
  case call c =>
    unfold qv
    split
    any_goals (rename_i heq; cases heq; done)
    · rename_i x T heq
      cases heq
      have h1 := he x (by simp [Call.operands])
      simp only [h1, hplen]
    · rename_i x y tys heq
      cases heq
      simp only [he x (by simp [Call.operands]), he y (by simp [Call.operands])]
    · rename_i x y tys heq
      cases heq
      simp only [he x (by simp [Call.operands]), he y (by simp [Call.operands])]
    · rfl
  all_goals rfl
theorem oneL_own {s s' : St} (ho : s.own = s'.own) : ∀ l, oneL s l = oneL s' l
  | [] => rfl
  | c :: l => by
    have h1 : oneC s c = oneC s' c := by cases c <;> simp only [oneC, ho]
    simp only [oneL, h1, oneL_own ho l]
theorem QOp.congr {s s' : St} (ho : s.own = s'.own) {o : Oper} (he : ∀ x ∈ o.op.operands, s.ev x = s'.ev x) {v : PV} (h : QOp P L s o v) : QOp P L s' o v := by
  have hres : res s 4 = res s' 4 := funext (res_own ho 4)
  cases h with
  | v hq hc => exact .v (by rw [← qv_congr ho he]; exact hq) hc
  | seq h1 hT hx hy hl =>
    rw [h1] at he
    simp only [Op.operands] at he
    rename_i T x y T' ks us vs r neg
    exact .seq h1 hT (by rw [← he x (by simp)]; exact hx) (by rw [← he y (by simp)]; exact hy) hl
  | idx h1 hr hs hre hx hix h0 hrow hlen =>
    rw [h1] at he
    simp only [Op.operands] at he
    rename_i T e x ix r re rows row k n
    exact .idx h1 hr hs hre (by rw [← he x (by simp)]; exact hx) (by rw [← he ix (by simp)]; exact hix) h0 hrow hlen
  | idxA h1 hr hs hre hx hown hsz hix h0 hlt =>
    rw [h1] at he
    simp only [Op.operands] at he
    rename_i T e x ix r re k n st g i m c
    exact .idxA h1 hr hs hre (by rw [← he x (by simp)]; exact hx) (by rw [← ho]; exact hown) hsz (by rw [← he ix (by simp)]; exact hix) h0 hlt
  | ldp h1 hr hx hown hrow hp =>
    rw [h1] at he
    simp only [Op.operands] at he
    rename_i T x r st g i j c row
    exact .ldp h1 hr (by rw [← he x (by simp)]; exact hx) (by rw [← ho]; exact hown) hrow hp
  | slc h1 hr hs hre hx hix h0 hle hlen =>
    rw [h1] at he
    simp only [Op.operands] at he
    rename_i T e x lo r re rows k n
    exact .slc h1 hr hs hre (by rw [← he x (by simp)]; exact hx) (by rw [← he lo (by simp)]; exact hix) h0 hle hlen
  | slh h1 hr hs hre hx hix h0 hle hlen =>
    rw [h1] at he
    simp only [Op.operands] at he
    rename_i T e x hi r re rows k n
    exact .slh h1 hr hs hre (by rw [← he x (by simp)]; exact hx) (by rw [← he hi (by simp)]; exact hix) h0 hle hlen
  | slg fr h1 hr hs hre hx hlo hhi hlh hle hlen =>
    rw [h1] at he
    simp only [Op.operands] at he
    rename_i T e x lo hi r re rows l h'
    exact .slg fr h1 hr hs hre (by rw [← he x (by simp)]; exact hx) (hlo.imp id fun ⟨y, k, e1, e2⟩ => ⟨y, k, e1, by rw [← he y (by simp [e1])]; exact e2⟩) (hhi.imp id fun ⟨y, k, e1, e2⟩ => ⟨y, k, e1, by rw [← he y (by simp [e1])]; exact e2⟩) hlh hle hlen
  | slA h1 hr hs hre hx hown hsz hlo hhi hlt hle =>
    rw [h1] at he
    simp only [Op.operands] at he
    rename_i T e x lo hi r re st g i m l h' c
    exact .slA h1 hr hs hre (by rw [← he x (by simp)]; exact hx) (by rw [← ho]; exact hown) hsz (hlo.imp id fun ⟨y, k, e1, e2⟩ => ⟨y, k, e1, by rw [← he y (by simp [e1])]; exact e2⟩) (hhi.imp id fun ⟨y, k, e1, e2⟩ => ⟨y, k, e1, by rw [← he y (by simp [e1])]; exact e2⟩) hlt hle
  | slE h1 hr hs hre hx hown hlo hhi hle =>
    rw [h1] at he
    simp only [Op.operands] at he
    rename_i T e x lo hi r re st g i m l c
    exact .slE h1 hr hs hre (by rw [← he x (by simp)]; exact hx) (by rw [← ho]; exact hown) (hlo.imp id fun ⟨y, k, e1, e2⟩ => ⟨y, k, e1, by rw [← he y (by simp [e1])]; exact e2⟩) (hhi.imp id fun ⟨y, k, e1, e2⟩ => ⟨y, k, e1, by rw [← he y (by simp [e1])]; exact e2⟩) hle
  | call h1 hf hr hc hb hret =>
    rw [h1] at he
    simp only [Op.operands, Call.operands] at he
    rename_i fop args tys f caps pargs Cd b
    have hm : args.toList.map s.ev = args.toList.map s'.ev := List.map_congr_left fun x hx => he x (by simp; exact .inr (by simpa using hx))
    exact .call h1 (by rw [← he fop (by simp)]; exact hf) (by rw [← hm, ← hres]; exact hr) hc hb hret
  | callF h1 hf hr hc hret =>
    rw [h1] at he
    simp only [Op.operands, Call.operands] at he
    rename_i fop args tys f caps pargs Cd b r
    have hm : args.toList.map s.ev = args.toList.map s'.ev := List.map_congr_left fun x hx => he x (by simp; exact .inr (by simpa using hx))
    exact .callF h1 (by rw [← he fop (by simp)]; exact hf) (by rw [← hm, ← hres]; exact hr) hc hret
  | look h1 hr hs hrk hrv hz hz1 hx hown hk3 hky hkeys =>
    rename_i T K V r rk rv x y k g c z ok
    rw [h1] at he
    simp only [Op.operands] at he
    have hy := he y (by simp)
    rw [hy]
    exact .look h1 hr hs hrk hrv hz hz1 (by rw [← he x (by simp)]; exact hx) (by rw [← ho]; exact hown) hk3 (by rw [← hy]; exact hky) hkeys
  | sem hx h1 hrun hpv => exact .sem (by rw [← he _ (by rw [h1]; simp)]; exact hx) h1 hrun hpv
  | semF hne hall hrun hpv => exact .semF hne (fun x hx => by rw [← he x hx]; exact hall x hx) (fun ev w hw h => hrun ev w hw fun x hx => by rw [he x hx]; exact h x hx) hpv
  | lookG h1 hr hs hrk hz hx hg hky hkeys =>
    rename_i T K V r rk kk x y rows z ok
    rw [h1] at he
    simp only [Op.operands] at he
    have hy := he y (by simp)
    rw [hy]
    exact .lookG h1 hr hs hrk hz (by rw [← he x (by simp), ← ho]; exact hx) hg (by rw [← hy]; exact hky) hkeys
  | s2b h1 hrs hr hs hre hsh hx =>
    rw [h1] at he
    simp only [Op.operands] at he
    exact .s2b h1 hrs hr hs hre hsh (by rw [← he _ (by simp)]; exact hx)
  | b2s h1 hrs hr hs hre hsh hrd hl hx =>
    rw [h1] at he
    simp only [Op.operands] at he
    exact .b2s h1 hrs hr hs hre hsh hrd hl (by rw [← he _ (by simp)]; exact hx)
  | entry h1 hx hown hk3 hrows =>
    rename_i x k g c ck cv rem
    rw [h1] at he
    simp only [Op.operands] at he
    exact .entry h1 (by rw [← he x (by simp)]; exact hx) (by rw [← ho]; exact hown) hk3 hrows
  | mks h1 hr hs hre hz hsz hl hc h0 hb h63 =>
    rw [h1] at he
    simp only [Op.operands] at he
    exact .mks h1 hr hs hre hz hsz (by rw [← he _ (by simp)]; exact hl) (by rw [← he _ (by simp)]; exact hc) h0 hb h63
  | slit h1 hr hs hre hz hsz hn hN hcells hp1 hp2 hkd =>
    rw [h1] at he
    simp only [Op.operands] at he
    rename_i T e r re n parts Pr
    have hp : ∀ p ∈ parts.toList, s.ev p.2 = s'.ev p.2 := fun p hp => he p.2 (by simp; exact ⟨p.1, by simpa using hp⟩)
    have hm : (parts.toList.map fun p => (s.ev p.2).cells.map (nrm 0)) = parts.toList.map fun p => (s'.ev p.2).cells.map (nrm 0) := List.map_congr_left fun p h => by rw [hp p h]
    have hf : (parts.toList.flatMap fun p => (s.ev p.2).cells) = parts.toList.flatMap fun p => (s'.ev p.2).cells := by
      rw [List.flatMap_def, List.flatMap_def]
      congr 1
      exact List.map_congr_left fun p h => by rw [hp p h]
    rw [hm]
    exact .slit h1 hr hs hre hz hsz hn hN (fun p h => by rw [← hp p h]; exact hcells p h) (by rw [← hf, ← oneL_own ho]; exact hp1) hp2 (by rw [← hf]; exact hkd)
theorem Wants.congr {s s' : St} {o : Oper} (he : ∀ t ∈ o.looksAt ops, s.reg t = s'.reg t) {b : Bool} (h : Wants ops s o b) : Wants ops s' o b := by
  have key : ∀ {j d : Nat} {want : Bool}, o.guard = some (j, want) → (ops[j]?).bind (·.dst) = some d → s.reg d = s'.reg d := by
    intro j d want hg hd
    exact he d (by simp [Oper.looksAt, hg, hd])
  cases h with
  | none h => exact .none h
  | yes h hd hr => exact .yes h hd (by rw [← key h hd]; exact hr)
  | no h hd hr hne => exact .no h hd (by rw [← key h hd]; exact hr) hne
  | junk h hd hr => exact .junk h hd (by rw [← key h hd]; exact hr)
theorem Yld.congr {s s' : St} (ho : s.own = s'.own) {o : Oper} (he : ∀ t ∈ o.looksAt ops, s.reg t = s'.reg t) {v : PV} (h : Yld P L ops s o v) : Yld P L ops s' o v := by
  have hev : ∀ x ∈ o.op.operands, s.ev x = s'.ev x := by
    intro x hx
    cases x with
    | tmp t => exact he t (List.mem_append_left _ (List.mem_filterMap.2 ⟨.tmp t, by simpa using hx, rfl⟩))
    | _ => rfl
  rcases h with ⟨h1, h2⟩ | ⟨h1, h2⟩
  · exact .inl ⟨h1.congr he, h2.congr ho hev⟩
  · exact .inr ⟨h1.congr he, h2⟩
def puts : List (Nat × PV) → St → St
  | [], s => s
  | (d, v) :: l, s => puts l (s.putR d v)
theorem puts_own : ∀ (l : List (Nat × PV)) (s : St), (puts l s).own = s.own
  | [], _ => rfl
  | (d, v) :: l, s => by rw [puts, puts_own l]; rfl
theorem puts_miss : ∀ (l : List (Nat × PV)) (s : St) (t : Nat), (∀ p ∈ l, p.1 ≠ t) → (puts l s).reg t = s.reg t
  | [], _, _, _ => rfl
  | (d, v) :: l, s, t, h => by
    rw [puts, puts_miss l _ t (fun p hp => h p (by simp [hp]))]
    show (bif Nat.beq t d then v else s.reg t) = _
    have : t ≠ d := fun e => h (d, v) (by simp) e.symm
    rw [nbeq_ne this]; rfl
theorem puts_hit : ∀ (l : List (Nat × PV)) (s : St) (j t : Nat) (v : PV), l[j]? = some (t, v) → (l.map (·.1)).Nodup → (puts l s).reg t = v
  | [], _, _, _, _, h, _ => by simp at h
  | (d, u) :: l, s, j, t, v, h, hn => by
    rw [puts]
    simp only [List.map_cons, List.nodup_cons] at hn
    cases j with
    | zero =>
      simp at h
      obtain ⟨rfl, rfl⟩ := h
      rw [puts_miss l _ d (fun p hp e => hn.1 (List.mem_map.2 ⟨p, hp, e⟩))]
      simp [St.putR]
    | succ j => exact puts_hit l _ j t v (by simpa using h) hn.2
theorem PQuiet.ylds {K : St → Prop} : ∀ (l : List Oper) (ds : List Nat) (s : St), l.map (·.dst) = ds.map some → PQuiet P L ops K l s →
    ∃ vs : List PV, vs.length = ds.length ∧ (∀ (k : Nat) (o : Oper) (v : PV), l[k]? = some o → vs[k]? = some v → Yld P L ops (puts ((ds.zip vs).take k) s) o v) ∧ K (puts (ds.zip vs) s)
  | [], ds, s, hd, h => by
    have : ds = [] := by simpa using hd.symm
    subst this
    exact ⟨[], rfl, fun k o v h => by simp at h, h⟩
  | o :: l, ds, s, hd, h => by
    cases ds with
    | nil => simp at hd
    | cons d ds =>
      simp only [List.map_cons, List.cons.injEq] at hd
      have main : ∀ v, Yld P L ops s o v → PQuiet P L ops K l (s.put o.dst v) → ∃ vs : List PV, vs.length = (d :: ds).length ∧ (∀ (k : Nat) (o' : Oper) (v : PV), (o :: l)[k]? = some o' → vs[k]? = some v → Yld P L ops (puts (((d :: ds).zip vs).take k) s) o' v) ∧ K (puts ((d :: ds).zip vs) s) := by
        intro v hy hq
        rw [hd.1] at hq
        obtain ⟨vs, h1, h2, h3⟩ := PQuiet.ylds l ds _ hd.2 hq
        refine ⟨v :: vs, by simp [h1], fun k o' v' e1 e2 => ?_, h3⟩
        cases k with
        | zero => simp at e1 e2; subst e1; subst e2; exact hy
        | succ k => exact h2 k o' v' (by simpa using e1) (by simpa using e2)
      rcases h with ⟨hw, pv, hq, hr⟩ | ⟨hw, hr⟩
      · exact main pv (.inl ⟨hw, hq⟩) hr
      · exact main (.raw undef) (.inr ⟨hw, rfl⟩) hr
def drawOk (ops : Array Oper) (n : Nat) (ds : List Nat) : Bool :=
  decide (n ≤ ops.size) && ((ops.toList.take n).map (·.dst) == ds.map some) && decide ds.Nodup &&
  ((List.range n).all fun i => match ops[i]? with
    | some o => (o.looksAt ops).all fun t => (List.range n).all fun j => !(ds[j]? == some t) || (decide (j < i) && o.after.any fun e => Region.binds .any e && e.on == j)
    | none => false) &&
  ((List.range ops.size).all fun i => match ops[i]? with
    | some o => o.after.all fun e => !Region.binds .any e || decide (e.on < i)
    | none => false) &&
  (decide (n = ops.size) || (Region.sinkB .any ops n && Region.chainB .any ops n)) &&
  Region.seqB .any ops (ops.size - n) n ((List.replicate n true ++ List.replicate (ops.size - n) false).toArray)
end
end Go.Pv


namespace Go.Pv
open Go.RowKit
variable [Globs]
section
variable {P : Program} {L : Lay} {C : Ctx} {s : St} {a : Act} {w w' : World} {ops : Array Oper}
structure DrawOk (ops : Array Oper) (n : Nat) (ds : List Nat) : Prop where
  le : n ≤ ops.size
  dst : (ops.toList.take n).map (·.dst) = ds.map some
  nodup : ds.Nodup
  looks : ∀ i o, i < n → ops[i]? = some o → ∀ t ∈ o.looksAt ops, ∀ j, j < n → ds[j]? = some t → j < i ∧ ∃ e ∈ o.after, Region.binds .any e = true ∧ e.on = j
  lex : ∀ i o, ops[i]? = some o → ∀ e ∈ o.after, Region.binds .any e = true → e.on < i
  tail : n = ops.size ∨ (Region.sinkB .any ops n = true ∧ Region.chainB .any ops n = true)
  seq : Region.seqB .any ops (ops.size - n) n ((List.replicate n true ++ List.replicate (ops.size - n) false).toArray) = true
theorem drawOk_spec {n : Nat} {ds : List Nat} (h : drawOk ops n ds = true) : DrawOk ops n ds := by
  simp only [drawOk, Bool.and_eq_true, decide_eq_true_eq, beq_iff_eq, Bool.or_eq_true] at h
  obtain ⟨⟨⟨⟨⟨⟨h1, h2⟩, h3⟩, h4⟩, h5⟩, h6⟩, h7⟩ := h
  refine ⟨h1, h2, h3, fun i o hi ho t ht j hj hd => ?_, fun i o ho e he hb => ?_, h6, h7⟩
  · have e1 := List.all_eq_true.1 h4 i (List.mem_range.2 hi)
    rw [ho] at e1
    have e2 := List.all_eq_true.1 e1 t ht
    have e3 := List.all_eq_true.1 e2 j (List.mem_range.2 hj)
    simp only [hd, beq_self_eq_true, Bool.not_true, Bool.false_or, Bool.and_eq_true, decide_eq_true_eq] at e3
    obtain ⟨e, he, hb⟩ := Array.any_eq_true'.1 e3.2
    simp only [Bool.and_eq_true, beq_iff_eq] at hb
    exact ⟨e3.1, e, he, hb.1, hb.2⟩
  · have hi : i < ops.size := (Array.getElem?_eq_some_iff.1 ho).1
    have e1 := List.all_eq_true.1 h5 i (List.mem_range.2 hi)
    rw [ho] at e1
    have e2 := Array.all_eq_true_iff_forall_mem.1 e1 e he
    simpa [hb] using e2
structure Agr (ds : List Nat) (vs : List PV) (n : Nat) (listed : Array Bool) (s0 s : St) : Prop where
  own : s.own = s0.own
  hit : ∀ t j, j < n → listed.getD j false = true → ds[j]? = some t → vs[j]? = some (s.reg t)
  miss : ∀ t, (∀ j, j < n → listed.getD j false = true → ds[j]? ≠ some t) → s.reg t = s0.reg t
theorem St.ext' {s s' : St} (h1 : s.reg = s'.reg) (h2 : s.own = s'.own) : s = s' := by
  cases s; cases s'; simp_all
theorem zip_get {ds : List Nat} {vs : List PV} (_hl : vs.length = ds.length) {j t : Nat} {v : PV} (h1 : ds[j]? = some t) (h2 : vs[j]? = some v) : (ds.zip vs)[j]? = some (t, v) := by
  rw [List.getElem?_zip_eq_some]; exact ⟨h1, h2⟩
theorem draw_any (hG : Good P L C) {n : Nat} {ds : List Nat} (hd : DrawOk ops n ds) {K' : St → Prop} {Q : Exit → Act → World → Prop} (hK : ∀ s' a' w', SimE C s' a' w' → K' s' → Q .normal a' w')
    (hN : ∀ o ∈ ops.toList, dstLt C.N o.dst = true) {s0 : St} {vs : List PV} (hvl : vs.length = ds.length)
    (hy : ∀ (k : Nat) (o : Oper) (v : PV), (ops.toList.take n)[k]? = some o → vs[k]? = some v → Yld P L ops (puts ((ds.zip vs).take k) s0) o v)
    (hend : PSem P L ops K' (ops.toList.drop n) (puts (ds.zip vs) s0)) :
    ∀ (m : Nat) (U : List Nat) (listed : Array Bool) (s : St) (a : Act) (w : World), U.length = m → U.Nodup → (∀ i, i ∈ U ↔ i < n ∧ listed.getD i true = false) → HeadInv .any ops n listed → Agr ds vs n listed s0 s → SimE C s a w →
      wpAny P .any ops Q (m + (ops.size - n)) listed a w := by
  have hdl : ds.length = n := by
    have := congrArg List.length hd.dst
    simp at this
    have h1 := hd.le
    omega
  have hdi : ∀ i o, i < n → ops[i]? = some o → ∃ d, ds[i]? = some d ∧ o.dst = some d := by
    intro i o hi ho
    have h1 : i < ds.length := by omega
    refine ⟨ds[i], List.getElem?_eq_getElem h1, ?_⟩
    have h2 : ((ops.toList.take n).map (·.dst))[i]? = (ds.map some)[i]? := by rw [hd.dst]
    rw [List.getElem?_map, List.getElem?_map, List.getElem?_take, if_pos hi, List.getElem?_eq_getElem h1] at h2
    have h3 : ops.toList[i]? = some o := by simpa using ho
    rw [h3] at h2
    simpa using h2
  have hzn : (ds.zip vs).map (·.1) = ds := by rw [List.map_fst_zip (by omega)]
  have hinj : ∀ (i j t : Nat), ds[i]? = some t → ds[j]? = some t → i = j := by
    intro i j t h1 h2
    have hi := (List.getElem?_eq_some_iff.1 h1).1
    have hj := (List.getElem?_eq_some_iff.1 h2).1
    have e1 := (List.getElem?_eq_some_iff.1 h1).2
    have e2 := (List.getElem?_eq_some_iff.1 h2).2
    exact (List.getElem_inj hd.nodup).1 (e1.trans e2.symm)
  intro m
  induction m with
  | zero =>
    intro U listed s a w hU _ hmem inv agr h
    have hU0 : U = [] := List.eq_nil_of_length_eq_zero hU
    subst hU0
    have hall : ∀ i, i < n → listed.getD i true = true := fun i hi => by
      cases hb : listed.getD i true with
      | true => rfl
      | false => have := (hmem i).2 ⟨hi, hb⟩; cases this
    have hle := hd.le
    have hlist : listed = (List.replicate n true ++ List.replicate (ops.size - n) false).toArray := by
      apply Array.ext
      · rw [inv.size]; simp; omega
      · intro i h1 h2
        have hi : i < ops.size := by rw [← inv.size]; exact h1
        by_cases hlt : i < n
        · have := hall i hlt
          simp [h1] at this
          simp [this, hlt]
        · have := inv.tail i (by omega) hi
          simp [h1] at this
          simp [this, List.getElem_append, hlt]
    have hs : s = puts (ds.zip vs) s0 := by
      refine St.ext' (funext fun t => ?_) (by rw [puts_own]; exact agr.own)
      by_cases ht : ∃ j : Nat, ds[j]? = some t
      · obtain ⟨j, hj⟩ := ht
        have hjn : j < n := by rw [← hdl]; exact (List.getElem?_eq_some_iff.1 hj).1
        have hl : listed.getD j false = true := by
          have h1 := hall j hjn
          have h2 : j < listed.size := by rw [inv.size]; omega
          simp [h2] at h1 ⊢; exact h1
        have hv := agr.hit t j hjn hl hj
        exact (puts_hit _ s0 j t _ (zip_get hvl hj hv) (by rw [hzn]; exact hd.nodup)).symm
      · rw [agr.miss t (fun j _ _ hj => ht ⟨j, hj⟩), puts_miss]
        intro p hp e
        obtain ⟨j, hj, rfl⟩ := List.getElem_of_mem hp
        refine ht ⟨j, ?_⟩
        have : ((ds.zip vs).map (·.1))[j]? = some t := by rw [List.getElem?_map, List.getElem?_eq_getElem hj]; simp [← e]
        rwa [hzn] at this
    rw [Nat.zero_add]
    have hlen : (ops.toList.drop n).length = ops.size - n := by simp
    have := wpAny_of_seq (P := P) (ops := ops) (md := .any) (Q' := Q) (ops.toList.drop n) n listed a w (fun j => by rw [List.getElem?_drop]; simp) (by rw [hlen, hlist]; exact hd.seq)
      (PSem.sound hG hK _ s a w (fun o ho => hN o (List.mem_of_mem_drop ho)) h (by rw [hs]; exact hend))
    rwa [hlen] at this
  | succ m ih =>
    intro U listed s a w hU hnd hmem inv agr h
    have hlt_in : ∀ i, i ∈ Region.ready .any ops listed → i < n := by
      intro i hi
      have hisz : i < ops.size := by
        obtain ⟨_, o, ho, _⟩ := mem_ready.1 hi
        exact (Array.getElem?_eq_some_iff.1 ho).1
      rcases hd.tail with ht | ⟨ht1, ht2⟩
      · omega
      · rcases Nat.lt_or_ge i n with h1 | h1
        · exact h1
        · cases hUU : U with
          | nil => rw [hUU] at hU; simp at hU
          | cons u U' =>
            have hu := (hmem u).1 (by rw [hUU]; simp)
            exact absurd hi (tail_waits ht1 ht2 (by omega) inv _ u rfl hu.1 hu.2 i h1)
    rw [show m + 1 + (ops.size - n) = (m + (ops.size - n)) + 1 by omega]
    refine ⟨fun hnil => ?_, fun i hi => ?_⟩
    · exfalso
      obtain ⟨i0, hi0, hmin⟩ : ∃ i ∈ U, ∀ j ∈ U, i ≤ j := by
        have hne : ∃ i, i ∈ U := by
          cases hUU : U with
          | nil => rw [hUU] at hU; simp at hU
          | cons u U' => exact ⟨u, by simp⟩
        have hd' : ∀ k, (∃ i, i ∈ U ∧ i ≤ k) → ∃ i ∈ U, ∀ j ∈ U, i ≤ j := by
          intro k
          induction k with
          | zero => rintro ⟨i, hi, h0⟩; exact ⟨i, hi, fun j _ => by omega⟩
          | succ k ihk =>
            rintro ⟨i, hi, hk⟩
            by_cases hex : ∃ j, j ∈ U ∧ j ≤ k
            · exact ihk hex
            · refine ⟨i, hi, fun j hj => ?_⟩
              rcases Nat.lt_or_ge j i with h1 | h1
              · exact absurd ⟨j, hj, by omega⟩ hex
              · exact h1
        obtain ⟨i, hi⟩ := hne
        exact hd' i ⟨i, hi, Nat.le_refl _⟩
      have hu := (hmem i0).1 hi0
      have hsz : i0 < ops.size := by have := hd.le; omega
      have hr : i0 ∈ Region.ready .any ops listed := by
        refine mem_ready.2 ⟨hu.2, ops[i0], Array.getElem?_eq_getElem hsz, fun e he hb => ?_⟩
        have hlt := hd.lex i0 _ (Array.getElem?_eq_getElem hsz) e he hb
        cases hl : listed.getD e.on true with
        | false =>
          have := hmin e.on ((hmem e.on).2 ⟨by omega, hl⟩)
          omega
        | true =>
          have h2 : e.on < listed.size := by rw [inv.size]; omega
          simp [h2] at hl ⊢; exact hl
      rw [hnil] at hr
      cases hr
    · have hin := hlt_in i hi
      obtain ⟨hun, o, ho, hall⟩ := mem_ready.1 hi
      obtain ⟨d, hdd, hod⟩ := hdi i o hin ho
      have hiv : i < vs.length := by omega
      have hyi := hy i o vs[i] (by rw [List.getElem?_take, if_pos hin]; simpa using ho) (List.getElem?_eq_getElem hiv)
      have hisz : i < listed.size := by rw [inv.size]; exact (Array.getElem?_eq_some_iff.1 ho).1
      have hsame : ∀ t ∈ o.looksAt ops, (puts ((ds.zip vs).take i) s0).reg t = s.reg t := by
        intro t ht
        by_cases hx : ∃ j : Nat, j < n ∧ ds[j]? = some t
        · obtain ⟨j, hjn, hj⟩ := hx
          obtain ⟨hji, e, he, hb, hon⟩ := hd.looks i o hin ho t ht j hjn hj
          have hl : listed.getD j false = true := by rw [← hon]; exact hall e he hb
          have hv := agr.hit t j hjn hl hj
          refine puts_hit _ s0 j t _ ?_ ?_
          · rw [List.getElem?_take, if_pos hji]; exact zip_get hvl hj hv
          · rw [List.map_take, hzn]; exact hd.nodup.sublist (List.take_sublist _ _)
        · rw [agr.miss t (fun j hj _ hdj => hx ⟨j, hj, hdj⟩), puts_miss]
          intro p hp e
          have hp' := List.mem_of_mem_take hp
          obtain ⟨j, hj, rfl⟩ := List.getElem_of_mem hp'
          refine hx ⟨j, by simp at hj; omega, ?_⟩
          have : ((ds.zip vs).map (·.1))[j]? = some t := by rw [List.getElem?_map, List.getElem?_eq_getElem hj]; simp [← e]
          rwa [hzn] at this
      have hyl : Yld P L ops s o vs[i] := hyi.congr (by rw [puts_own]; exact agr.own.symm) hsame
      have hnext : ∀ a' w', SimE C (s.put o.dst vs[i]) a' w' → wpAny P .any ops Q (m + (ops.size - n)) (listed.setIfInBounds i true) a' w' := by
        intro a' w' h'
        have hUi : i ∈ U := (hmem i).2 ⟨hin, hun⟩
        refine ih (U.erase i) _ _ a' w' (by rw [List.length_erase_of_mem hUi]; omega) (hnd.erase i) (fun k => ?_) (inv.set hi hin) ?_ h'
        · rw [hnd.mem_erase_iff, hmem k]
          by_cases hki : k = i
          · subst hki
            simp [hisz]
          · rw [getD_set_ne true (Ne.symm hki)]
            exact ⟨fun x => x.2, fun x => ⟨hki, x⟩⟩
        · have hreg : ∀ t, (s.put o.dst vs[i]).reg t = if t = d then vs[i] else s.reg t := by
            intro t
            rw [hod]
            show (bif Nat.beq t d then vs[i] else s.reg t) = _
            by_cases htd : t = d
            · subst htd; simp
            · rw [nbeq_ne htd, if_neg htd]; rfl
          refine ⟨by rw [hod]; exact agr.own, fun t j hjn hl hj => ?_, fun t hm => ?_⟩
          · rw [hreg]
            by_cases htd : t = d
            · subst htd
              rw [if_pos rfl, hinj j i t hj hdd]
              exact List.getElem?_eq_getElem hiv
            · rw [if_neg htd]
              have hji : j ≠ i := by
                intro e; subst e
                rw [hdd] at hj
                exact htd (Option.some.inj hj).symm
              rw [getD_set_ne false (Ne.symm hji)] at hl
              exact agr.hit t j hjn hl hj
          · rw [hreg]
            have hli : (listed.setIfInBounds i true).getD i false = true := by simp [hisz]
            have htd : t ≠ d := by
              intro e; subst e
              exact hm i hin hli hdd
            rw [if_neg htd]
            refine agr.miss t fun j hjn hl hj => ?_
            by_cases hji : j = i
            · subst hji; exact hm j hjn hli hj
            · exact hm j hjn (by rw [getD_set_ne false (Ne.symm hji)]; exact hl) hj
      have hNo : dstLt C.N o.dst = true := hN o (by have := Array.mem_of_getElem? ho; simpa using this)
      unfold wpOp
      rw [ho]
      simp only
      rcases hyl with ⟨hw, hq⟩ | ⟨hw, hq⟩
      · rw [if_pos (hw.spec h)]
        exact .inl (hq.wp hG h hNo hnext)
      · rw [if_neg (by rw [hw.spec h]; simp)]
        refine hnext _ _ ?_
        rw [hq]
        exact h.put hNo undef
def PDraw (P : Program) (L : Lay) (ops : Array Oper) (K : St → Prop) (s : St) : Prop :=
  ∃ n ds, drawOk ops n ds = true ∧ PQuiet P L ops (fun s' => PSem P L ops K (ops.toList.drop n) s') (ops.toList.take n) s
theorem PDraw.sound (hG : Good P L C) {K' : St → Prop} {Q : Exit → Act → World → Prop} (hK : ∀ s' a' w', SimE C s' a' w' → K' s' → Q .normal a' w') (hN : ∀ o ∈ ops.toList, dstLt C.N o.dst = true)
    (h : SimE C s a w) (hq : PDraw P L ops K' s) : wpAny P .any ops Q ops.size (Array.replicate ops.size false) a { w with drawn := w.drawn + 1 } := by
  obtain ⟨n, ds, hok, hq⟩ := hq
  have hd := drawOk_spec hok
  obtain ⟨vs, h1, h2, h3⟩ := PQuiet.ylds _ ds s hd.dst hq
  have hle := hd.le
  obtain ⟨γ, h⟩ := h
  have hget : ∀ (j : Nat) (d : Bool), (Array.replicate ops.size false).getD j d = if j < ops.size then false else d := by
    intro j d
    by_cases hj : j < ops.size
    · simp [hj]
    · simp [hj]
  have := draw_any hG hd (Q := Q) hK hN h1 h2 h3 n (List.range n) (Array.replicate ops.size false) s a _ (by simp) List.nodup_range (fun i => by
      rw [List.mem_range, hget]
      constructor
      · intro hi; exact ⟨hi, by rw [if_pos (by omega)]⟩
      · exact fun x => x.1)
    ⟨by simp, (fun j oj _ hl => by rw [hget] at hl; split at hl <;> cases hl), fun t ht1 ht2 => by rw [hget, if_pos ht2]⟩
    ⟨rfl, (fun t j _ hl => by rw [hget] at hl; split at hl <;> cases hl), fun _ _ => rfl⟩ ⟨γ, h.ext (below_drew w)⟩
  rwa [show n + (ops.size - n) = ops.size by omega] at this
end
end Go.Pv


namespace Go.Pv
open Go.RowKit
variable [Globs]
def OwnLe (s s' : St) : Prop := ∀ k, s'.own k = s.own k ∨ (s.own k).2 = none
theorem OwnLe.some {s s' : St} (h : OwnLe s s') {k : Nat} {c : Cont} (hc : (s.own k).2 = some c) : s'.own k = s.own k := by
  rcases h k with h | h
  · exact h
  · rw [hc] at h; cases h
section
variable {P : Program} {L : Lay} {s s' : St}
theorem plen_le (h : OwnLe s s') {v : PV} {r : PV × Prop} (hq : plen s v = some r) : plen s' v = some r := by
  cases v <;> simp only [plen] at hq ⊢ <;> try exact hq
  split at hq
  · rename_i c hc
    rw [h.some hc, hc]; exact hq
  · cases hq
theorem pnil_le (h : OwnLe s s') {r : Option LRow} {op : BinOp} {v : PV} {q : PV × Prop} (hq : pnil s r op v = some q) : pnil s' r op v = some q := by
  cases v
  case ptr k g i j =>
    cases r with
    | none => exact hq
    | some r =>
      unfold pnil at hq ⊢
      dsimp only at hq ⊢
      generalize r.sh = sh at hq ⊢
      cases sh <;> dsimp only at hq ⊢ <;> try exact hq
      cases op <;> dsimp only at hq ⊢ <;> try exact hq
      all_goals
        split at hq
        · rename_i c hc
          rw [h.some hc, hc]; exact hq
        · cases hq
  all_goals (first | exact hq | (simp only [pnil] at hq ⊢; exact hq))
theorem oneC_le (h : OwnLe s s') {v : PV} {r : Prop} (hq : oneC s v = some r) : oneC s' v = some r := by
  cases v <;> simp only [oneC] at hq ⊢ <;> try exact hq
  all_goals
    split at hq
    · rename_i c hc
      rw [h.some hc, hc]; exact hq
    · cases hq
theorem oneL_le (h : OwnLe s s') : ∀ {l : List PV} {r : Prop}, oneL s l = some r → oneL s' l = some r
  | [], _, hq => hq
  | c :: l, r, hq => by
    simp only [oneL] at hq ⊢
    split at hq
    · rename_i A hA
      rw [oneC_le h hA]
      split at hq
      · rename_i B hB
        rw [oneL_le h hB]; exact hq
      · cases hq
    · cases hq
theorem fillP_le (h : OwnLe s s') {fs : List (Nat × TypeId)} : ∀ {l : List (Nat × PV)} {cs : List PV} {C : Prop} {r : List PV × Prop}, fillP L s fs l cs C = some r → fillP L s' fs l cs C = some r
  | [], _, _, _, hq => hq
  | (i, x) :: l, cs, C, r, hq => by
    simp only [fillP] at hq ⊢
    split at hq
    · rename_i off ft hf
      split at hq
      · rename_i rr hr
        split at hq
        · rename_i ds
          cases hb : (Nat.beq ds.length rr.size && Nat.ble (off + ds.length) cs.length) with
          | true => rw [hb] at hq; simp only [cond_true] at hq ⊢; exact fillP_le h hq
          | false => rw [hb] at hq; simp at hq
        · rename_i x' hx'
          split at hq
          · rename_i Pr hPr
            have := oneC_le h hPr
            cases x <;> simp only [this] <;> first
              | (cases hb : (Nat.beq 1 rr.size && Nat.ble (off + 1) cs.length) with
                 | true => rw [hb] at hq; simp only [cond_true] at hq ⊢; exact fillP_le h hq
                 | false => rw [hb] at hq; simp at hq)
              | exact absurd rfl (hx' _)
          · cases hq
      · cases hq
    · cases hq
theorem resL_le {f f' : PV → Option (PV × Prop × Fl)} (hf : ∀ c r, f c = some r → f' c = some r) : ∀ {l : List PV} {r}, resL f l = some r → resL f' l = some r
  | [], _, hq => hq
  | c :: l, r, hq => by
    simp only [resL] at hq ⊢
    split at hq
    · rename_i d C1 b1 h1
      rw [hf c _ h1]
      split at hq
      · rename_i ds C2 b2 h2
        simp only [resL_le hf h2]; exact hq
      · cases hq
    · cases hq
theorem res_le (h : OwnLe s s') : ∀ (n : Nat) (c : PV) (r : PV × Prop × Fl), res s n c = some r → res s' n c = some r
  | 0, _, _, hq => by simp [res] at hq
  | n + 1, c, r, hq => by
    have ih := res_le h n
    cases c <;> simp only [res] at hq ⊢ <;> try exact hq
    case als k g i m =>
      split at hq
      · rename_i c hc
        rw [h.some hc, hc]; exact hq
      · cases hq
    case mp k g =>
      split at hq
      · rename_i c hc
        rw [h.some hc, hc]; exact hq
      · cases hq
    case ptr k g i j =>
      split at hq
      · rename_i c hc
        rw [h.some hc, hc]
        simp only
        split at hq
        · rename_i row hrow
          cases hb : Nat.ble c.kind 1 with
          | true => rw [hb] at hq; exact hq
          | false =>
            rw [hb] at hq
            simp only [cond_false] at hq ⊢
            split at hq
            · rename_i row' C1 b1 h1
              rw [resL_le ih h1]; exact hq
            · cases hq
        · cases hq
      · cases hq
    all_goals
      split at hq
      · rename_i ds C1 b1 h1
        rw [resL_le ih h1]; exact hq
      · cases hq
theorem ev_eq (hr : s'.reg = s.reg) (x : Operand) : s'.ev x = s.ev x := by cases x <;> simp only [St.ev, hr]
theorem qv_le (h : OwnLe s s') (hr : s'.reg = s.reg) {op : Op} {r : PV × Prop} (hq : qv L s op = some r) : qv L s' op = some r := by
  have hev := ev_eq hr
  cases op
  case nilCheck x =>
    simp only [qv, hev] at hq ⊢
    split at hq <;> try exact hq
    rename_i k g i j hx
    split at hq
    · rename_i c hc
      rw [h.some hc, hc]; exact hq
    · cases hq
  case fieldAddr T x f =>
    simp only [qv, hev] at hq ⊢
    split at hq <;> try (cases hq; done)
    split at hq <;> try (cases hq; done)
    split at hq <;> try (cases hq; done)
    split at hq <;> try (cases hq; done)
    rename_i rf hrf
    cases hb : Nat.blt 0 rf.size with
    | false => rw [hb] at hq; cases hq
    | true =>
      rw [hb] at hq
      simp only [cond_true] at hq ⊢
      split at hq <;> try exact hq
      rename_i k g i j hx
      split at hq
      · rename_i c hc
        rw [h.some hc, hc]; exact hq
      · cases hq
  case load T x =>
    simp only [qv, hev] at hq ⊢
    split at hq <;> try (cases hq; done)
    split at hq <;> try exact hq
    rename_i k g i j hx
    split at hq
    · rename_i c hc
      rw [h.some hc, hc]; exact hq
    · cases hq
  case binOp op T x y T' =>
    simp only [qv, hev] at hq ⊢
    cases hn : nilC y with
    | true => rw [hn, cond_true] at hq; rw [cond_true]; exact pnil_le h hq
    | false => rw [hn, cond_false] at hq; rw [cond_false]; exact hq
  case build T parts =>
    simp only [qv, hev] at hq ⊢
    split at hq <;> try (cases hq; done)
    split at hq <;> try (cases hq; done)
    rename_i fs z hfs hz
    cases hb : fs.all (fun p => (L p.2).isSome) with
    | false => rw [hb] at hq; cases hq
    | true =>
      rw [hb] at hq
      simp only [cond_true] at hq ⊢
      split at hq
      · rename_i cs C hf
        rw [fillP_le h hf]; exact hq
      · cases hq
  case call c =>
    unfold qv at hq ⊢
    split at hq
    any_goals (rename_i heq; cases heq; done)
    · rename_i x T heq
      cases heq
      simp only [hev]
      split at hq <;> try (cases hq; done)
      split at hq <;> try exact hq
      rename_i v _ hsl _
      exact plen_le h hq
    · rename_i x y tys heq
      cases heq
      simp only [hev]; exact hq
    · rename_i x y tys heq
      cases heq
      simp only [hev]; exact hq
    · cases hq
  case makeFunc fn first caps =>
    obtain ⟨caps⟩ := caps
    obtain ⟨first⟩ := first
    cases fn <;> cases first <;> simp only [qv] at hq ⊢ <;> try (cases hq; done)
    rw [← hq, List.map_congr_left fun x _ => hev x]
  all_goals (first | (simp only [qv, hev] at hq ⊢; exact hq) | (simp only [qv] at hq; cases hq) | exact hq)
theorem QOp.le (h : OwnLe s s') (hr : s'.reg = s.reg) {o : Oper} {v : PV} (hq : QOp P L s o v) : QOp P L s' o v := by
  have hev := ev_eq hr
  have hm : ∀ args : Array Operand, args.toList.map s'.ev = args.toList.map s.ev := fun args => List.map_congr_left fun x _ => hev x
  cases hq with
  | v hq hc => exact .v (qv_le h hr hq) hc
  | seq ho hT hx hy hl => exact .seq ho hT (by rw [hev]; exact hx) (by rw [hev]; exact hy) hl
  | idx ho h1 h2 h3 hx hix h0 hrow hlen => exact .idx ho h1 h2 h3 (by rw [hev]; exact hx) (by rw [hev]; exact hix) h0 hrow hlen
  | idxA ho h1 h2 h3 hx hown hsz hix h0 hlt => exact .idxA ho h1 h2 h3 (by rw [hev]; exact hx) (by rw [h.some (by rw [hown])]; exact hown) hsz (by rw [hev]; exact hix) h0 hlt
  | ldp ho h1 hx hown hrow hp => exact .ldp ho h1 (by rw [hev]; exact hx) (by rw [h.some (by rw [hown])]; exact hown) hrow hp
  | slc ho h1 h2 h3 hx hix h0 hle hlen => exact .slc ho h1 h2 h3 (by rw [hev]; exact hx) (by rw [hev]; exact hix) h0 hle hlen
  | slh ho h1 h2 h3 hx hix h0 hle hlen => exact .slh ho h1 h2 h3 (by rw [hev]; exact hx) (by rw [hev]; exact hix) h0 hle hlen
  | slg fr ho h1 h2 h3 hx hlo hhi hlh hle hlen => exact .slg fr ho h1 h2 h3 (by rw [hev]; exact hx) (hlo.imp id fun ⟨y, k, e1, e2⟩ => ⟨y, k, e1, by rw [hev]; exact e2⟩) (hhi.imp id fun ⟨y, k, e1, e2⟩ => ⟨y, k, e1, by rw [hev]; exact e2⟩) hlh hle hlen
  | slA ho h1 h2 h3 hx hown hsz hlo hhi hlt hle => exact .slA ho h1 h2 h3 (by rw [hev]; exact hx) (by rw [h.some (by rw [hown])]; exact hown) hsz (hlo.imp id fun ⟨y, k, e1, e2⟩ => ⟨y, k, e1, by rw [hev]; exact e2⟩) (hhi.imp id fun ⟨y, k, e1, e2⟩ => ⟨y, k, e1, by rw [hev]; exact e2⟩) hlt hle
  | slE ho h1 h2 h3 hx hown hlo hhi hle => exact .slE ho h1 h2 h3 (by rw [hev]; exact hx) (by rw [h.some (by rw [hown])]; exact hown) (hlo.imp id fun ⟨y, k, e1, e2⟩ => ⟨y, k, e1, by rw [hev]; exact e2⟩) (hhi.imp id fun ⟨y, k, e1, e2⟩ => ⟨y, k, e1, by rw [hev]; exact e2⟩) hle
  | call ho hf hres hc hb hret => exact .call ho (by rw [hev]; exact hf) (by rw [hm]; exact resL_le (res_le h 4) hres) hc hb hret
  | callF ho hf hres hc hret => exact .callF ho (by rw [hev]; exact hf) (by rw [hm]; exact resL_le (res_le h 4) hres) hc hret
  | look ho hr0 hs hrk hrv hz hz1 hx hown hk3 hky hkeys =>
    rename_i T K V r rk rv x y k g c z ok
    rw [← hev y]
    exact .look ho hr0 hs hrk hrv hz hz1 (by rw [hev]; exact hx) (by rw [h.some (by rw [hown])]; exact hown) hk3 (by rw [hev]; exact hky) hkeys
  | sem hx h1 hrun hpv => exact .sem (by rw [hev]; exact hx) h1 hrun hpv
  | semF hne hall hrun hpv => exact .semF hne (fun x hx => by rw [hev]; exact hall x hx) (fun ev w hw h => hrun ev w hw fun x hx => by rw [← hev]; exact h x hx) hpv
  | lookG ho hr0 hs hrk hz hx hg hky hkeys =>
    rename_i T K V r rk kk x y rows z ok
    rw [← hev y]
    exact .lookG ho hr0 hs hrk hz (by
      rw [hev]
      rcases hx with hx | ⟨k, g, c, h1, h2, h3, h4⟩
      · exact .inl hx
      · exact .inr ⟨k, g, c, h1, by rw [h.some (by rw [h2])]; exact h2, h3, h4⟩) hg (by rw [hev]; exact hky) hkeys
  | s2b ho hrs h1 hs hre hsh hx => exact .s2b ho hrs h1 hs hre hsh (by rw [hev]; exact hx)
  | b2s ho hrs h1 hs hre hsh hrd hl hx => exact .b2s ho hrs h1 hs hre hsh hrd hl (by rw [hev]; exact hx)
  | entry ho hx hown hk3 hrows => exact .entry ho (by rw [hev]; exact hx) (by rw [h.some (by rw [hown])]; exact hown) hk3 hrows
  | mks ho h1 h2 h3 hz hsz hl hc h0 hb h63 => exact .mks ho h1 h2 h3 hz hsz (by rw [hev]; exact hl) (by rw [hev]; exact hc) h0 hb h63
  | slit ho h1 h2 h3 hz hsz hn hN hcells hp1 hp2 hkd =>
    rename_i T e r re n parts Pr
    have e1 : (parts.toList.map fun p => (s.ev p.2).cells.map (nrm 0)) = parts.toList.map fun p => (s'.ev p.2).cells.map (nrm 0) := List.map_congr_left fun p _ => by rw [hev]
    have e2 : (parts.toList.flatMap fun p => (s.ev p.2).cells) = parts.toList.flatMap fun p => (s'.ev p.2).cells := by
      rw [List.flatMap_def, List.flatMap_def]
      congr 1
      exact List.map_congr_left fun p _ => by rw [hev]
    rw [e1]
    exact .slit ho h1 h2 h3 hz hsz hn hN (fun p hp => by rw [hev]; exact hcells p hp) (by rw [← e2]; exact oneL_le h hp1) hp2 (by rw [← e2]; exact hkd)
def ownFree : Op → Bool
  | .move _ | .assign _ | .pick .. | .unOp .. | .extract .. => true
  | .binOp _ _ _ y _ => !nilC y
  | _ => false
def PV.isD : PV → Bool
  | .dref .. | .sl _ | .fsl _ => true
  | _ => false
def dataAt (s : St) : Op → Bool
  | .load _ x => (s.ev x).isD
  | .fieldAddr _ x _ => (s.ev x).isD
  | .indexAddr _ x _ => (s.ev x).isD
  | .call ⟨.builtin .min, ⟨[_, _]⟩, _⟩ => true
  | .call ⟨.builtin .max, ⟨[_, _]⟩, _⟩ => true
  | op => ownFree op
theorem dataAt_congr {s s' : St} {op : Op} (he : ∀ x ∈ op.operands, s.ev x = s'.ev x) (h : dataAt s op = true) : dataAt s' op = true := by
  cases op
  case call c =>
    obtain ⟨callee, ⟨args⟩, tys⟩ := c
    cases callee
    case builtin b => cases b <;> rcases args with _ | ⟨x, _ | ⟨y, _ | ⟨z, l⟩⟩⟩ <;> exact h
    all_goals exact h
  all_goals
    simp only [Op.operands] at he
    simp only [dataAt] at h ⊢
    first
    | exact h
    | (rw [← he _ (by simp)]; exact h)
def PV.isNil : PV → Bool
  | .nil => true
  | _ => false
theorem QOp.free {o : Oper} {v : PV} (hf : ownFree o.op = true) (he : ∀ x ∈ o.op.operands, s.ev x = s'.ev x) (hq : QOp P L s o v) : QOp P L s' o v := by
  cases hq with
  | v hq hc =>
    refine .v ?_ hc
    rw [← hq]
    cases hop : o.op <;> rw [hop] at hf he <;> simp only [ownFree, Bool.false_eq_true] at hf <;> simp only [Op.operands] at he
    case move x => simp only [qv, he x (by simp)]
    case assign x => simp only [qv, he x (by simp)]
    case pick c x y => simp only [qv, he c (by simp), he x (by simp), he y (by simp)]
    case binOp op T x y T' =>
      have hn : nilC y = false := by cases hn : nilC y <;> simp [hn] at hf ⊢
      simp only [qv, he x (by simp), he y (by simp), hn, cond_false]
    case unOp op T x => simp only [qv, he x (by simp)]
    case extract x i => simp only [qv, he x (by simp)]
  | seq ho hT hx hy hl =>
    rw [ho] at he
    simp only [Op.operands] at he
    exact .seq ho hT (by rw [← he _ (by simp)]; exact hx) (by rw [← he _ (by simp)]; exact hy) hl
  | idx ho => rw [ho] at hf; cases hf
  | idxA ho => rw [ho] at hf; cases hf
  | ldp ho => rw [ho] at hf; cases hf
  | slc ho => rw [ho] at hf; cases hf
  | slh ho => rw [ho] at hf; cases hf
  | slg fr ho => rw [ho] at hf; cases hf
  | slA ho => rw [ho] at hf; cases hf
  | slE ho => rw [ho] at hf; cases hf
  | call ho => rw [ho] at hf; cases hf
  | callF ho => rw [ho] at hf; cases hf
  | slit ho => rw [ho] at hf; cases hf
  | mks ho => rw [ho] at hf; cases hf
  | look ho => rw [ho] at hf; cases hf
  | entry ho => rw [ho] at hf; cases hf
  | sem hx h1 hrun hpv => exact .sem (by rw [← he _ (by rw [h1]; simp)]; exact hx) h1 hrun hpv
  | semF hne hall hrun hpv => exact .semF hne (fun x hx => by rw [← he x hx]; exact hall x hx) (fun ev w hw h => hrun ev w hw fun x hx => by rw [he x hx]; exact h x hx) hpv
  | lookG ho => rw [ho] at hf; cases hf
  | s2b ho => rw [ho] at hf; cases hf
  | b2s ho => rw [ho] at hf; cases hf
theorem QOp.free2 {o : Oper} {v : PV} (hf : dataAt s o.op = true) (he : ∀ x ∈ o.op.operands, s.ev x = s'.ev x) (hq : QOp P L s o v) : QOp P L s' o v := by
  by_cases hfree : ownFree o.op = true
  · exact QOp.free hfree he hq
  · cases hq with
    | v hq hc =>
      refine .v ?_ hc
      rw [← hq]
      cases hop : o.op
      case call c =>
        rw [hop] at hf he
        obtain ⟨callee, ⟨args⟩, tys⟩ := c
        unfold dataAt at hf
        split at hf
        any_goals (rename_i heq; cases heq; done)
        · rename_i heq
          cases heq
          rename_i x y
          simp only [Op.operands, Call.operands] at he
          simp only [qv, he x (by simp), he y (by simp)]
        · rename_i heq
          cases heq
          rename_i x y
          simp only [Op.operands, Call.operands] at he
          simp only [qv, he x (by simp), he y (by simp)]
        · simp only [ownFree] at hf; cases hf
      all_goals
        rw [hop] at hf he hfree
        simp only [dataAt] at hf
        simp only [Op.operands] at he
        first
        | (exfalso; exact hfree hf)
        | (simp only [ownFree] at hf; cases hf)
        | skip
      case load T x =>
        have hx := he x (by simp)
        rw [hx] at hf
        simp only [qv, hx]
        generalize s'.ev x = y at hf
        cases y <;> simp only [PV.isD, Bool.false_eq_true] at hf <;> rfl
      case fieldAddr T x f =>
        have hx := he x (by simp)
        rw [hx] at hf
        simp only [qv, hx]
        generalize s'.ev x = y at hf
        cases y <;> simp only [PV.isD, Bool.false_eq_true] at hf <;> rfl
      case indexAddr T x i => simp [qv]
    | seq ho => rw [ho] at hf hfree; exact absurd hf hfree
    | idx ho hr hs hre hx hix h0 hrow hlen =>
      refine .idx ho hr hs hre (by rw [← he _ (by rw [ho]; simp [Op.operands])]; exact hx) (by rw [← he _ (by rw [ho]; simp [Op.operands])]; exact hix) h0 hrow hlen
    | idxA ho hr hs hre hx => rw [ho] at hf; simp only [dataAt, hx, PV.isD] at hf; cases hf
    | ldp ho hr hx => rw [ho] at hf; simp only [dataAt, hx, PV.isD] at hf; cases hf
    | slc ho => rw [ho] at hf; cases hf
    | slh ho => rw [ho] at hf; cases hf
    | slg fr ho => rw [ho] at hf; cases hf
    | slA ho => rw [ho] at hf; cases hf
    | slE ho => rw [ho] at hf; cases hf
    | call ho => rw [ho] at hf; cases hf
    | callF ho => rw [ho] at hf; cases hf
    | slit ho => rw [ho] at hf; cases hf
    | mks ho => rw [ho] at hf; cases hf
    | look ho => rw [ho] at hf; cases hf
    | entry ho => rw [ho] at hf; cases hf
    | sem hx h1 hrun hpv => exact .sem (by rw [← he _ (by rw [h1]; simp)]; exact hx) h1 hrun hpv
    | semF hne hall hrun hpv => exact .semF hne (fun x hx => by rw [← he x hx]; exact hall x hx) (fun ev w hw h => hrun ev w hw fun x hx => by rw [he x hx]; exact h x hx) hpv
    | lookG ho => rw [ho] at hf; cases hf
    | s2b ho => rw [ho] at hf; cases hf
    | b2s ho => rw [ho] at hf; cases hf
end
end Go.Pv


namespace Go.Pv
open Go.RowKit
variable [Globs]
section
variable {P : Program} {L : Lay} {C : Ctx} {s : St} {a : Act} {w w' : World} {ops : Array Oper}
theorem put_pair {o : Oper} {d : Nat} {pv : PV} {s u s0 u0 : St} (hd : o.dst = some d) (ho : s0.own = u0.own) (hs : s0.reg = s.reg) (hu : u0.reg = u.reg) :
    (s0.putR d pv).own = (u0.putR d pv).own ∧ (∀ t, o.dst = some t → (s0.putR d pv).reg t = (u0.putR d pv).reg t) ∧ ∀ t, o.dst ≠ some t → (s0.putR d pv).reg t = s.reg t ∧ (u0.putR d pv).reg t = u.reg t := by
  refine ⟨ho, fun t ht => ?_, fun t ht => ?_⟩
  · have : d = t := by rw [hd] at ht; exact Option.some.inj ht
    subst this
    show (bif Nat.beq d d then pv else _) = (bif Nat.beq d d then pv else _)
    simp
  · have : t ≠ d := fun e => ht (by rw [e]; exact hd)
    exact ⟨by show (bif Nat.beq t d then pv else s0.reg t) = _; rw [nbeq_ne this, hs]; rfl, by show (bif Nat.beq t d then pv else u0.reg t) = _; rw [nbeq_ne this, hu]; rfl⟩
theorem Eff.congr {u s u' : St} {o : Oper} (ho : u.own = s.own) (he : ∀ x ∈ o.op.operands, u.ev x = s.ev x) (h : Eff P L u o u') :
    ∃ s', Eff P L s o s' ∧ s'.own = u'.own ∧ (∀ t, o.dst = some t → s'.reg t = u'.reg t) ∧ ∀ t, o.dst ≠ some t → s'.reg t = s.reg t ∧ u'.reg t = u.reg t := by
  have hfin : ∀ d c, (u.fin d c).own = (s.fin d c).own := fun d c => by simp only [St.fin, St.setOwn, ho]
  have key : ∀ {d k : Nat} {c : Cont} {pv : PV}, o.dst = some d → ((s.fin k c).putR d pv).own = ((u.fin k c).putR d pv).own ∧ (∀ t, o.dst = some t → ((s.fin k c).putR d pv).reg t = ((u.fin k c).putR d pv).reg t) ∧
      ∀ t, o.dst ≠ some t → ((s.fin k c).putR d pv).reg t = s.reg t ∧ ((u.fin k c).putR d pv).reg t = u.reg t := by
    intro d k c pv hd
    refine ⟨(hfin k c).symm, fun t ht => ?_, fun t ht => ?_⟩
    · have : d = t := by rw [hd] at ht; exact Option.some.inj ht
      subst this
      show (bif Nat.beq d d then pv else _) = (bif Nat.beq d d then pv else _)
      simp
    · have : t ≠ d := fun e => ht (by rw [e]; exact hd)
      exact ⟨by show (bif Nat.beq t d then pv else s.reg t) = _; rw [nbeq_ne this]; rfl, by show (bif Nat.beq t d then pv else u.reg t) = _; rw [nbeq_ne this]; rfl⟩
  cases h with
  | nils e sz kd h1 hd hx =>
    rename_i x d
    have hx' : s.ev x = .nil := by rw [← he x (by rcases h1 with h1 | h1 <;> rw [h1] <;> simp [Op.operands])]; exact hx
    have hg : (u.own d).1 = (s.own d).1 := by rw [ho]
    rw [hg]
    exact ⟨_, .nils e sz kd h1 hd hx', key hd⟩
  | box h1 hd h2 h3 h0 =>
    rename_i T x d Pr
    have hx : u.ev x = s.ev x := he x (by rw [h1]; simp [Op.operands])
    have hg : (u.own d).1 = (s.own d).1 := by rw [ho]
    rw [hg, hx]
    exact ⟨_, .box h1 hd (by rw [← hx, ← oneL_own ho]; exact h2) h3 (by rw [← hx]; exact h0), key hd⟩
  | alloc h1 hd hr hz h0 =>
    rename_i T r z d
    have hg : (u.own d).1 = (s.own d).1 := by rw [ho]
    rw [hg]
    exact ⟨_, .alloc h1 hd hr hz h0, key hd⟩
  | store kd h1 hd hr hx hown hrow h2 h3 hsz hle hk hkd =>
    rename_i T r x y k g i j c row Pr
    have hx' : u.ev x = s.ev x := he x (by rw [h1]; simp [Op.operands])
    have hy' : u.ev y = s.ev y := he y (by rw [h1]; simp [Op.operands])
    rw [hy']
    refine ⟨_, .store kd h1 hd hr (by rw [← hx']; exact hx) (by rw [← ho]; exact hown) hrow (by rw [← hy', ← oneL_own ho]; exact h2) h3 (by rw [← hy']; exact hsz) hle hk (by rw [← hy']; exact hkd), (by simp only [St.setOwn, ho]), fun t ht => (by rw [hd] at ht; cases ht), fun t _ => ⟨rfl, rfl⟩⟩
  | appN h1 hd hr hs hre hz hsz hx hq hc2 hlen hb h63 =>
    rename_i T e r re x y d rows2 k2 Cd2
    have hx' : u.ev x = s.ev x := he x (by rw [h1]; simp [Op.operands, Call.operands])
    have hy' : u.ev y = s.ev y := he y (by rw [h1]; simp [Op.operands, Call.operands])
    have hg : (u.own d).1 = (s.own d).1 := by rw [ho]
    have hsrc : srcOf s (s.ev y) = some (rows2, k2, Cd2) := by rw [← hy', ← hq]; cases u.ev y <;> simp only [srcOf, ho]
    rw [hg]
    exact ⟨_, .appN h1 hd hr hs hre hz hsz (by rw [← hx']; exact hx) hsrc hc2 hlen hb h63, key hd⟩
  | app kd h1 hd hr hs hre hz hsz hx hown hm hcs hct hq hc2 hlen hk1 hk2 hb h63 =>
    rename_i T e r re x y d k g c m rows2 k2 Cd2
    have hx' : u.ev x = s.ev x := he x (by rw [h1]; simp [Op.operands, Call.operands])
    have hy' : u.ev y = s.ev y := he y (by rw [h1]; simp [Op.operands, Call.operands])
    have hsrc : srcOf s (s.ev y) = some (rows2, k2, Cd2) := by rw [← hy', ← hq]; cases u.ev y <;> simp only [srcOf, ho]
    exact ⟨_, .app kd h1 hd hr hs hre hz hsz (by rw [← hx']; exact hx) (by rw [← ho]; exact hown) hm hcs hct hsrc hc2 hlen hk1 hk2 hb h63, key hd⟩
  | make h1 hd hr hs hre hz hsz hl hc h0 hnm hb h63 =>
    rename_i T e r re l c kl kc n m z d
    have hl' : u.ev l = s.ev l := he l (by rw [h1]; simp [Op.operands])
    have hc' : u.ev c = s.ev c := he c (by rw [h1]; simp [Op.operands])
    have hg : (u.own d).1 = (s.own d).1 := by rw [ho]
    rw [hg]
    exact ⟨_, .make h1 hd hr hs hre hz hsz (by rw [← hl']; exact hl) (by rw [← hc']; exact hc) h0 hnm hb h63, key hd⟩
  | slit kd h1 hd hr hs hre hz hsz hn hNs hcells h2 h3 hkd =>
    rename_i T e r re n d parts Pr
    have hp : ∀ p ∈ parts.toList, u.ev p.2 = s.ev p.2 := fun p hp => he p.2 (by rw [h1]; simp [Op.operands]; exact ⟨p.1, by simpa using hp⟩)
    have e1 : (parts.toList.map fun p => (u.ev p.2).cells.map (nrm kd)) = parts.toList.map fun p => (s.ev p.2).cells.map (nrm kd) := List.map_congr_left fun p h => by rw [hp p h]
    have e2 : (parts.toList.flatMap fun p => (u.ev p.2).cells) = parts.toList.flatMap fun p => (s.ev p.2).cells := by
      rw [List.flatMap_def, List.flatMap_def]
      congr 1
      exact List.map_congr_left fun p h => by rw [hp p h]
    have hg : (u.own d).1 = (s.own d).1 := by rw [ho]
    rw [hg, e1]
    exact ⟨_, .slit kd h1 hd hr hs hre hz hsz hn hNs (fun p h => by rw [← hp p h]; exact hcells p h) (by rw [← e2, ← oneL_own ho]; exact h2) h3 (by rw [← e2]; exact hkd), key hd⟩
  | makeMap h1 hd =>
    rename_i T d
    have hg : (u.own d).1 = (s.own d).1 := by rw [ho]
    rw [hg]
    exact ⟨_, .makeMap h1 hd, key hd⟩
  | mapOld h1 hd hr hs hrk hx hown hkd hky hkeys hm hrow hv =>
    rename_i T K V r rk x y k g i d c row v
    have hx' : u.ev x = s.ev x := he x (by rw [h1]; simp [Op.operands])
    have hy' : u.ev y = s.ev y := he y (by rw [h1]; simp [Op.operands])
    exact ⟨_, .mapOld h1 hd hr hs hrk (by rw [← hx']; exact hx) (by rw [← ho]; exact hown) hkd (by rw [← hy']; exact hky) hkeys (by rw [← hy']; exact hm) hrow hv, put_pair hd ho.symm rfl rfl⟩
  | mapNew h1 hd hr hs hrk hrv hz hz1 hx hown hkd hky hkeys hm =>
    rename_i T K V r rk rv x y k g d c z
    have hx' : u.ev x = s.ev x := he x (by rw [h1]; simp [Op.operands])
    have hy' : u.ev y = s.ev y := he y (by rw [h1]; simp [Op.operands])
    rw [hy']
    exact ⟨_, .mapNew h1 hd hr hs hrk hrv hz hz1 (by rw [← hx']; exact hx) (by rw [← ho]; exact hown) hkd (by rw [← hy']; exact hky) hkeys (by rw [← hy']; exact hm), put_pair hd (by simp only [St.setOwn, ho]) rfl rfl⟩
  | entStore kd h1 hd hx hown hst hrow hk0 hk hk3 hkd =>
    rename_i T x st y k g i ki c row
    have hx' : u.ev x = s.ev x := he x (by rw [h1]; simp [Op.operands])
    have hst' : u.ev st = s.ev st := he st (by rw [h1]; simp [Op.operands])
    have hy' : u.ev y = s.ev y := he y (by rw [h1]; simp [Op.operands])
    rw [hy']
    exact ⟨_, .entStore kd h1 hd (by rw [← hx']; exact hx) (by rw [← ho]; exact hown) (by rw [← hst']; exact hst) hrow hk0 hk hk3 (by rw [← hy']; exact hkd), (by simp only [St.setOwn, ho]), fun t ht => (by rw [hd] at ht; cases ht), fun t _ => ⟨rfl, rfl⟩⟩
  | mapSet kd h1 hd hr hs hrk hx hown hk1 hk3 hky hkeys hkd =>
    rename_i T K V r rk x y v k g c
    have hx' : u.ev x = s.ev x := he x (by rw [h1]; simp [Op.operands])
    have hy' : u.ev y = s.ev y := he y (by rw [h1]; simp [Op.operands])
    have hv' : u.ev v = s.ev v := he v (by rw [h1]; simp [Op.operands])
    rw [hy', hv']
    exact ⟨_, .mapSet kd h1 hd hr hs hrk (by rw [← hx']; exact hx) (by rw [← ho]; exact hown) hk1 hk3 (by rw [← hy']; exact hky) hkeys (by rw [← hv']; exact hkd), (by simp only [St.setOwn, ho]), fun t ht => (by rw [hd] at ht; cases ht), fun t _ => ⟨rfl, rfl⟩⟩
  | mapSetG kd h1 hd hr hs hrk hx hown hk1 hk3 hg hky hkeys hkd =>
    rename_i T K V r rk kk x y v k g c
    have hx' : u.ev x = s.ev x := he x (by rw [h1]; simp [Op.operands])
    have hy' : u.ev y = s.ev y := he y (by rw [h1]; simp [Op.operands])
    have hv' : u.ev v = s.ev v := he v (by rw [h1]; simp [Op.operands])
    rw [hy', hv']
    exact ⟨_, .mapSetG kd h1 hd hr hs hrk (by rw [← hx']; exact hx) (by rw [← ho]; exact hown) hk1 hk3 hg (by rw [← hy']; exact hky) hkeys (by rw [← hv']; exact hkd), (by simp only [St.setOwn, ho]), fun t ht => (by rw [hd] at ht; cases ht), fun t _ => ⟨rfl, rfl⟩⟩
  | range h1 hd hr hs hx =>
    rename_i T K V r x rows d
    have hx' : u.ev x = s.ev x := he x (by rw [h1]; simp [Op.operands])
    have hg : (u.own d).1 = (s.own d).1 := by rw [ho]
    rw [hg]
    exact ⟨_, .range h1 hd hr hs (by rw [← hx']; exact hx), key hd⟩
theorem Dem.congr {u s : St} {o : Oper} {K : St → Prop} (ho : u.own = s.own) (he : ∀ x ∈ o.op.operands, u.ev x = s.ev x) (h : Dem P L u o K) :
    Dem P L s o fun s' => ∃ u', K u' ∧ s'.own = u'.own ∧ (∀ t, o.dst = some t → s'.reg t = u'.reg t) ∧ ∀ t, o.dst ≠ some t → s'.reg t = s.reg t ∧ u'.reg t = u.reg t := by
  cases h with
  | next h1 hd hx hown hk3 hrows e0 e1 =>
    rename_i x k g d c last rem
    have hx' : u.ev x = s.ev x := he x (by rw [h1]; simp [Op.operands])
    exact .next h1 hd (by rw [← hx']; exact hx) (by rw [← ho]; exact hown) hk3 hrows (fun h => ⟨_, e0 h, put_pair hd ho.symm rfl rfl⟩)
      (fun i ck cv h => ⟨_, e1 i ck cv h, put_pair hd (by simp only [St.setOwn, ho]) rfl rfl⟩)
theorem ops_ev {o : Oper} {s s' : St} (he : ∀ t ∈ o.looksAt ops, s.reg t = s'.reg t) : ∀ x ∈ o.op.operands, s.ev x = s'.ev x := by
  intro x hx
  cases x with
  | tmp t => exact he t (List.mem_append_left _ (List.mem_filterMap.2 ⟨.tmp t, by simpa using hx, rfl⟩))
  | _ => rfl
theorem least_ready {listed : Array Bool} (hsz : listed.size = ops.size) (lex : ∀ i o, ops[i]? = some o → ∀ e ∈ o.after, Region.binds .any e = true → e.on < i) {U : List Nat} (hmem : ∀ i, i ∈ U ↔ i < ops.size ∧ listed.getD i true = false) (hne : U ≠ []) :
    Region.ready .any ops listed ≠ [] := by
  obtain ⟨i0, hi0, hmin⟩ : ∃ i ∈ U, ∀ j ∈ U, i ≤ j := by
    have hex : ∃ i, i ∈ U := by
      cases U with
      | nil => exact absurd rfl hne
      | cons u U' => exact ⟨u, by simp⟩
    have hd' : ∀ k, (∃ i, i ∈ U ∧ i ≤ k) → ∃ i ∈ U, ∀ j ∈ U, i ≤ j := by
      intro k
      induction k with
      | zero => rintro ⟨i, hi, h0⟩; exact ⟨i, hi, fun j _ => by omega⟩
      | succ k ihk =>
        rintro ⟨i, hi, hk⟩
        by_cases hex : ∃ j, j ∈ U ∧ j ≤ k
        · exact ihk hex
        · refine ⟨i, hi, fun j hj => ?_⟩
          rcases Nat.lt_or_ge j i with h1 | h1
          · exact absurd ⟨j, hj, by omega⟩ hex
          · exact h1
    obtain ⟨i, hi⟩ := hex
    exact hd' i ⟨i, hi, Nat.le_refl _⟩
  have hu := (hmem i0).1 hi0
  have hr : i0 ∈ Region.ready .any ops listed := by
    refine mem_ready.2 ⟨hu.2, ops[i0]'hu.1, Array.getElem?_eq_getElem hu.1, fun e he hb => ?_⟩
    have hlt := lex i0 _ (Array.getElem?_eq_getElem hu.1) e he hb
    cases hl : listed.getD e.on true with
    | false =>
      have := hmin e.on ((hmem e.on).2 ⟨by omega, hl⟩)
      omega
    | true =>
      have h2 : e.on < listed.size := by rw [hsz]; omega
      simp [h2] at hl ⊢; exact hl
  intro hnil
  rw [hnil] at hr
  cases hr
def drawOk2 (ops : Array Oper) (n m : Nat) (ds F : List Nat) : Bool :=
  decide (n + m ≤ ops.size) && ((ops.toList.take (n + m)).map (·.dst) == ds.map some) && decide ds.Nodup &&
  ((List.range (n + m)).all fun i => match ops[i]? with
    | some o => (o.looksAt ops).all fun t => (List.range (n + m)).all fun j => !(ds[j]? == some t) || (decide (j < i) && o.after.any fun e => Region.binds .any e && e.on == j)
    | none => false) &&
  ((List.range ops.size).all fun i => match ops[i]? with
    | some o => o.after.all fun e => !Region.binds .any e || decide (e.on < i)
    | none => false) &&
  ((List.range m).all fun q => match ops[n + q]? with
    | some o => (match o.op with | .alloc _ => o.guard.isNone | _ => false)
    | none => false) &&
  (decide (n + m = ops.size) || (List.range (n + m)).all fun i => F.contains i || (List.range (n + m + 1)).any fun j => decide (i < j) && (decide (j = n + m) || !F.contains j) && Region.waitsFor .any ops j i) &&
  Region.chainB .any ops (n + m) &&
  (F.all fun i => decide (i < n) && match ops[i]? with
    | some o => (List.range ops.size).all fun t => decide (t < n + m) || match ops[t]? with
      | some ot => !(ot.dst == o.dst) && (match ot.dst with | some x => !(o.looksAt ops).contains x || Region.waitsFor .any ops t i | none => true) && ((match o.dst with | some d => !(ot.looksAt ops).contains d | none => true) || Region.waitsFor .any ops t i)
      | none => false
    | none => false)
structure Draw2Ok (ops : Array Oper) (n m : Nat) (ds F : List Nat) : Prop where
  le : n + m ≤ ops.size
  dst : (ops.toList.take (n + m)).map (·.dst) = ds.map some
  nodup : ds.Nodup
  looks : ∀ i o, i < n + m → ops[i]? = some o → ∀ t ∈ o.looksAt ops, ∀ j, j < n + m → ds[j]? = some t → j < i ∧ ∃ e ∈ o.after, Region.binds .any e = true ∧ e.on = j
  lex : ∀ i o, ops[i]? = some o → ∀ e ∈ o.after, Region.binds .any e = true → e.on < i
  allocs : ∀ q, q < m → ∃ o T, ops[n + q]? = some o ∧ o.op = .alloc T ∧ o.guard = none
  sink : n + m < ops.size → ∀ i, i < n + m → i ∉ F → ∃ j, i < j ∧ j ≤ n + m ∧ (j = n + m ∨ j ∉ F) ∧ Region.waitsFor .any ops j i = true
  chain : ∀ t, n + m < t → t < ops.size → Region.waitsFor .any ops t (t - 1) = true
  late : ∀ i ∈ F, i < n ∧ ∃ o, ops[i]? = some o ∧ ∀ t ot, n + m ≤ t → ops[t]? = some ot → ot.dst ≠ o.dst ∧ (∀ x, ot.dst = some x → x ∈ o.looksAt ops → Region.waitsFor .any ops t i = true) ∧ ∀ d, o.dst = some d → d ∈ ot.looksAt ops → Region.waitsFor .any ops t i = true
theorem drawOk2_spec {n m : Nat} {ds F : List Nat} (h : drawOk2 ops n m ds F = true) : Draw2Ok ops n m ds F := by
  simp only [drawOk2, Bool.and_eq_true, decide_eq_true_eq, beq_iff_eq, Bool.or_eq_true] at h
  obtain ⟨⟨⟨⟨⟨⟨⟨⟨h1, h2⟩, h3⟩, h4⟩, h5⟩, h6⟩, h7⟩, h8⟩, h9⟩ := h
  refine ⟨h1, h2, h3, fun i o hi ho t ht j hj hd => ?_, fun i o ho e he hb => ?_, fun q hq => ?_, fun hlt i hi hF => ?_, fun t ht1 ht2 => ?_, fun i hi => ?_⟩
  · have e1 := List.all_eq_true.1 h4 i (List.mem_range.2 hi)
    rw [ho] at e1
    have e2 := List.all_eq_true.1 e1 t ht
    have e3 := List.all_eq_true.1 e2 j (List.mem_range.2 hj)
    simp only [hd, beq_self_eq_true, Bool.not_true, Bool.false_or, Bool.and_eq_true, decide_eq_true_eq] at e3
    obtain ⟨e, he, hb⟩ := Array.any_eq_true'.1 e3.2
    simp only [Bool.and_eq_true, beq_iff_eq] at hb
    exact ⟨e3.1, e, he, hb.1, hb.2⟩
  · have hi : i < ops.size := (Array.getElem?_eq_some_iff.1 ho).1
    have e1 := List.all_eq_true.1 h5 i (List.mem_range.2 hi)
    rw [ho] at e1
    have e2 := Array.all_eq_true_iff_forall_mem.1 e1 e he
    simpa [hb] using e2
  · have e1 := List.all_eq_true.1 h6 q (List.mem_range.2 hq)
    split at e1
    · rename_i o ho
      split at e1
      · rename_i T hop
        exact ⟨o, T, ho, hop, by simpa using e1⟩
      · cases e1
    · cases e1
  · rcases h7 with h7 | h7
    · omega
    · have e1 := List.all_eq_true.1 h7 i (List.mem_range.2 hi)
      simp only [Bool.or_eq_true] at e1
      rcases e1 with e1 | e1
      · exact absurd (by simpa using e1) hF
      · obtain ⟨j, hj, hj2⟩ := List.any_eq_true.1 e1
        simp only [Bool.and_eq_true, decide_eq_true_eq, Bool.or_eq_true] at hj2
        refine ⟨j, hj2.1.1, by have := List.mem_range.1 hj; omega, hj2.1.2.imp id (fun h => by simpa using h), hj2.2⟩
  · have e1 := List.all_eq_true.1 h8 t (List.mem_range.2 ht2)
    simp only [Bool.or_eq_true, decide_eq_true_eq] at e1
    rcases e1 with e1 | e1
    · omega
    · exact e1
  · have e1 := List.all_eq_true.1 h9 i hi
    simp only [Bool.and_eq_true, decide_eq_true_eq] at e1
    refine ⟨e1.1, ?_⟩
    have e2 := e1.2
    split at e2
    · rename_i o ho
      refine ⟨o, ho, fun t ot ht hot => ?_⟩
      have htl : t < ops.size := (Array.getElem?_eq_some_iff.1 hot).1
      have e3 := List.all_eq_true.1 e2 t (List.mem_range.2 htl)
      rw [hot] at e3
      simp only [Bool.or_eq_true, decide_eq_true_eq, Bool.and_eq_true] at e3
      rcases e3 with e3 | ⟨⟨e3, e4⟩, e5⟩
      · omega
      · refine ⟨by simpa using e3, fun x hx hxm => ?_, fun d hd hdm => ?_⟩
        · rw [hx] at e4
          simp only [Bool.or_eq_true, Bool.not_eq_true', List.contains_eq_mem, decide_eq_false_iff_not] at e4
          rcases e4 with e4 | e4
          · exact absurd hxm e4
          · exact e4
        · rcases e5 with e5 | e5
          · rw [hd] at e5
            simp at e5
            exact absurd hdm e5
          · exact e5
    · cases e2
end
end Go.Pv

