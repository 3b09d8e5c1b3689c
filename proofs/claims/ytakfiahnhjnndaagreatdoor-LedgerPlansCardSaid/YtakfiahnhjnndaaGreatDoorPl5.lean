/- Texts of one hand, gathered: LeI, PvEnd, LeJ, LeK, LeL, LeM, LeN, LeO, LeP, LbD, LbE, LbF, LbG, LbH, LeQ, LeU, LeV, LeT, LeW, LeX, LcE, LeS. -/
import Derived.Test.YtakfiahnhjnndaaGreatDoorPl4
import Derived.Test.YtakfiahnhjnndaaGreatDoorRows
import Derived.WalkKit
import Derived.ProofKit
import Derived.Handy
import Derived.Lay
import Derived.OpenShut
import Derived.Stop.Joined
import Derived.MakeChecks
import Derived.Stop.LaidErr
import Derived.Lib.LaidTab
set_option linter.unusedSectionVars false
set_option linter.unusedSimpArgs false
set_option linter.unusedVariables false
set_option linter.unnecessarySimpa false
set_option maxHeartbeats 2000000
namespace Go.Pv
attribute [local irreducible] PWP POps PQuiet PSem XThen XBlock RetPost InlPost
open Go.Proofs
def eSets (l : List SSet) : List PV := [.sl (l.map eSet)]
def allE (ls : List (List SSet)) : Int := fstE ls fun _ l => setsE l
def SaneS (l : List SSet) : Prop := l.length ≤ 1000000 ∧ ∀ x ∈ l, x.value.length ≤ 1000000
set_option maxRecDepth 20000 in
theorem checkAll_ret (ls : List (List SSet)) (hn : ls.length ≤ 1000) (h : ∀ l ∈ ls, SaneS l) : Ret Tryz.prog .shared 81 [.sl (ls.map eSets)] (I (allE ls)) := by
  have hll : ((ls.map eSets).length : Int) = ls.length := by simp
  rw [allE]
  refine Ret.of_pwp layOk mixed Go.Proofs.Tryz.func81 rfl (by decide) rfl rfl ?_
  repeat (refine stp rfl ?_ ?_;·repeat' constructor)
  rw [hll]
  refine pw_loop (ClearE ls (fun _ l => setsE l)) (fun k => [(7, I ls.length), (6, .sl (ls.map eSets)), (8, I k)]) (fun _ => []) (fun k => ls.length - k) 0 .zero' ⟨rfl, rfl, rfl, trivial⟩ ?_
  intro k st hk
  repeat (refine stp rfl ?_ ?_;·repeat' constructor)
  refine pw_cond rfl (fun h => ?_) (fun h => ?_)
  · have hlt : k < ls.length := by have := of_decide_eq_true h; omega
    clear h
    obtain ⟨l, hx⟩ := get_lt hlt
    have hs := ‹∀ l ∈ ls, SaneS l› l (List.mem_of_getElem? hx)
    have hc := checkSets_ret l hs.1 hs.2
    repeat (refine stp rfl ?_ ?_;·repeat' constructor)
    apply qst;exact rfl;exact rfl;exact q_idxm rfl rfl rfl rfl rfl (by omega) hx rfl
    repeat (refine stp rfl ?_ ?_;·repeat' constructor)
    apply qst;exact rfl;exact rfl;exact q_callP rfl (hc) rfl (by repeat' constructor) rfl rfl
    generalize he : setsE l = e
    repeat (refine stp rfl ?_ ?_;·repeat' constructor)
    refine pw_cond rfl (fun h => ?_) (fun h => ?_)
    · have hne : e ≠ 0 := by simpa using h
      repeat (refine stp rfl ?_ ?_;·repeat' constructor)
      exact end1i rfl rfl (by rw [hk.found hx he hne])
    · have h0 : e = 0 := by simpa using h
      repeat (refine stp rfl ?_ ?_;·repeat' constructor)
      exact ⟨k + 1, hk.succ hx (by rw [he]; exact h0), by omega, rfl, rfl, i64_next (by omega) (by omega), trivial⟩
  · repeat (refine stp rfl ?_ ?_;·repeat' constructor)
    exact end1i rfl rfl (by rw [hk.none (by have := of_decide_eq_false h; omega)])
end Go.Pv


namespace Go.Pv
open Go.RowKit
variable [Globs]
section
variable {L : Lay} {s : St} {fn : Func} {r : PV}
end
end Go.Pv


set_option maxHeartbeats 2000000
namespace Go.Pv
attribute [local irreducible] PWP POps PQuiet PSem XThen XBlock RetPost InlPost
open Go.Proofs
theorem tvT : eqT Tryz.prog 156 [.str, .bool] = true := by kernel_rfl
theorem tvZ : zagg Tryz.prog 156 [.str [], .bool false] = true := by kernel_rfl
theorem leq_tv (x y : TV) : leqs [.str, .bool] [.str x.1, .bool x.2] [.str y.1, .bool y.2] = some (decide (x = y)) := by
  have : decide (x = y) = (decide (x.1 = y.1) && (decide (x.2 = y.2) && true)) := by
    rw [Bool.and_true, ← Bool.decide_and, decide_eq_decide]
    constructor
    · rintro rfl; exact ⟨rfl, rfl⟩
    · rintro ⟨h1, h2⟩; exact Prod.ext h1 h2
  rw [this]; rfl
theorem tset_len (k : Str) (v : TV) : ∀ t : Tb, (tset k v t).length ≤ t.length + 1
  | [] => by simp [tset]
  | (e, c) :: t => by
    have := tset_len k v t
    rw [tset]; split <;> simp <;> omega
theorem tabOf_len (l : List SSet) : (tabOf l).length ≤ l.length := by
  have : ∀ (l : List SSet) (t : Tb), (l.foldl (fun t x => tset x.key (x.value, true) t) t).length ≤ t.length + l.length := by
    intro l
    induction l with
    | nil => exact fun t => by simp
    | cons x l ih =>
      intro t
      have h1 := ih (tset x.key (x.value, true) t)
      have h2 := tset_len x.key (x.value, true) t
      simp only [List.foldl_cons, List.length_cons]; omega
  have := this l []
  rw [List.length_nil, Nat.zero_add] at this
  exact this
theorem keysP_len (ts : List Tb) : (keysP ts).length ≤ (allK ts).length := by
  have := compact_len (sortS (allK ts))
  rw [sortS, List.length_mergeSort] at this
  exact this
theorem q_look3 {s : St} {T' : TypeId} {d : Nat} {x y : Operand} {ty : TypeId} {pos : String} {af : Array Edge} {g : Option (Nat × Bool)} {t : Tb} {k : Str} {T : TypeId} {r re : LRow} {E : TypeId} (hT : T' = 156) (hr : lay.get T = some r) (hs : r.sh = .map E T') (hre : lay.get E = some re) (hsh : re.sh = .str) (hx : s.ev x = .mapd (t.map eTb)) (hy : s.ev y = .str k) :
    QOp Tryz.prog lay.get s ⟨some d, .lookup T x y false, ty, pos, af, g⟩ (.agg [.str (tget t k).1, .bool (tget t k).2]) := by
  subst hT
  have := q_lookS (P := Tryz.prog) (L := lay.get) (s := s) (d := d) (x := x) (y := y) (ty := ty) (pos := pos) (af := af) (g := g) (key := .str k) none tvZ hr hs hre rfl hx (by rw [hy]; rfl) (by rw [kkey, hsh]; rfl) (by rw [hsh]; exact keyedG_tb t)
  rwa [mval_tb] at this
theorem eTV_eq (v : TV) : eTV v = .agg [.str v.1, .bool v.2] := rfl
end Go.Pv


set_option maxHeartbeats 2000000
namespace Go.Pv
attribute [local irreducible] PWP POps PQuiet PSem XThen XBlock RetPost InlPost
open Go.Proofs
theorem q_slh2 {P : Program} {L : Lay} {s : St} {d : Nat} {ty : TypeId} {pos : String} {af : Array Edge} {g : Option (Nat × Bool)} {T E : TypeId} {x hi : Operand} {r re : LRow} {α : Type} {enc : α → List PV} {l : List α} {k : IntKind} {n : Int} (hr : L T = some r) (hs : r.sh = .sl E) (hre : L E = some re)
    (hx : s.ev x = .sl (l.map enc)) (hix : s.ev hi = .int k n) (h0 : 0 ≤ n) (hle : n ≤ l.length) (hlen : ∀ a, (enc a).length = re.size) : QOp P L s ⟨some d, .slice T x none (some hi) none, ty, pos, af, g⟩ (.sl ((l.take n.toNat).map enc)) := by
  have := QOp.slh (P := P) (L := L) (s := s) (o := ⟨some d, .slice T x none (some hi) none, ty, pos, af, g⟩) rfl hr hs hre hx hix h0 (by simpa using hle) (by intro row h; obtain ⟨a, _, rfl⟩ := List.mem_map.1 h; exact hlen a)
  rwa [← List.map_take] at this
theorem q_slc2 {P : Program} {L : Lay} {s : St} {d : Nat} {ty : TypeId} {pos : String} {af : Array Edge} {g : Option (Nat × Bool)} {T E : TypeId} {x lo : Operand} {r re : LRow} {α : Type} {enc : α → List PV} {l : List α} {k : IntKind} {n : Int} (hr : L T = some r) (hs : r.sh = .sl E) (hre : L E = some re)
    (hx : s.ev x = .sl (l.map enc)) (hix : s.ev lo = .int k n) (h0 : 0 ≤ n) (hle : n ≤ l.length) (hlen : ∀ a, (enc a).length = re.size) : QOp P L s ⟨some d, .slice T x (some lo) none none, ty, pos, af, g⟩ (.sl ((l.drop n.toNat).map enc)) := by
  have := QOp.slc (P := P) (L := L) (s := s) (o := ⟨some d, .slice T x (some lo) none none, ty, pos, af, g⟩) rfl hr hs hre hx hix h0 (by simpa using hle) (by intro row h; obtain ⟨a, _, rfl⟩ := List.mem_map.1 h; exact hlen a)
  rwa [← List.map_drop] at this
theorem Ghost.toSl {s : St} {t : Nat} {rows : List (List PV)} (hr : s.reg t = .fsl rows) : Ghost s (s.putR t (.sl rows)) := by
  intro C a w hX ⟨γ, h⟩
  refine ⟨γ, h.defers, h.size, fun r => ?_, h.sites, h.inj, h.base, h.below, h.top, h.kept⟩
  show Rep _ (bif Nat.beq r t then _ else s.reg r) _
  by_cases hrt : r = t
  · subst hrt
    have hp := h.regs r
    rw [hr] at hp
    simp only [Nat.beq_refl, cond_true]
    cases hp with
    | d hd => cases hd
    | fsl hd => exact .d (hd.weaken envOf_okfok)
  · rw [nbeq_ne hrt]; exact h.regs r
theorem Ghost.takeL {s : St} {k g t n kd sz : Nat} {T : TypeId} {rows : List (List PV)} {α : Type} {enc : α → List PV} (l : List α) (ho : s.own k = (g, some ⟨T, sz, rows, kd⟩)) (hr : s.reg t = .als k g 0 n) (he : rows = l.map enc) (hn : n = rows.length) (hpl : ∀ x, (enc x).all plain1 = true) :
    Ghost s ((s.setOwn k (g + 1) none).putR t (.sl (l.map enc))) := by
  intro C a w hX ⟨γ, h⟩
  subst hn
  subst he
  obtain ⟨h1, hle, _⟩ := h.drop hX ho
  refine ⟨γ, h1.defers, h1.size, fun r => ?_, h1.sites, h1.inj, h1.base, h1.below, h1.top, h1.kept⟩
  show Rep _ (bif Nat.beq r t then _ else (s.setOwn k (g + 1) none).reg r) _
  by_cases hrt : r = t
  · subst hrt
    have hp := h.regs r
    rw [hr] at hp
    simp only [Nat.beq_refl, cond_true]
    refine .d ?_
    rcases h.als_at hp ho with ⟨q1, _, q3, q4⟩ | ⟨b, cap, cur, q1, q2, q3, q4, q5, q6, q7⟩
    · have : l.map enc = [] := (h.sites k _ (by rw [ho])).emp q1
      rw [this, q4]
      exact .sl0 _ _
    · obtain ⟨cur', g1, g2, g3, g4, g5⟩ := h.site_at ho q1 (h.cells_sz ho q1 q3)
      have hb : (envOf C γ (s.setOwn k (g + 1) none) w).ok b := by
        have hbase := h.base k _ b (by rw [ho]) q1
        refine ⟨hbase.2, fun hx => ?_, fun k' c' hc' hb' => ?_⟩
        · have := hX b hx; omega
        · by_cases hk' : k' = k
          · subst hk'; rw [setOwn_same] at hc'; cases hc'
          · rw [setOwn_ne hk'] at hc'
            exact hk' (h.inj k' k c' _ b hc' (by rw [ho]) hb' q1)
      rw [q2]
      simp only [Nat.zero_mul]
      refine .sl (l.map enc) b 0 cap sz (fun i j => cur'.getD (i * sz + j) undef) hb g2 q4 g4 (fun i j row pv e1 e2 => ?_) (fun i j row pv e1 e2 => ?_)
      · obtain ⟨u, f1, f2, _⟩ := g5 i j row pv e1 e2
        have g1 : w.heap[b]? = some (.cells cur' T (0, 0)) := g1
        show w.cell? _ = _ ∧ _
        rw [cell_of_cells g1, Nat.zero_add, f1]
        simp [f1, f2]
      · obtain ⟨u, f1, _, f3⟩ := g5 i j row pv e1 e2
        have hu : cur'.getD (i * sz + j) undef = u := by simp [f1]
        simp only [hu]
        rw [List.getElem?_map, Option.map_eq_some_iff] at e1
        obtain ⟨y, _, rfl⟩ := e1
        have hpv := List.all_eq_true.1 (hpl y) _ (List.mem_of_getElem? e2)
        rw [plain_val hpv (f3.rep envOf_okfok)]
        exact (plain_drep hpv _ _).1
  · rw [nbeq_ne hrt]; exact h1.regs r
theorem Ghost.nilfs {s : St} {t : Nat} (hr : s.reg t = .nil) : Ghost s (s.putR t (.fsl [])) := by
  intro C a w hX ⟨γ, h⟩
  refine ⟨γ, h.defers, h.size, fun r => ?_, h.sites, h.inj, h.base, h.below, h.top, h.kept⟩
  show Rep _ (bif Nat.beq r t then _ else s.reg r) _
  by_cases hrt : r = t
  · subst hrt
    have hp := h.regs r
    rw [hr] at hp
    simp only [Nat.beq_refl, cond_true]
    rw [hp.nil_inv]
    exact .fsl (.sl0 _ _)
  · rw [nbeq_ne hrt]; exact h.regs r
theorem Ghost.takeF {s : St} {k g t n kd sz : Nat} {T : TypeId} {rows : List (List PV)} {α : Type} {enc : α → List PV} (l : List α) (ho : s.own k = (g, some ⟨T, sz, rows, kd⟩)) (hr : s.reg t = .als k g 0 n) (he : rows = l.map enc) (hn : n = rows.length) (hpl : ∀ x, (enc x).all plain1 = true) :
    Ghost s ((s.setOwn k (g + 1) none).putR t (.fsl (l.map enc))) := by
  intro C a w hX ⟨γ, h⟩
  subst hn
  subst he
  obtain ⟨h1, hle, _⟩ := h.drop hX ho
  refine ⟨γ, h1.defers, h1.size, fun r => ?_, h1.sites, h1.inj, h1.base, h1.below, h1.top, h1.kept⟩
  show Rep _ (bif Nat.beq r t then _ else (s.setOwn k (g + 1) none).reg r) _
  by_cases hrt : r = t
  · subst hrt
    have hp := h.regs r
    rw [hr] at hp
    simp only [Nat.beq_refl, cond_true]
    refine .fsl ?_
    rcases h.als_at hp ho with ⟨q1, _, q3, q4⟩ | ⟨b, cap, cur, q1, q2, q3, q4, q5, q6, q7⟩
    · have : l.map enc = [] := (h.sites k _ (by rw [ho])).emp q1
      rw [this, q4]
      exact .sl0 _ _
    · obtain ⟨cur', g1, g2, g3, g4, g5⟩ := h.site_at ho q1 (h.cells_sz ho q1 q3)
      have hb : (envOf C γ (s.setOwn k (g + 1) none) w).okf b := by
        have hbase := h.base k _ b (by rw [ho]) q1
        refine ⟨hbase.1, hbase.2, fun hx => ?_, fun k' c' hc' hb' => ?_⟩
        · have := hX b hx; omega
        · by_cases hk' : k' = k
          · subst hk'; rw [setOwn_same] at hc'; cases hc'
          · rw [setOwn_ne hk'] at hc'
            exact hk' (h.inj k' k c' _ b hc' (by rw [ho]) hb' q1)
      rw [q2]
      simp only [Nat.zero_mul]
      refine .sl (l.map enc) b 0 cap sz (fun i j => cur'.getD (i * sz + j) undef) hb g2 q4 g4 (fun i j row pv e1 e2 => ?_) (fun i j row pv e1 e2 => ?_)
      · obtain ⟨u, f1, f2, _⟩ := g5 i j row pv e1 e2
        have g1 : w.heap[b]? = some (.cells cur' T (0, 0)) := g1
        show w.cell? _ = _ ∧ _
        rw [cell_of_cells g1, Nat.zero_add, f1]
        simp [f1, f2]
      · obtain ⟨u, f1, _, f3⟩ := g5 i j row pv e1 e2
        have hu : cur'.getD (i * sz + j) undef = u := by simp [f1]
        simp only [hu]
        rw [List.getElem?_map, Option.map_eq_some_iff] at e1
        obtain ⟨y, _, rfl⟩ := e1
        have hpv := List.all_eq_true.1 (hpl y) _ (List.mem_of_getElem? e2)
        rw [plain_val hpv (f3.rep envOf_okfok)]
        exact (plain_drep hpv _ _).1
  · rw [nbeq_ne hrt]; exact h1.regs r
def atK (out : List Str) (key : Str) : Nat := (out.takeWhile fun s => Op.bytesLess s key).length
def insK (out : List Str) (key : Str) : List Str := if out[atK out key]? = some key then out else out.take (atK out key) ++ [key] ++ out.drop (atK out key)
def insL (out : List Str) (l : List SSet) : List Str := l.foldl (fun o x => insK o x.key) out
def keysR (ls : List (List SSet)) : List Str := ls.foldl insL []
theorem insL_snoc (out : List Str) (l : List SSet) (x : SSet) : insL out (l ++ [x]) = insK (insL out l) x.key := by rw [insL, List.foldl_append]; rfl
theorem keysR_snoc (ls : List (List SSet)) (l : List SSet) : keysR (ls ++ [l]) = insL (keysR ls) l := by rw [keysR, List.foldl_append]; rfl
theorem insK_len (out : List Str) (key : Str) : (insK out key).length ≤ out.length + 1 := by
  rw [insK]
  split
  · omega
  · simp; omega
theorem insL_len (l : List SSet) : ∀ out : List Str, (insL out l).length ≤ out.length + l.length := by
  induction l with
  | nil => intro out; simp [insL]
  | cons x l ih =>
    intro out
    have h1 := ih (insK out x.key)
    have h2 := insK_len out x.key
    rw [insL] at h1 ⊢
    rw [List.foldl_cons, List.length_cons]; omega
theorem keysR_len {ls : List (List SSet)} (h : ∀ l ∈ ls, l.length ≤ 1000) (k : Nat) : (keysR (ls.take k)).length ≤ 1000 * k := by
  induction k with
  | zero => simp [keysR]
  | succ k ih =>
    rcases Nat.lt_or_ge k ls.length with hk | hk
    · have hx : ls[k]? = some ls[k] := List.getElem?_eq_getElem hk
      rw [take_snoc hx, keysR_snoc]
      have h1 := insL_len ls[k] (keysR (ls.take k))
      have h2 := h ls[k] (List.getElem_mem hk)
      omega
    · rw [List.take_of_length_le (by omega)] at ih ⊢; omega
theorem atK_at {key : Str} : ∀ {out : List Str} {n : Nat}, n ≤ out.length → (∀ i x, i < n → out[i]? = some x → Op.bytesLess x key = true) → (∀ x, out[n]? = some x → Op.bytesLess x key = false) → atK out key = n
  | [], n, h, _, _ => by simp at h; subst h; rfl
  | x :: out, 0, _, _, h2 => by
    have := h2 x rfl
    simp [atK, this]
  | x :: out, n + 1, h, h1, h2 => by
    have hx := h1 0 x (by omega) rfl
    have ih := atK_at (out := out) (n := n) (by simpa using h) (fun i y hi hy => h1 (i + 1) y (by omega) (by simpa using hy)) (fun y hy => h2 y (by simpa using hy))
    simp only [atK] at ih ⊢
    rw [List.takeWhile_cons, if_pos hx, List.length_cons, ih]
set_option maxRecDepth 20000 in
theorem keys_refF (ls : List (List SSet)) (hn : ls.length ≤ 100) (hb : ∀ l ∈ ls, l.length ≤ 1000) : Ret Tryz.prog .fresh 34 [.sl (ls.map eSets)] (.sl ((keysR ls).map eS)) := by
  have hll : ((ls.map eSets).length : Int) = ls.length := by simp
  refine Ret.of_pwp layOk mixed Go.Proofs.Tryz.func34 rfl (by decide) rfl rfl ?_
  ((repeat (first | refine ps_nil ?_ | refine pq_nil ?_ | refine x_norm ?_ | refine pw_seq ?_)); refine pw_region ?_)
  refine ps_v rfl trivial ?_
  ((repeat (first | refine ps_nil ?_ | refine pq_nil ?_ | refine x_norm ?_ | refine pw_seq ?_)); refine pw_region ?_)
  refine ps_v rfl trivial ?_
  refine ps_nil ?_
  refine x_norm ?_
  refine pw_ghost (Ghost.nilfs (t := 3) rfl) ?_
  repeat (refine stp rfl ?_ ?_;·repeat' constructor)
  refine pw_loop (fun i => i ≤ ls.length) (fun i => [(0, .sl (ls.map eSets)), (3, .fsl ((keysR (ls.take i)).map eS)), (4, I i)]) (fun _ => []) (fun i => ls.length - i) 0 (Nat.zero_le _) ⟨rfl, rfl, rfl, trivial⟩ ?_
  intro i s hi
  repeat (refine stp rfl ?_ ?_;·repeat' constructor)
  rw [hll]
  refine pw_cond rfl (fun h => ?_) (fun h => ?_)
  · have hlt : i < ls.length := by have := of_decide_eq_true h; omega
    clear h
    obtain ⟨l, hl⟩ := get_lt hlt
    have hl1 := hb l (List.mem_of_getElem? hl)
    have ho1 := keysR_len hb i
    have hks : keysR (ls.take (i + 1)) = insL (keysR (ls.take i)) l := by rw [take_snoc hl, keysR_snoc]
    have hml : ((l.map eSet).length : Int) = l.length := by simp
    generalize keysR (ls.take i) = O at *
    repeat (refine stp rfl ?_ ?_;·repeat' constructor)
    refine pw_loop (fun j => j ≤ l.length) (fun j => [(0, .sl (ls.map eSets)), (3, .fsl ((insL O (l.take j)).map eS)), (4, I i), (5, I j)]) (fun _ => []) (fun j => l.length - j) 0 (Nat.zero_le _) ⟨rfl, rfl, rfl, rfl, trivial⟩ ?_
    intro j s2 hj
    have ho2 := insL_len (l.take j) O
    rw [List.length_take] at ho2
    repeat (refine stp rfl ?_ ?_;·repeat' constructor)
    apply qst;exact rfl;exact rfl;exact q_idxm rfl rfl rfl rfl rfl (by omega) hl rfl
    repeat (refine stp rfl ?_ ?_;·repeat' constructor)
    rw [hml]
    refine pw_cond rfl (fun h => ?_) (fun h => ?_)
    · have hjlt : j < l.length := by have := of_decide_eq_true h; omega
      clear h
      obtain ⟨x, hx⟩ := get_lt hjlt
      have hks2 : insL O (l.take (j + 1)) = insK (insL O (l.take j)) x.key := by rw [take_snoc hx, insL_snoc]
      generalize insL O (l.take j) = U at *
      have hul : ((U.map eS).length : Int) = U.length := by simp
      repeat (refine stp rfl ?_ ?_;·repeat' constructor)
      refine pw_loop (fun n => n ≤ U.length ∧ ∀ i y, i < n → U[i]? = some y → Op.bytesLess y x.key = true) (fun n => [(0, .sl (ls.map eSets)), (3, .fsl (U.map eS)), (4, I i), (5, I j), (6, I n)]) (fun _ => []) (fun n => U.length - n) 0 ⟨Nat.zero_le _, fun i y h => by omega⟩ ⟨rfl, rfl, rfl, rfl, rfl, trivial⟩ ?_
      rintro n s3 ⟨hnl, hpre⟩
      have fin : (∀ y, U[n]? = some y → Op.bytesLess y x.key = false) → atK U x.key = n := atK_at hnl hpre
      repeat (refine stp rfl ?_ ?_;·repeat' constructor)
      refine pw_draw 19 [22, 23, 24, 25, 26, 27, 28, 29, 30, 31, 32, 33, 34, 35, 36, 37, 38, 39, 40] (by decide +kernel) ?_
      repeat (refine stp rfl ?_ ?_;·repeat' constructor)
      rw [hul]
      (first | refine ps_split rfl rfl (fun h => ?_) (fun h => ?_) | refine pq_split rfl rfl (fun h => ?_) (fun h => ?_) | refine p3_split rfl rfl (fun h => ?_) (fun h => ?_))
      · have hnlt : n < U.length := by have := of_decide_eq_true h; omega
        clear h
        obtain ⟨y, hy⟩ := get_lt hnlt
        repeat (refine stp rfl ?_ ?_;·repeat' constructor)
        apply qst;exact rfl;exact rfl;exact q_idxmF rfl rfl rfl rfl rfl (by omega) hy rfl
        repeat (refine stp rfl ?_ ?_;·repeat' constructor)
        apply qst;exact rfl;exact rfl;exact q_idxm rfl rfl rfl rfl rfl (by omega) hl rfl
        repeat (refine stp rfl ?_ ?_;·repeat' constructor)
        apply qst;exact rfl;exact rfl;exact q_idxm rfl rfl rfl rfl rfl (by omega) hx rfl
        repeat (refine stp rfl ?_ ?_;·repeat' constructor)
        refine pw_cond rfl (fun h => ?_) (fun h => ?_)
        · repeat (refine stp rfl ?_ ?_;·repeat' constructor)
          refine ⟨n + 1, ⟨hnlt, fun i z hi hz => ?_⟩, by omega, rfl, rfl, rfl, rfl, i64_next (by omega) (by omega), trivial⟩
          by_cases hin : i = n
          · subst hin; rw [hy] at hz; cases hz; exact h
          · exact hpre i z (by omega) hz
        · have hat := fin (fun z hz => by rw [hy] at hz; cases hz; exact h)
          repeat (refine stp rfl ?_ ?_;·repeat' constructor)
          refine pw_draw 19 [43, 44, 45, 46, 47, 48, 49, 50, 51, 52, 53, 54, 55, 56, 57, 58, 59, 60, 61] (by decide +kernel) ?_
          repeat (refine stp rfl ?_ ?_;·repeat' constructor)
          rw [hul]
          (first | refine ps_split rfl rfl (fun h => ?_) (fun h => ?_) | refine pq_split rfl rfl (fun h => ?_) (fun h => ?_) | refine p3_split rfl rfl (fun h => ?_) (fun h => ?_))
          · clear h
            repeat (refine stp rfl ?_ ?_;·repeat' constructor)
            apply qst;exact rfl;exact rfl;exact q_idxmF rfl rfl rfl rfl rfl (by omega) hy rfl
            repeat (refine stp rfl ?_ ?_;·repeat' constructor)
            apply qst;exact rfl;exact rfl;exact q_idxm rfl rfl rfl rfl rfl (by omega) hl rfl
            repeat (refine stp rfl ?_ ?_;·repeat' constructor)
            apply qst;exact rfl;exact rfl;exact q_idxm rfl rfl rfl rfl rfl (by omega) hx rfl
            repeat (refine stp rfl ?_ ?_;·repeat' constructor)
            refine pw_cond rfl (fun h => ?_) (fun h => ?_)
            · have hyx : y = x.key := by simpa using h
              clear h
              have hi0 : insK U x.key = U := by rw [insK, hat, hy, hyx, if_pos rfl]
              repeat (refine stp rfl ?_ ?_;·repeat' constructor)
              exact ⟨j + 1, hjlt, by omega, rfl, by rw [hks2, hi0]; rfl, rfl, i64_next (by omega) (by omega), trivial⟩
            · have hyx : ¬ y = x.key := by simpa using h
              clear h
              have hi0 : insK U x.key = U.take n ++ [x.key] ++ U.drop n := by rw [insK, hat, hy, if_neg (by simpa using hyx)]
              repeat (refine stp rfl ?_ ?_;·repeat' constructor)
              refine pw_ghost (Ghost.toSl (t := 3) rfl) ?_
              refine pw_draw3 [62] [0, 4, 14, 18] (by decide +kernel) ?_
              repeat (refine stp rfl ?_ ?_;·repeat' constructor)
              refine z3e rfl rfl rfl (o_slit 0 rfl rfl rfl rfl rfl rfl rfl rfl rfl rfl rfl (by repeat' constructor) rfl ⟨offz rfl, ?_⟩)
              repeat (refine stp rfl ?_ ?_;·repeat' constructor)
              apply qst;exact rfl;exact rfl;exact q_slh2 (n := (n : Int)) rfl rfl rfl rfl rfl (by omega) (by omega) (fun _ => rfl)
              repeat (refine stp rfl ?_ ?_;·repeat' constructor)
              refine z3e rfl rfl rfl (o_app 2 rfl rfl rfl rfl rfl rfl rfl rfl rfl rfl rfl (by repeat' constructor) (by intro row hr; obtain ⟨_, _, rfl⟩ := List.mem_map.1 hr; rfl) rfl rfl (by simp; omega) (by simp; omega) ⟨offz rfl, ?_⟩)
              repeat (refine stp rfl ?_ ?_;·repeat' constructor)
              apply qst;exact rfl;exact rfl;exact q_idxm rfl rfl rfl rfl rfl (by omega) hl rfl
              repeat (refine stp rfl ?_ ?_;·repeat' constructor)
              apply qst;exact rfl;exact rfl;exact q_idxm rfl rfl rfl rfl rfl (by omega) hx rfl
              repeat (refine stp rfl ?_ ?_;·repeat' constructor)
              apply qst;exact rfl;exact rfl;exact q_slit rfl rfl rfl rfl rfl rfl rfl rfl rfl rfl (by repeat' constructor) rfl
              repeat (refine stp rfl ?_ ?_;·repeat' constructor)
              refine z3e rfl rfl rfl (o_app 2 rfl rfl rfl rfl rfl rfl rfl rfl rfl rfl rfl (by repeat' constructor) (by intro row hr; first | (simp at hr; subst hr; rfl) | (simp at hr; obtain ⟨_, _, rfl⟩ := hr; rfl) | simp at hr) rfl rfl (by simp; omega) (by simp; omega) ⟨offz rfl, ?_⟩)
              repeat (refine stp rfl ?_ ?_;·repeat' constructor)
              apply qst;exact rfl;exact rfl;exact q_slc2 (n := (n : Int)) rfl rfl rfl rfl rfl (by omega) (by omega) (fun _ => rfl)
              repeat (refine stp rfl ?_ ?_;·repeat' constructor)
              refine z3e rfl rfl rfl (o_app 2 rfl rfl rfl rfl rfl rfl rfl rfl rfl rfl rfl (by repeat' constructor) (by intro row hr; obtain ⟨_, _, rfl⟩ := List.mem_map.1 hr; rfl) rfl rfl (by simp; omega) (by simp; omega) ⟨offz rfl, ?_⟩)
              iterate 2 (refine stp rfl ?_ ?_;·repeat' constructor)
              repeat (first | refine pw_exit ?_ | refine pw_skip ?_ | refine x_norm ?_ | refine x_exit ?_ | refine xb_norm ?_ | refine xb_here ?_ | refine xb_away rfl ?_)
              refine pw_ghost (Ghost.takeF (k := 62) (t := 3) (insK U x.key) rfl rfl (by rw [hi0, List.map_append, List.map_append]; rfl) rfl eS_plain) ?_
              repeat (refine stp rfl ?_ ?_;·repeat' constructor)
              exact ⟨j + 1, hjlt, by omega, rfl, by rw [hks2]; rfl, rfl, i64_next (by omega) (by omega), trivial⟩
          · exact absurd h (by simp; omega)
      · have hge : n = U.length := by have := of_decide_eq_false h; omega
        clear h
        have hat : atK U x.key = n := fin (fun z hz => by have := (List.getElem?_eq_some_iff.1 hz).1; omega)
        have hi0 : insK U x.key = U.take n ++ [x.key] ++ U.drop n := by rw [insK, hat, List.getElem?_eq_none (by omega), if_neg (by simp)]
        repeat (refine stp rfl ?_ ?_;·repeat' constructor)
        refine pw_draw 19 [43, 44, 45, 46, 47, 48, 49, 50, 51, 52, 53, 54, 55, 56, 57, 58, 59, 60, 61] (by decide +kernel) ?_
        repeat (refine stp rfl ?_ ?_;·repeat' constructor)
        rw [hul]
        (first | refine ps_split rfl rfl (fun h => ?_) (fun h => ?_) | refine pq_split rfl rfl (fun h => ?_) (fun h => ?_) | refine p3_split rfl rfl (fun h => ?_) (fun h => ?_))
        · exact absurd h (by simp; omega)
        · clear h
          repeat (refine stp rfl ?_ ?_;·repeat' constructor)
          refine pw_ghost (Ghost.toSl (t := 3) rfl) ?_
          refine pw_draw3 [62] [0, 4, 14, 18] (by decide +kernel) ?_
          repeat (refine stp rfl ?_ ?_;·repeat' constructor)
          refine z3e rfl rfl rfl (o_slit 0 rfl rfl rfl rfl rfl rfl rfl rfl rfl rfl rfl (by repeat' constructor) rfl ⟨offz rfl, ?_⟩)
          repeat (refine stp rfl ?_ ?_;·repeat' constructor)
          apply qst;exact rfl;exact rfl;exact q_slh2 (n := (n : Int)) rfl rfl rfl rfl rfl (by omega) (by omega) (fun _ => rfl)
          repeat (refine stp rfl ?_ ?_;·repeat' constructor)
          refine z3e rfl rfl rfl (o_app 2 rfl rfl rfl rfl rfl rfl rfl rfl rfl rfl rfl (by repeat' constructor) (by intro row hr; obtain ⟨_, _, rfl⟩ := List.mem_map.1 hr; rfl) rfl rfl (by simp; omega) (by simp; omega) ⟨offz rfl, ?_⟩)
          repeat (refine stp rfl ?_ ?_;·repeat' constructor)
          apply qst;exact rfl;exact rfl;exact q_idxm rfl rfl rfl rfl rfl (by omega) hl rfl
          repeat (refine stp rfl ?_ ?_;·repeat' constructor)
          apply qst;exact rfl;exact rfl;exact q_idxm rfl rfl rfl rfl rfl (by omega) hx rfl
          repeat (refine stp rfl ?_ ?_;·repeat' constructor)
          apply qst;exact rfl;exact rfl;exact q_slit rfl rfl rfl rfl rfl rfl rfl rfl rfl rfl (by repeat' constructor) rfl
          repeat (refine stp rfl ?_ ?_;·repeat' constructor)
          refine z3e rfl rfl rfl (o_app 2 rfl rfl rfl rfl rfl rfl rfl rfl rfl rfl rfl (by repeat' constructor) (by intro row hr; first | (simp at hr; subst hr; rfl) | (simp at hr; obtain ⟨_, _, rfl⟩ := hr; rfl) | simp at hr) rfl rfl (by simp; omega) (by simp; omega) ⟨offz rfl, ?_⟩)
          repeat (refine stp rfl ?_ ?_;·repeat' constructor)
          apply qst;exact rfl;exact rfl;exact q_slc2 (n := (n : Int)) rfl rfl rfl rfl rfl (by omega) (by omega) (fun _ => rfl)
          repeat (refine stp rfl ?_ ?_;·repeat' constructor)
          refine z3e rfl rfl rfl (o_app 2 rfl rfl rfl rfl rfl rfl rfl rfl rfl rfl rfl (by repeat' constructor) (by intro row hr; obtain ⟨_, _, rfl⟩ := List.mem_map.1 hr; rfl) rfl rfl (by simp; omega) (by simp; omega) ⟨offz rfl, ?_⟩)
          iterate 2 (refine stp rfl ?_ ?_;·repeat' constructor)
          repeat (first | refine pw_exit ?_ | refine pw_skip ?_ | refine x_norm ?_ | refine x_exit ?_ | refine xb_norm ?_ | refine xb_here ?_ | refine xb_away rfl ?_)
          refine pw_ghost (Ghost.takeF (k := 62) (t := 3) (insK U x.key) rfl rfl (by rw [hi0, List.map_append, List.map_append]; rfl) rfl eS_plain) ?_
          repeat (refine stp rfl ?_ ?_;·repeat' constructor)
          exact ⟨j + 1, hjlt, by omega, rfl, by rw [hks2]; rfl, rfl, i64_next (by omega) (by omega), trivial⟩
    · have hge : j = l.length := by have := of_decide_eq_false h; omega
      subst hge
      repeat (refine stp rfl ?_ ?_;·repeat' constructor)
      exact ⟨i + 1, hlt, by omega, rfl, by rw [hks, List.take_length]; rfl, i64_next (by omega) (by omega), trivial⟩
  · have hge : i = ls.length := by have := of_decide_eq_false h; omega
    subst hge
    rw [List.take_length]
    repeat (refine stp rfl ?_ ?_;·repeat' constructor)
    exact end1f rfl rfl rfl trivial rfl
end Go.Pv


set_option maxHeartbeats 2000000
namespace Go.Pv
attribute [local irreducible] PWP POps PQuiet PSem XThen XBlock RetPost InlPost
open Go.Proofs
theorem findS_at {key : Str} : ∀ {l : List SSet} {k : Nat} {x : SSet}, (∀ i y, i < k → l[i]? = some y → ¬ y.key = key) → l[k]? = some x → x.key = key → findS l key = (x.value, true)
  | [], _, _, _, h, _ => by simp at h
  | y :: l, 0, x, _, h, hk => by simp at h; subst h; rw [findS, if_pos hk]
  | y :: l, k + 1, x, h, hx, hk => by
    rw [findS, if_neg (h 0 y (Nat.succ_pos k) rfl)]
    exact findS_at (fun i z hi hz => h (i + 1) z (Nat.succ_lt_succ hi) (by simpa using hz)) (by simpa using hx) hk
theorem findS_none {key : Str} : ∀ {l : List SSet}, (∀ y ∈ l, ¬ y.key = key) → findS l key = tz
  | [], _ => rfl
  | y :: l, h => by rw [findS, if_neg (h y (.head _)), findS_none fun z hz => h z (.tail _ hz)]
def tvR (v : TV) : PV := .tup [.str v.1, .bool v.2]
theorem find_ref (l : List SSet) (key : Str) (hl : l.length ≤ 1000000) : Ret Tryz.prog .shared 35 [.sl (l.map eSet), .str key] (tvR (findS l key)) := by
  have hll : ((l.map eSet).length : Int) = l.length := by simp
  refine Ret.of_pwp layOk mixed Go.Proofs.Tryz.func35 rfl (by decide) rfl rfl ?_
  repeat (refine stp rfl ?_ ?_;·repeat' constructor)
  refine pw_loop (fun k => k ≤ l.length ∧ ∀ i y, i < k → l[i]? = some y → ¬ y.key = key) (fun k => [(0, .sl (l.map eSet)), (1, .str key), (6, I k)]) (fun _ => []) (fun k => l.length - k) 0 ⟨Nat.zero_le _, fun i y h => by omega⟩ ⟨rfl, rfl, rfl, trivial⟩ ?_
  rintro k s ⟨hk, hpre⟩
  repeat (refine stp rfl ?_ ?_;·repeat' constructor)
  rw [hll]
  refine pw_cond rfl (fun h => ?_) (fun h => ?_)
  · have hlt : k < l.length := by have := of_decide_eq_true h; omega
    clear h
    obtain ⟨x, hx⟩ := get_lt hlt
    repeat (refine stp rfl ?_ ?_;·repeat' constructor)
    apply qst;exact rfl;exact rfl;exact q_idxm rfl rfl rfl rfl rfl (by omega) hx rfl
    repeat (refine stp rfl ?_ ?_;·repeat' constructor)
    refine pw_cond rfl (fun h => ?_) (fun h => ?_)
    · have hxk : x.key = key := by simpa using h
      clear h
      repeat (refine stp rfl ?_ ?_;·repeat' constructor)
      apply qst;exact rfl;exact rfl;exact q_idxm rfl rfl rfl rfl rfl (by omega) hx rfl
      repeat (refine stp rfl ?_ ?_;·repeat' constructor)
      exact end2 rfl rfl rfl rfl rfl trivial trivial (by rw [findS_at hpre hx hxk]; rfl)
    · have hxk : ¬ x.key = key := by simpa using h
      clear h
      repeat (refine stp rfl ?_ ?_;·repeat' constructor)
      refine ⟨k + 1, ⟨hlt, fun i z hi hz => ?_⟩, by omega, rfl, rfl, i64_next (by omega) (by omega), trivial⟩
      by_cases hin : i = k
      · subst hin; rw [hx] at hz; cases hz; exact hxk
      · exact hpre i z (by omega) hz
  · have hge : k = l.length := by have := of_decide_eq_false h; omega
    subst hge
    repeat (refine stp rfl ?_ ?_;·repeat' constructor)
    refine end2 rfl rfl rfl rfl rfl trivial trivial ?_
    rw [findS_none fun y hy => by obtain ⟨i, hi, rfl⟩ := List.getElem_of_mem hy; exact hpre i _ hi (List.getElem?_eq_getElem hi)]
    rfl
end Go.Pv


set_option maxHeartbeats 2000000
namespace Go.Pv
attribute [local irreducible] PWP POps PQuiet PSem XThen XBlock RetPost InlPost
open Go.Proofs
def asc (l : List Str) : Prop := l.Pairwise (· < ·)
theorem asc_nodup {l : List Str} (h : asc l) : l.Nodup := h.imp fun {a b} hab e => by subst e; exact List.lt_irrefl _ hab
theorem asc_ext {a b : List Str} (ha : asc a) (hb : asc b) (h : ∀ x, x ∈ a ↔ x ∈ b) : a = b := by
  refine List.Perm.eq_of_pairwise (le := fun x y : Str => x < y) ?_ ha hb ((List.perm_ext_iff_of_nodup (asc_nodup ha) (asc_nodup hb)).2 h)
  intro x y _ _ h1 h2
  exact absurd h2 (List.lt_asymm h1)
theorem lt_of_le_ne {a b : Str} (h : a ≤ b) (hn : a ≠ b) : a < b := Decidable.byContradiction fun hc => hn (List.le_antisymm h (List.not_lt.1 hc))
theorem compUp {d : Array Str} (hs : ∀ i j, i ≤ j → j < d.size → d[i]! ≤ d[j]!) : ∀ m, m ≤ d.size → asc (Lib.compactUpTo d m) ∧ ∀ x, x ∈ Lib.compactUpTo d m ↔ ∃ i, i < m ∧ d[i]! = x
  | 0, _ => ⟨.nil, fun x => by simp [Lib.compactUpTo]⟩
  | m + 1, hm => by
    obtain ⟨h1, h2⟩ := compUp hs m (by omega)
    rw [Lib.compactUpTo_succ]
    cases hk : Lib.keeps d m with
    | true =>
      have hk' : m = 0 ∨ d[m]! ≠ d[m - 1]! := of_decide_eq_true hk
      simp only [if_true]
      refine ⟨List.pairwise_append.2 ⟨h1, List.pairwise_singleton .., fun x hx y hy => ?_⟩, fun x => ?_⟩
      · simp at hy; subst hy
        obtain ⟨i, hi, rfl⟩ := (h2 x).1 hx
        refine lt_of_le_ne (hs i m (by omega) (by omega)) fun he => ?_
        rcases hk' with rfl | hne
        · omega
        · have q1 := hs i (m - 1) (by omega) (by omega)
          have q2 := hs (m - 1) m (by omega) (by omega)
          rw [he] at q1
          exact hne (List.le_antisymm q1 q2)
      · rw [List.mem_append, h2]
        constructor
        · rintro (⟨i, hi, rfl⟩ | hx)
          · exact ⟨i, by omega, rfl⟩
          · simp at hx; exact ⟨m, by omega, hx.symm⟩
        · rintro ⟨i, hi, rfl⟩
          by_cases him : i = m
          · subst him; exact .inr (by simp)
          · exact .inl ⟨i, by omega, rfl⟩
    | false =>
      have hk' : ¬ (m = 0 ∨ d[m]! ≠ d[m - 1]!) := of_decide_eq_false hk
      simp only [Bool.false_eq_true, if_false, List.append_nil]
      refine ⟨h1, fun x => ?_⟩
      rw [h2]
      constructor
      · rintro ⟨i, hi, rfl⟩; exact ⟨i, by omega, rfl⟩
      · rintro ⟨i, hi, rfl⟩
        by_cases him : i = m
        · subst him
          have h0 : i ≠ 0 := fun e => hk' (.inl e)
          have he : d[i]! = d[i - 1]! := Decidable.byContradiction fun e => hk' (.inr e)
          exact ⟨i - 1, by omega, he.symm⟩
        · exact ⟨i, by omega, rfl⟩
theorem sortS_le (l : List Str) : (sortS l).Pairwise (· ≤ ·) := by
  have tr : ∀ a b c : Str, decide (a ≤ b) = true → decide (b ≤ c) = true → decide (a ≤ c) = true := fun a b c h1 h2 => by
    simp only [decide_eq_true_eq] at *; exact List.le_trans h1 h2
  have tot : ∀ a b : Str, (decide (a ≤ b) || decide (b ≤ a)) = true := fun a b => by
    simp only [Bool.or_eq_true, decide_eq_true_eq]; exact List.le_total a b
  exact (List.pairwise_mergeSort tr tot l).imp fun h => by simpa using h
theorem keysP_spec (ts : List Tb) : asc (keysP ts) ∧ ∀ x, x ∈ keysP ts ↔ x ∈ allK ts := by
  have hp := sortS_le (allK ts)
  have hs : ∀ i j, i ≤ j → j < (sortS (allK ts)).toArray.size → (sortS (allK ts)).toArray[i]! ≤ (sortS (allK ts)).toArray[j]! := fun i j hij hj => by
    have hj' : j < (sortS (allK ts)).length := by simpa using hj
    have hi' : i < (sortS (allK ts)).toArray.size := by omega
    rw [getElem!_pos (sortS (allK ts)).toArray i hi', getElem!_pos (sortS (allK ts)).toArray j hj]
    rcases Nat.lt_or_ge i j with h | h
    · simpa using List.pairwise_iff_getElem.1 hp i j (by omega) hj' h
    · have : i = j := by omega
      subst this; exact List.le_refl _
  obtain ⟨h1, h2⟩ := compUp hs (sortS (allK ts)).length (by simp)
  refine ⟨h1, fun x => (h2 x).trans ?_⟩
  have hm : x ∈ sortS (allK ts) ↔ x ∈ allK ts := List.mem_mergeSort
  rw [← hm]
  constructor
  · rintro ⟨i, hi, rfl⟩
    rw [getElem!_pos _ _ (by simpa using hi)]
    simp
  · intro hx
    obtain ⟨i, hi, rfl⟩ := List.getElem_of_mem hx
    exact ⟨i, hi, by rw [getElem!_pos _ _ (by simpa using hi)]; simp⟩
theorem insK_spec {o : List Str} (h : asc o) (k : Str) : asc (insK o k) ∧ ∀ x, x ∈ insK o k ↔ x ∈ o ∨ x = k := by
  have hlow : ∀ (o : List Str), ∀ x ∈ o.take (atK o k), x < k := by
    intro o
    induction o with
    | nil => intro x hx; simp at hx
    | cons y o ih =>
      intro x hx
      by_cases hy : Op.bytesLess y k = true
      · have : atK (y :: o) k = atK o k + 1 := by rw [atK, List.takeWhile_cons, if_pos hy]; rfl
        rw [this, List.take_succ_cons] at hx
        rcases List.mem_cons.1 hx with rfl | hx
        · rw [bytesLess_eq] at hy; exact of_decide_eq_true hy
        · exact ih x hx
      · have : atK (y :: o) k = 0 := by rw [atK, List.takeWhile_cons, if_neg hy]; rfl
        rw [this] at hx; simp at hx
  have hat : ∀ (o : List Str) x, o[atK o k]? = some x → k ≤ x := by
    intro o
    induction o with
    | nil => intro x hx; simp at hx
    | cons y o ih =>
      intro x hx
      by_cases hy : Op.bytesLess y k = true
      · have : atK (y :: o) k = atK o k + 1 := by rw [atK, List.takeWhile_cons, if_pos hy]; rfl
        rw [this] at hx
        exact ih x (by simpa using hx)
      · have : atK (y :: o) k = 0 := by rw [atK, List.takeWhile_cons, if_neg hy]; rfl
        rw [this] at hx
        simp at hx; subst hx
        rw [bytesLess_eq] at hy
        exact List.not_lt.1 fun e => hy (decide_eq_true e)
  have hlow := hlow o
  have hat := hat o
  rw [insK]
  generalize atK o k = n at *
  by_cases hk : o[n]? = some k
  · rw [if_pos hk]
    refine ⟨h, fun x => ⟨.inl, ?_⟩⟩
    rintro (hx | rfl)
    · exact hx
    · exact List.mem_of_getElem? hk
  · rw [if_neg hk]
    have hsp : o.take n ++ o.drop n = o := List.take_append_drop n o
    have hp := h
    rw [asc, ← hsp, List.pairwise_append] at hp
    obtain ⟨p1, p2, p3⟩ := hp
    have hhigh : ∀ y ∈ o.drop n, k < y := by
      intro y hy
      obtain ⟨j, hj, rfl⟩ := List.getElem_of_mem hy
      rw [List.length_drop] at hj
      have hn : n < o.length := by omega
      have hx : o[n]? = some o[n] := List.getElem?_eq_getElem hn
      have h1 := hat _ hx
      have h2 : k < o[n] := lt_of_le_ne h1 fun e => hk (by rw [hx, ← e])
      rw [List.getElem_drop]
      rcases Nat.eq_zero_or_pos j with rfl | hj0
      · exact h2
      · exact List.lt_trans h2 (List.pairwise_iff_getElem.1 h n (n + j) hn (by omega) (by omega))
    refine ⟨?_, fun x => ?_⟩
    · rw [asc, List.pairwise_append, List.pairwise_append]
      refine ⟨⟨p1, List.pairwise_singleton .., fun x hx y hy => by simp at hy; subst hy; exact hlow x hx⟩, p2, fun x hx y hy => ?_⟩
      rcases List.mem_append.1 hx with hx | hx
      · exact p3 x hx y hy
      · simp at hx; subst hx; exact hhigh y hy
    · rw [List.mem_append, List.mem_append, ← hsp, List.mem_append]
      simp only [List.mem_singleton, List.take_append_drop]
      constructor
      · rintro ((h | h) | h)
        · exact .inl (.inl h)
        · exact .inr h
        · exact .inl (.inr h)
      · rintro ((h | h) | h)
        · exact .inl (.inl h)
        · exact .inr h
        · exact .inl (.inr h)
theorem insL_spec (l : List SSet) : ∀ {o : List Str}, asc o → asc (insL o l) ∧ ∀ x, x ∈ insL o l ↔ x ∈ o ∨ x ∈ l.map (·.key) := by
  induction l with
  | nil => intro o h; exact ⟨h, fun x => by simp [insL]⟩
  | cons y l ih =>
    intro o h
    obtain ⟨h1, h2⟩ := insK_spec h y.key
    obtain ⟨h3, h4⟩ := ih h1
    refine ⟨h3, fun x => ?_⟩
    have := h4 x
    rw [insL] at this ⊢
    rw [List.foldl_cons, this, h2, List.map_cons, List.mem_cons]
    exact or_assoc
theorem keysR_spec (ls : List (List SSet)) : asc (keysR ls) ∧ ∀ x, x ∈ keysR ls ↔ ∃ l ∈ ls, x ∈ l.map (·.key) := by
  suffices ∀ (ls : List (List SSet)) (o : List Str), asc o → asc (ls.foldl insL o) ∧ ∀ x, x ∈ ls.foldl insL o ↔ x ∈ o ∨ ∃ l ∈ ls, x ∈ l.map (·.key) by
    obtain ⟨h1, h2⟩ := this ls [] .nil
    exact ⟨h1, fun x => (h2 x).trans (by simp)⟩
  intro ls
  induction ls with
  | nil => intro o h; exact ⟨h, fun x => by simp⟩
  | cons l ls ih =>
    intro o h
    obtain ⟨h1, h2⟩ := insL_spec l h
    obtain ⟨h3, h4⟩ := ih (insL o l) h1
    refine ⟨h3, fun x => ?_⟩
    rw [List.foldl_cons, h4, h2, or_assoc]
    simp
end Go.Pv


set_option maxHeartbeats 2000000
namespace Go.Pv
attribute [local irreducible] PWP POps PQuiet PSem XThen XBlock RetPost InlPost
open Go.Proofs
theorem leS_iff (a b : Str) : leS a b = true ↔ a ≤ b := by
  rw [leS, bytesLess_eq, Bool.or_eq_true, decide_eq_true_eq, beq_iff_eq]
  constructor
  · rintro (h | rfl)
    · exact List.le_of_lt h
    · exact List.le_refl _
  · intro h
    by_cases he : a = b
    · exact .inr he
    · exact .inl (lt_of_le_ne h he)
theorem setsE_zero {l : List SSet} (h : setsE l = 0) : l.length ≤ 60 ∧ ∀ j x, l[j]? = some x → setE l j x = 0 := by
  rw [setsE] at h
  split at h
  · cases h
  · exact ⟨by omega, fstE_zero h⟩
theorem setsE_asc {l : List SSet} (h : setsE l = 0) : asc (l.map (·.key)) := by
  obtain ⟨_, hz⟩ := setsE_zero h
  have hadj : ∀ j, (hj : j + 1 < l.length) → l[j].key < l[j + 1].key := fun j hj => by
    have h1 := hz (j + 1) l[j + 1] (List.getElem?_eq_getElem hj)
    rw [setE] at h1
    split at h1
    · cases h1
    · split at h1
      · cases h1
      · split at h1
        · cases h1
        · rename_i hc
          have hg : l.getD (j + 1 - 1) default = l[j] := by rw [Nat.add_sub_cancel, List.getD_eq_getElem?_getD, List.getElem?_eq_getElem (by omega)]; rfl
          rw [hg, leS_iff] at hc
          exact List.not_le.1 fun e => hc ⟨by omega, e⟩
  have hall : ∀ n j, (hj : j + n + 1 < l.length) → l[j].key < l[j + n + 1].key := by
    intro n
    induction n with
    | zero => intro j hj; exact hadj j hj
    | succ n ih => intro j hj; exact List.lt_trans (ih j (by omega)) (hadj (j + n + 1) hj)
  refine List.pairwise_iff_getElem.2 fun i j hi hj hij => ?_
  simp only [List.length_map] at hi hj
  have := hall (j - i - 1) i (by omega)
  simp only [List.getElem_map]
  have he : i + (j - i - 1) + 1 = j := by omega
  simp only [he] at this
  exact this
theorem tabOf_keys {l : List SSet} (h : asc (l.map (·.key))) : tkeys (tabOf l) = l.map (·.key) := by
  rw [tabOf_map (asc_nodup h), tkeys, List.map_map]; rfl
theorem keys_same {ls : List (List SSet)} (h : ∀ l ∈ ls, asc (l.map (·.key))) : keysP (ls.map tabOf) = keysR ls := by
  obtain ⟨p1, p2⟩ := keysP_spec (ls.map tabOf)
  obtain ⟨r1, r2⟩ := keysR_spec ls
  refine asc_ext p1 r1 fun x => ?_
  rw [p2, r2, allK, List.mem_flatMap]
  constructor
  · rintro ⟨t, ht, hx⟩
    obtain ⟨l, hl, rfl⟩ := List.mem_map.1 ht
    exact ⟨l, hl, by rw [tabOf_keys (h l hl)] at hx; exact hx⟩
  · rintro ⟨l, hl, hx⟩
    exact ⟨tabOf l, List.mem_map.2 ⟨l, hl, rfl⟩, by rw [tabOf_keys (h l hl)]; exact hx⟩
end Go.Pv


set_option maxHeartbeats 2000000
namespace Go.Pv
attribute [local irreducible] PWP POps PQuiet PSem XThen XBlock RetPost InlPost
open Go.Proofs
theorem findS_tz {l : List SSet} {k : Str} (h : (findS l k).2 = false) : findS l k = tz := by
  induction l with
  | nil => rfl
  | cons x l ih =>
    rw [findS] at h ⊢
    split
    · rename_i hk; rw [if_pos hk] at h; cases h
    · rename_i hk; rw [if_neg hk] at h; exact ih h
theorem findS_is {l : List SSet} {k : Str} : (findS l k).2 = true ↔ k ∈ l.map (·.key) := by
  induction l with
  | nil => simp [findS, tz]
  | cons x l ih =>
    rw [findS, List.map_cons, List.mem_cons]
    split
    · rename_i hk; simp [hk]
    · rename_i hk
      rw [ih]
      exact ⟨.inr, fun h => h.resolve_left fun e => hk e.symm⟩
theorem findS_mem {l : List SSet} (hn : (l.map (·.key)).Nodup) {x : SSet} (hx : x ∈ l) : findS l x.key = (x.value, true) := by
  induction l with
  | nil => cases hx
  | cons y l ih =>
    rw [List.map_cons, List.nodup_cons] at hn
    rw [findS]
    rcases List.mem_cons.1 hx with rfl | hx
    · rw [if_pos rfl]
    · rw [if_neg (fun e => hn.1 (by rw [e]; exact List.mem_map_of_mem hx)), ih hn.2 hx]
theorem find_ext {l m : List SSet} (hl : asc (l.map (·.key))) (hm : asc (m.map (·.key))) (h : ∀ k, findS l k = findS m k) : l = m := by
  have hk : l.map (·.key) = m.map (·.key) := asc_ext hl hm fun x => by rw [← findS_is, ← findS_is, h]
  have hlen : l.length = m.length := by simpa using congrArg List.length hk
  refine List.ext_getElem hlen fun i h1 h2 => ?_
  have e1 := findS_mem (asc_nodup hl) (List.getElem_mem h1)
  have e2 := findS_mem (asc_nodup hm) (List.getElem_mem h2)
  have e3 : l[i].key = m[i].key := by
    have q1 : (l.map (·.key))[i]? = some l[i].key := by rw [List.getElem?_map, List.getElem?_eq_getElem h1]; rfl
    have q2 : (m.map (·.key))[i]? = some m[i].key := by rw [List.getElem?_map, List.getElem?_eq_getElem h2]; rfl
    rw [hk, q2] at q1; exact (Option.some.inj q1).symm
  rw [h, e3, e2] at e1
  have e4 := (Prod.mk.inj e1).1
  cases hx : l[i] with
  | mk k v => cases hy : m[i] with
    | mk k' v' => rw [hx, hy] at e3 e4; simp only at e3 e4; rw [e3, e4]
def fillS (f : Str → TV) (ks : List Str) : List SSet := (ks.filter fun k => (f k).2).map fun k => ⟨k, (f k).1⟩
theorem fillS_keys (f : Str → TV) (ks : List Str) : (fillS f ks).map (·.key) = ks.filter fun k => (f k).2 := by
  rw [fillS, List.map_map]; exact List.map_id _
theorem fillS_asc {f : Str → TV} {ks : List Str} (h : asc ks) : asc ((fillS f ks).map (·.key)) := by
  rw [fillS_keys]; exact List.Pairwise.sublist List.filter_sublist h
theorem findS_fill {f : Str → TV} (hf : ∀ k, (f k).2 = false → f k = tz) (k : Str) : ∀ {ks : List Str}, ks.Nodup → findS (fillS f ks) k = if k ∈ ks then f k else tz
  | [], _ => by simp [fillS, findS]
  | a :: ks, hn => by
    rw [List.nodup_cons] at hn
    have ih := findS_fill hf k hn.2
    rw [fillS] at ih ⊢
    rw [List.filter_cons]
    by_cases hk : k = a
    · subst hk
      rw [if_pos (List.mem_cons_self ..)]
      cases h : (f k).2 with
      | true =>
        rw [if_pos rfl, List.map_cons, findS, if_pos rfl]
        exact Prod.ext rfl h.symm
      | false =>
        rw [if_neg (by simp), ih, if_neg hn.1, hf k h]
    · have hm : (k ∈ a :: ks) ↔ k ∈ ks := by rw [List.mem_cons]; exact ⟨fun h => h.resolve_left hk, .inr⟩
      simp only [hm]
      cases h : (f a).2 with
      | true => rw [if_pos rfl, List.map_cons, findS, if_neg (fun e => hk e.symm), ih]
      | false => rw [if_neg (by simp), ih]
theorem setsE_len {l : List SSet} (h : setsE l = 0) : l.length ≤ 60 := (setsE_zero h).1
end Go.Pv


set_option maxHeartbeats 2000000
namespace Go.Pv
attribute [local irreducible] PWP POps PQuiet PSem XThen XBlock RetPost InlPost
open Go.Proofs
structure SEdit where
  key : Str
  old : Str
  new : Str
  had : Bool
  has : Bool
  deriving DecidableEq, Inhabited
def eEd (x : SEdit) : List PV := [.str x.key, .str x.old, .str x.new, .bool x.had, .bool x.has]
def diffK (f g : Str → TV) (ks : List Str) : List SEdit := (ks.filter fun k => decide (f k ≠ g k)).map fun k => ⟨k, (f k).1, (g k).1, (f k).2, (g k).2⟩
def diffR (a b : List SSet) : List SEdit := diffK (findS a) (findS b) (keysR [a, b])
def formE (x : SEdit) : Bool := !valB x.old || !valB x.new || (!x.had && decide (x.old ≠ [])) || (!x.has && decide (x.new ≠ [])) || (!x.had && !x.has)
def editE (a : List SSet) (l : List SEdit) (i : Nat) (x : SEdit) : Int :=
  if isName x.key = false then 4 else if formE x = true then 3 else if 0 < i ∧ leS x.key (l.getD (i - 1) default).key = true then 10 else if ¬ findS a x.key = (x.old, x.had) then 28 else 0
def editsE (a : List SSet) (l : List SEdit) : Int := fstE l (editE a l)
def overE (f : Str → TV) (l : List SEdit) : Str → TV := fun k => l.foldl (fun v x => if x.key = k then (x.new, x.has) else v) (f k)
def patO (a : List SSet) (l : List SEdit) : List SSet := fillS (overE (findS a) l) (keysR [a, l.map fun x => ⟨x.key, []⟩])
def patR (l : List SSet) (e : Int) : PV := .tup [.sl (l.map eSet), I e]
def edR (l : List SEdit) (e : Int) : PV := .tup [.sl (l.map eEd), I e]
def diffV (a b : List SSet) : PV := if setsE a ≠ 0 then edR [] (setsE a) else if setsE b ≠ 0 then edR [] (setsE b) else edR (diffR a b) 0
def patchV (a : List SSet) (l : List SEdit) : PV :=
  if setsE a ≠ 0 then patR [] (setsE a) else if 120 < l.length then patR [] 8 else if editsE a l ≠ 0 then patR [] (editsE a l) else if 60 < (patO a l).length then patR [] 8 else patR (patO a l) 0
theorem overE_snoc (f : Str → TV) (l : List SEdit) (x : SEdit) (k : Str) : overE f (l ++ [x]) k = if x.key = k then (x.new, x.has) else overE f l k := by rw [overE, List.foldl_append]; rfl
theorem overE_off {f : Str → TV} {l : List SEdit} {k : Str} (h : ∀ x ∈ l, ¬ x.key = k) : overE f l k = f k := by
  suffices ∀ (l : List SEdit) (v : TV), (∀ x ∈ l, ¬ x.key = k) → l.foldl (fun v x => if x.key = k then (x.new, x.has) else v) v = v from this l _ h
  intro l
  induction l with
  | nil => intro v _; rfl
  | cons x l ih =>
    intro v h
    rw [List.foldl_cons, if_neg (h x (.head _))]
    exact ih v fun y hy => h y (.tail _ hy)
theorem overE_on {f : Str → TV} {l : List SEdit} {k : Str} (hn : (l.map (·.key)).Nodup) {x : SEdit} (hx : x ∈ l) (hk : x.key = k) : overE f l k = (x.new, x.has) := by
  suffices ∀ (l : List SEdit) (v : TV), (l.map (·.key)).Nodup → x ∈ l → l.foldl (fun v x => if x.key = k then (x.new, x.has) else v) v = (x.new, x.has) from this l _ hn hx
  intro l
  induction l with
  | nil => intro v _ h; cases h
  | cons y l ih =>
    intro v hn h
    rw [List.map_cons, List.nodup_cons] at hn
    rw [List.foldl_cons]
    rcases List.mem_cons.1 h with rfl | h
    · rw [if_pos hk]
      have : ∀ z ∈ l, ¬ z.key = k := fun z hz e => hn.1 (by rw [hk, ← e]; exact List.mem_map_of_mem hz)
      exact overE_off (f := fun _ => (x.new, x.has)) this
    · exact ih _ hn.2 h
theorem leS_false {a b : Str} (h : leS a b = false) : b < a := by
  refine List.not_le.1 fun e => ?_
  rw [(leS_iff a b).2 e] at h; cases h
theorem adj_asc {α : Type} {key : α → Str} {l : List α} (h : ∀ j, (hj : j + 1 < l.length) → key l[j] < key l[j + 1]) : asc (l.map key) := by
  have hall : ∀ n j, (hj : j + n + 1 < l.length) → key l[j] < key l[j + n + 1] := by
    intro n
    induction n with
    | zero => intro j hj; exact h j hj
    | succ n ih => intro j hj; exact List.lt_trans (ih j (by omega)) (h (j + n + 1) hj)
  refine List.pairwise_iff_getElem.2 fun i j hi hj hij => ?_
  simp only [List.length_map] at hi hj
  have := hall (j - i - 1) i (by omega)
  simp only [List.getElem_map]
  have he : i + (j - i - 1) + 1 = j := by omega
  simp only [he] at this
  exact this
theorem editE_zero {a : List SSet} {l : List SEdit} {i : Nat} {x : SEdit} (h : editE a l i x = 0) : isName x.key = true ∧ formE x = false ∧ (0 < i → (l.getD (i - 1) default).key < x.key) ∧ findS a x.key = (x.old, x.had) := by
  rw [editE] at h
  split at h
  · cases h
  · rename_i h1
    split at h
    · cases h
    · rename_i h2
      split at h
      · cases h
      · rename_i h3
        split at h
        · cases h
        · rename_i h4
          refine ⟨by simpa using h1, by simpa using h2, fun hi => ?_, by simpa using h4⟩
          refine leS_false ?_
          cases hle : leS x.key (l.getD (i - 1) default).key with
          | false => rfl
          | true => exact absurd ⟨hi, hle⟩ h3
theorem clear_asc {a : List SSet} {l : List SEdit} {k : Nat} (h : ClearE l (editE a l) k) : asc ((l.take k).map (·.key)) := by
  refine adj_asc fun j hj => ?_
  simp only [List.length_take] at hj
  have hx : l[j + 1]? = some l[j + 1] := List.getElem?_eq_getElem (by omega)
  have hz := (editE_zero (h.2 (j + 1) l[j + 1] (by omega) hx)).2.2.1 (by omega)
  rw [Nat.add_sub_cancel, List.getD_eq_getElem?_getD, List.getElem?_eq_getElem (by omega)] at hz
  simpa using hz
theorem edits_asc {a : List SSet} {l : List SEdit} (h : editsE a l = 0) : asc (l.map (·.key)) := by
  have : ClearE l (editE a l) l.length := ⟨Nat.le_refl _, fun j b _ hb => fstE_zero h j b hb⟩
  have := clear_asc this
  rwa [List.take_length] at this
theorem setsE_good {l : List SSet} (h : setsE l = 0) : ∀ x ∈ l, isName x.key = true ∧ valB x.value = true := fun x hx => by
  obtain ⟨i, hi, rfl⟩ := List.getElem_of_mem hx
  have hz := (setsE_zero h).2 i _ (List.getElem?_eq_getElem hi)
  rw [setE] at hz
  split at hz
  · cases hz
  · rename_i h1
    split at hz
    · cases hz
    · rename_i h2
      exact ⟨by simpa using h1, by simpa using h2⟩
theorem findS_val {l : List SSet} (h : setsE l = 0) (k : Str) : valB (findS l k).1 = true := by
  cases hf : (findS l k).2 with
  | false => rw [findS_tz hf]; rfl
  | true =>
    obtain ⟨x, hx, rfl⟩ := List.mem_map.1 (findS_is.1 hf)
    rw [findS_mem (asc_nodup (setsE_asc h)) hx]
    exact (setsE_good h x hx).2
theorem keysR_len2 (a b : List SSet) : (keysR [a, b]).length ≤ a.length + b.length := by
  have h1 := insL_len a []
  have h2 := insL_len b (insL [] a)
  rw [List.length_nil] at h1
  have : keysR [a, b] = insL (insL [] a) b := rfl
  rw [this]; omega
theorem diffK_keys (f g : Str → TV) (ks : List Str) : (diffK f g ks).map (·.key) = ks.filter fun k => decide (f k ≠ g k) := by
  rw [diffK, List.map_map]; exact List.map_id _
theorem diffR_ok {a b : List SSet} (ha : setsE a = 0) (hb : setsE b = 0) : (diffR a b).length ≤ 120 ∧ editsE a (diffR a b) = 0 := by
  have hk := keysR_spec [a, b]
  have h1 := setsE_len ha
  have h2 := setsE_len hb
  have hl := keysR_len2 a b
  have hasc : asc ((diffR a b).map (·.key)) := by rw [diffR, diffK_keys]; exact List.Pairwise.sublist List.filter_sublist hk.1
  refine ⟨?_, ?_⟩
  · rw [diffR, diffK, List.length_map]
    exact Nat.le_trans (List.length_filter_le _ _) (by omega)
  · refine fstE_none fun j x hx => ?_
    have hm : x ∈ diffR a b := List.mem_of_getElem? hx
    rw [diffR, diffK] at hm
    obtain ⟨k, hkm, rfl⟩ := List.mem_map.1 hm
    obtain ⟨hks, hne⟩ := List.mem_filter.1 hkm
    have hne : ¬ findS a k = findS b k := by simpa using hne
    have hname : isName k = true := by
      obtain ⟨l, hl, hkl⟩ := (hk.2 k).1 hks
      obtain ⟨y, hy, rfl⟩ := List.mem_map.1 hkl
      simp only [List.mem_cons, List.not_mem_nil, or_false] at hl
      rcases hl with rfl | rfl
      · exact (setsE_good ha y hy).1
      · exact (setsE_good hb y hy).1
    rw [editE]
    dsimp only
    rw [if_neg (by simp [hname])]
    have hform : formE ⟨k, (findS a k).1, (findS b k).1, (findS a k).2, (findS b k).2⟩ = false := by
      rw [formE]
      dsimp only
      rw [findS_val ha, findS_val hb]
      cases h3 : (findS a k).2 with
      | true =>
        cases h4 : (findS b k).2 with
        | true => rfl
        | false => rw [findS_tz h4]; rfl
      | false =>
        cases h4 : (findS b k).2 with
        | true => rw [findS_tz h3]; rfl
        | false => exact absurd ((findS_tz h3).trans (findS_tz h4).symm) hne
    rw [if_neg (by rw [hform]; simp), if_neg, if_neg (by simp)]
    rintro ⟨hj, hle⟩
    have hlt : j < (diffR a b).length := (List.getElem?_eq_some_iff.1 hx).1
    have hp := List.pairwise_iff_getElem.1 hasc (j - 1) j (by simp; omega) (by simp; omega) (by omega)
    simp only [List.getElem_map] at hp
    have hj2 : (diffR a b)[j] = ⟨k, (findS a k).1, (findS b k).1, (findS a k).2, (findS b k).2⟩ := by
      have := List.getElem?_eq_getElem hlt
      rw [hx] at this; exact (Option.some.inj this).symm
    have hg : (diffR a b).getD (j - 1) default = (diffR a b)[j - 1] := by rw [List.getD_eq_getElem?_getD, List.getElem?_eq_getElem (by omega)]; rfl
    rw [hj2] at hp
    rw [hg, leS_iff] at hle
    exact absurd hp (List.not_lt.2 hle)
theorem overE_tz {a : List SSet} {l : List SEdit} (h : ∀ x ∈ l, formE x = false) (k : Str) (hk : (overE (findS a) l k).2 = false) : overE (findS a) l k = tz := by
  suffices ∀ (l : List SEdit) (v : TV), (v.2 = false → v = tz) → (∀ x ∈ l, formE x = false) → (l.foldl (fun v x => if x.key = k then (x.new, x.has) else v) v).2 = false → l.foldl (fun v x => if x.key = k then (x.new, x.has) else v) v = tz from
    this l _ findS_tz h hk
  intro l
  induction l with
  | nil => intro v hv _ h; exact hv h
  | cons x l ih =>
    intro v hv h hk
    rw [List.foldl_cons] at hk ⊢
    refine ih _ ?_ (fun y hy => h y (.tail _ hy)) hk
    intro he
    split at he
    · rename_i hx
      rw [if_pos hx]
      have hf := h x (.head _)
      rw [formE] at hf
      have he : x.has = false := he
      simp only [he, Bool.not_false, Bool.true_and, Bool.or_eq_false_iff] at hf
      have : x.new = [] := by simpa using hf.1.2
      rw [this, he]; rfl
    · rename_i hx
      rw [if_neg hx]; exact hv he
theorem edits_form {a : List SSet} {l : List SEdit} (h : editsE a l = 0) : ∀ x ∈ l, formE x = false := fun x hx => by
  obtain ⟨i, hi, rfl⟩ := List.getElem_of_mem hx
  exact (editE_zero (fstE_zero h i _ (List.getElem?_eq_getElem hi))).2.1
theorem patO_find {a : List SSet} {l : List SEdit} (h : editsE a l = 0) (k : Str) : findS (patO a l) k = overE (findS a) l k := by
  have hk := keysR_spec [a, l.map fun x => ⟨x.key, []⟩]
  rw [patO, findS_fill (overE_tz (edits_form h)) k (asc_nodup hk.1)]
  split
  · rfl
  · rename_i hn
    rw [overE_off]
    · refine (findS_tz ?_).symm
      cases hf : (findS a k).2 with
      | false => rfl
      | true => exact absurd ((hk.2 k).2 ⟨a, by simp, findS_is.1 hf⟩) hn
    · intro x hx e
      refine hn ((hk.2 k).2 ⟨l.map fun x => ⟨x.key, []⟩, by simp, ?_⟩)
      rw [List.map_map]
      exact List.mem_map.2 ⟨x, hx, e⟩
theorem patO_asc (a : List SSet) (l : List SEdit) : asc ((patO a l).map (·.key)) := fillS_asc (keysR_spec _).1
theorem patO_diff {a b : List SSet} (ha : setsE a = 0) (hb : setsE b = 0) : patO a (diffR a b) = b := by
  have hok := (diffR_ok ha hb).2
  have hk := keysR_spec [a, b]
  refine find_ext (patO_asc _ _) (setsE_asc hb) fun k => ?_
  rw [patO_find hok]
  by_cases hm : ∃ x ∈ diffR a b, x.key = k
  · obtain ⟨x, hx, hxk⟩ := hm
    rw [overE_on (asc_nodup (edits_asc hok)) hx hxk]
    rw [diffR, diffK] at hx
    obtain ⟨k', _, rfl⟩ := List.mem_map.1 hx
    simp only at hxk
    subst hxk; rfl
  · rw [overE_off (fun x hx e => hm ⟨x, hx, e⟩)]
    refine Decidable.byContradiction fun hne => hm ?_
    have hks : k ∈ keysR [a, b] := by
      cases h1 : (findS a k).2 with
      | true => exact (hk.2 k).2 ⟨a, by simp, findS_is.1 h1⟩
      | false =>
        cases h2 : (findS b k).2 with
        | true => exact (hk.2 k).2 ⟨b, by simp, findS_is.1 h2⟩
        | false => exact absurd ((findS_tz h1).trans (findS_tz h2).symm) hne
    exact ⟨_, List.mem_map.2 ⟨k, List.mem_filter.2 ⟨hks, by simpa using hne⟩, rfl⟩, rfl⟩
theorem patchV_diff {a b : List SSet} (ha : setsE a = 0) (hb : setsE b = 0) : patchV a (diffR a b) = patR b 0 := by
  obtain ⟨h1, h2⟩ := diffR_ok ha hb
  have h3 := setsE_len hb
  rw [patchV, if_neg (by simp [ha]), if_neg (by omega), if_neg (by simp [h2]), patO_diff ha hb, if_neg (by omega)]
def tdel (k : Str) : Tb → Tb
  | [] => []
  | (d, c) :: m => if d = k then m else (d, c) :: tdel k m
def patT (t : Tb) (l : List SEdit) : Tb := l.foldl (fun t x => if x.has then tset x.key (x.new, true) t else tdel x.key t) t
theorem patT_snoc (t : Tb) (l : List SEdit) (x : SEdit) : patT t (l ++ [x]) = if x.has then tset x.key (x.new, true) (patT t l) else tdel x.key (patT t l) := by rw [patT, List.foldl_append]; rfl
theorem tdel_keys {k : Str} : ∀ {t : Tb}, (tkeys t).Nodup → (tkeys (tdel k t)).Nodup ∧ ∀ x, x ∈ tkeys (tdel k t) ↔ x ∈ tkeys t ∧ x ≠ k
  | [], _ => ⟨.nil, fun x => by simp [tdel, tkeys]⟩
  | (d, c) :: m, hn => by
    have hn' : d ∉ tkeys m ∧ (tkeys m).Nodup := List.nodup_cons.1 hn
    obtain ⟨h1, h2⟩ := tdel_keys (k := k) hn'.2
    have hc : ∀ (a : Str) (b : TV) (m : Tb), tkeys ((a, b) :: m) = a :: tkeys m := fun _ _ _ => rfl
    rw [tdel]
    by_cases hd : d = k
    · subst hd
      rw [if_pos rfl]
      refine ⟨hn'.2, fun x => ?_⟩
      rw [hc, List.mem_cons]
      exact ⟨fun h => ⟨.inr h, fun e => by subst e; exact hn'.1 h⟩, fun h => h.1.resolve_left h.2⟩
    · rw [if_neg hd, hc, hc]
      refine ⟨List.nodup_cons.2 ⟨fun h => hn'.1 ((h2 d).1 h).1, h1⟩, fun x => ?_⟩
      rw [List.mem_cons, List.mem_cons, h2]
      constructor
      · rintro (rfl | h)
        · exact ⟨.inl rfl, hd⟩
        · exact ⟨.inr h.1, h.2⟩
      · rintro ⟨h | h, hne⟩
        · exact .inl h
        · exact .inr ⟨h, hne⟩
theorem tget_none {k : Str} : ∀ {t : Tb}, k ∉ tkeys t → tget t k = tz
  | [], _ => rfl
  | (d, c) :: m, h => by
    have h' : k ≠ d ∧ k ∉ tkeys m := by simpa [tkeys, not_or] using h
    rw [tget, if_neg (fun e => h'.1 e.symm), tget_none h'.2]
theorem tget_tdel {k x : Str} : ∀ {t : Tb}, (tkeys t).Nodup → tget (tdel k t) x = if k = x then tz else tget t x
  | [], _ => by simp [tdel, tget]
  | (d, c) :: m, hn => by
    have hn' : d ∉ tkeys m ∧ (tkeys m).Nodup := List.nodup_cons.1 hn
    rw [tdel]
    by_cases hd : d = k
    · subst hd
      rw [if_pos rfl]
      by_cases hx : d = x
      · subst hx; rw [if_pos rfl]; exact tget_none hn'.1
      · rw [if_neg hx, tget, if_neg hx]
    · rw [if_neg hd, tget, tget, tget_tdel hn'.2]
      by_cases hx : d = x
      · subst hx
        rw [if_pos rfl, if_neg (fun e => hd e.symm), if_pos rfl]
      · rw [if_neg hx, if_neg hx]
theorem tdel_len (k : Str) : ∀ t : Tb, (tdel k t).length ≤ t.length
  | [] => Nat.le_refl _
  | (d, c) :: m => by
    have := tdel_len k m
    rw [tdel]; split <;> simp <;> omega
theorem patT_len (t : Tb) (l : List SEdit) : (patT t l).length ≤ t.length + l.length := by
  suffices ∀ (l : List SEdit) (t : Tb), (l.foldl (fun t x => if x.has then tset x.key (x.new, true) t else tdel x.key t) t).length ≤ t.length + l.length from this l t
  intro l
  induction l with
  | nil => intro t; exact Nat.le_refl _
  | cons x l ih =>
    intro t
    rw [List.foldl_cons]
    refine Nat.le_trans (ih _) ?_
    rw [List.length_cons]
    split
    · have := tset_len x.key (x.new, true) t; omega
    · have := tdel_len x.key t; omega
theorem patT_spec {a : List SSet} {l : List SEdit} (ha : asc (a.map (·.key))) (hf : ∀ x ∈ l, formE x = false) : (tkeys (patT (tabOf a) l)).Nodup ∧ ∀ k, tget (patT (tabOf a) l) k = overE (findS a) l k := by
  suffices ∀ n, n ≤ l.length → (tkeys (patT (tabOf a) (l.take n))).Nodup ∧ ∀ k, tget (patT (tabOf a) (l.take n)) k = overE (findS a) (l.take n) k by
    have := this l.length (Nat.le_refl _); rwa [List.take_length] at this
  intro n
  induction n with
  | zero =>
    intro _
    refine ⟨?_, fun k => tget_tabOf (asc_nodup ha) k⟩
    rw [show patT (tabOf a) (l.take 0) = tabOf a from rfl, tabOf_keys ha]; exact asc_nodup ha
  | succ n ih =>
    intro hn
    obtain ⟨h1, h2⟩ := ih (by omega)
    have hx : l[n]? = some l[n] := List.getElem?_eq_getElem (by omega)
    rw [take_snoc hx, patT_snoc]
    cases hh : l[n].has with
    | true =>
      rw [if_pos rfl]
      refine ⟨tset_nodup h1, fun k => ?_⟩
      rw [overE_snoc, tget_tset, h2, hh]
    | false =>
      rw [if_neg (by simp)]
      refine ⟨(tdel_keys h1).1, fun k => ?_⟩
      have hfx := hf l[n] (List.getElem_mem _)
      rw [formE, hh] at hfx
      simp only [Bool.not_false, Bool.true_and, Bool.or_eq_false_iff] at hfx
      have hnew : l[n].new = [] := by simpa using hfx.1.2
      rw [overE_snoc, tget_tdel h1, h2, hh, hnew]; rfl
theorem findS_listP {t : Tb} (h : (tkeys t).Nodup) (k : Str) : findS (listP t) k = if (tget t k).2 = true then tget t k else tz := by
  have hn : ((listP t).map (·.key)).Nodup := ((listP_perm t).map _).nodup_iff.2 (selT_keys h)
  have hin : ∀ (t : Tb), (tkeys t).Nodup → ∀ e ∈ t, tget t e.1 = e.2 := by
    intro t
    induction t with
    | nil => intro _ e he; cases he
    | cons q t ih =>
      intro hn e he
      have hn' : q.1 ∉ tkeys t ∧ (tkeys t).Nodup := List.nodup_cons.1 hn
      obtain ⟨d, c⟩ := q
      rw [tget]
      rcases List.mem_cons.1 he with rfl | he
      · rw [if_pos rfl]
      · rw [if_neg (fun e' => hn'.1 (by show d ∈ tkeys t; rw [e']; exact List.mem_map_of_mem he)), ih hn'.2 e he]
  by_cases hk : k ∈ (listP t).map (·.key)
  · obtain ⟨x, hx, rfl⟩ := List.mem_map.1 hk
    rw [findS_mem hn hx]
    have hx2 := (listP_perm t).mem_iff.1 hx
    rw [selT] at hx2
    obtain ⟨e, he, rfl⟩ := List.mem_map.1 hx2
    obtain ⟨he1, he2⟩ := List.mem_filter.1 he
    have hg := hin t h e he1
    show (e.2.1, true) = if (tget t e.1).2 = true then tget t e.1 else tz
    rw [hg]
    have he2 : e.2.2 = true := he2
    rw [if_pos he2]
    exact Prod.ext rfl he2.symm
  · have h1 : findS (listP t) k = tz := findS_tz (by
      cases hf : (findS (listP t) k).2 with
      | false => rfl
      | true => exact absurd (findS_is.1 hf) hk)
    rw [h1]
    split
    · rename_i h2
      exfalso
      have hkt : k ∈ tkeys t := Decidable.byContradiction fun hc => by rw [tget_none hc] at h2; cases h2
      obtain ⟨e, he, rfl⟩ := List.mem_map.1 hkt
      rw [hin t h e he] at h2
      refine hk (List.mem_map.2 ⟨toS e, (listP_perm t).mem_iff.2 ?_, rfl⟩)
      rw [selT]
      exact List.mem_map.2 ⟨e, List.mem_filter.2 ⟨he, h2⟩, rfl⟩
    · rfl
theorem listP_asc {t : Tb} (h : (tkeys t).Nodup) : asc ((listP t).map (·.key)) := by
  have hn : ((listP t).map (·.key)).Nodup := ((listP_perm t).map _).nodup_iff.2 (selT_keys h)
  have ho : ((listP t).map (·.key)).Pairwise (· ≤ ·) := List.pairwise_map.2 (listP_ord t)
  exact (ho.and hn).imp fun {a b} hab => lt_of_le_ne hab.1 hab.2
theorem patT_list {a : List SSet} {l : List SEdit} (ha : setsE a = 0) (hl : editsE a l = 0) : listP (patT (tabOf a) l) = patO a l := by
  obtain ⟨h1, h2⟩ := patT_spec (setsE_asc ha) (edits_form hl)
  refine find_ext (listP_asc h1) (patO_asc _ _) fun k => ?_
  rw [findS_listP h1, patO_find hl, h2]
  split
  · rfl
  · rename_i h3
    exact (overE_tz (edits_form hl) k (by simpa using h3)).symm
theorem patT_here {a : List SSet} {l : List SEdit} {k : Nat} {x : SEdit} (ha : setsE a = 0) (hc : ClearE l (editE a l) k) (hx : l[k]? = some x) (ho : 0 < k → (l.getD (k - 1) default).key < x.key) : tget (patT (tabOf a) (l.take k)) x.key = findS a x.key := by
  have hf : ∀ y ∈ l.take k, formE y = false := fun y hy => by
    obtain ⟨i, hi, rfl⟩ := List.getElem_of_mem hy
    rw [List.getElem_take]
    simp only [List.length_take] at hi
    exact (editE_zero (hc.2 i _ (by omega) (List.getElem?_eq_getElem (by omega)))).2.1
  rw [(patT_spec (setsE_asc ha) hf).2, overE_off]
  intro y hy e
  obtain ⟨i, hi, rfl⟩ := List.getElem_of_mem hy
  simp only [List.length_take] at hi
  have hk0 : 0 < k := by omega
  have h1 := ho hk0
  have hasc := clear_asc hc
  have hkl : k < l.length := (List.getElem?_eq_some_iff.1 hx).1
  have hg : l.getD (k - 1) default = l[k - 1] := by rw [List.getD_eq_getElem?_getD, List.getElem?_eq_getElem (by omega)]; rfl
  rw [hg] at h1
  rw [List.getElem_take] at e
  rcases Nat.lt_or_ge i (k - 1) with hlt | hge
  · have := List.pairwise_iff_getElem.1 hasc i (k - 1) (by simp; omega) (by simp; omega) hlt
    simp only [List.getElem_map, List.getElem_take] at this
    rw [e] at this
    exact List.lt_asymm this h1
  · have : i = k - 1 := by omega
    subst this
    rw [e] at h1
    exact List.lt_irrefl _ h1
end Go.Pv


set_option maxHeartbeats 2000000
namespace Go.Pv
attribute [local irreducible] PWP POps PQuiet PSem XThen XBlock RetPost InlPost
open Go.Proofs
def LimA (B : Int) (a : SAcct) : Prop := (-B ≤ a.est ∧ a.est ≤ B) ∧ (-B ≤ a.gro ∧ a.gro ≤ B) ∧ (-B ≤ a.chg ∧ a.chg ≤ B) ∧ (-B ≤ a.sig ∧ a.sig ≤ B) ∧ (-B ≤ a.bil ∧ a.bil ≤ B) ∧ a.ovr = 0
structure AccInv (l : List SPost) (o : Str) (k : Nat) (M : List SAcct × List (Str × Int)) : Prop where
  idx : ∀ j : Int, 1 ≤ j → j ≤ k → (entL l j).op = 1 → accI o l j = true → 0 ≤ sget M.2 (entL l j).item ∧ sget M.2 (entL l j).item < M.1.length
  lim : ∀ a, a ∈ M.1 → LimA (1000000000 * k) a
  len : M.1.length ≤ k
theorem LimA.mono {B B' : Int} {a : SAcct} (h : LimA B a) (hb : B ≤ B') : LimA B' a := by
  obtain ⟨h1, h2, h3, h4, h5, h6⟩ := h
  exact ⟨by omega, by omega, by omega, by omega, by omega, h6⟩
theorem mem_modify {α : Type} {l : List α} {i : Nat} {f : α → α} {x : α} (h : x ∈ l.modify i f) : x ∈ l ∨ ∃ y, y ∈ l ∧ x = f y := by
  obtain ⟨j, hj, rfl⟩ := List.getElem_of_mem h
  have hj' : j < l.length := by simpa using hj
  rw [List.getElem_modify]
  split
  · exact .inr ⟨l[j], by simp, rfl⟩
  · exact .inl (by simp)
theorem billF_lim {l : List SPost} (h : Acc l) {n : Int} (hn : 1 ≤ n) (hnl : n ≤ l.length) : Lim (billF l n) := by
  rw [billF]
  split
  · rename_i h0
    have key : ∀ k : Nat, 0 < invF l n k → n < invF l n k ∧ invF l n k ≤ k := by
      intro k
      induction k with
      | zero => intro h; simp [invF] at h
      | succ k ih =>
        intro h
        rw [invF] at h ⊢
        split
        · rename_i hz
          rw [if_pos hz] at h
          split
          · rename_i hc
            simp only [Bool.and_eq_true, decide_eq_true_eq] at hc
            omega
          · rename_i hc
            rw [if_neg hc] at h; omega
        · rename_i hz
          rw [if_neg hz] at h
          have := ih h
          omega
    have := key _ h0
    exact valF_lim h n _ hn (by omega) (by omega)
  · exact ⟨by decide, by decide⟩
theorem accK_inv {l : List SPost} (h : Acc l) (o : Str) : ∀ k : Nat, k ≤ l.length → AccInv l o k (accK l o k)
  | 0, _ => ⟨fun j h1 h2 => by omega, fun a ha => by simp [accK] at ha, by simp [accK]⟩
  | k + 1, hk => by
    have ih := accK_inv h o k (by omega)
    have hv := valF_lim h ((k : Int) + 1) l.length (by omega) (by omega) (Nat.le_refl _)
    have hb := billF_lim h (n := (k : Int) + 1) (by omega) (by omega)
    rw [accK]
    generalize accK l o k = M at *
    obtain ⟨A, T⟩ := M
    have hsame : (entL l ((k : Int) + 1)).op ≠ 1 ∨ accI o l ((k : Int) + 1) = false → ∀ A' : List SAcct, A'.length = A.length → (∀ a, a ∈ A' → LimA (1000000000 * ((k + 1 : Nat) : Int)) a) → AccInv l o (k + 1) (A', T) := fun hc A' hl hlim => by
      refine ⟨fun j h1 h2 h3 h4 => ?_, hlim, by rw [hl]; have := ih.len; simp only at this ⊢; omega⟩
      have hj : j ≤ k := by
        rcases Int.lt_or_le k j with hlt | hge
        · have : j = k + 1 := by omega
          subst this
          rcases hc with hc | hc
          · exact absurd h3 hc
          · rw [hc] at h4; cases h4
        · exact hge
      have := ih.idx j h1 hj h3 h4
      simp only at this ⊢
      rw [hl]; exact this
    have hlim0 : ∀ a, a ∈ A → LimA (1000000000 * ((k + 1 : Nat) : Int)) a := fun a ha => (ih.lim a ha).mono (by omega)
    rw [accS]
    by_cases hi : accI o l ((k : Int) + 1) = false
    · rw [if_pos hi]; exact hsame (.inr hi) A rfl hlim0
    rw [if_neg hi]
    by_cases h1 : (entL l ((k : Int) + 1)).op = 1
    · rw [if_pos h1]
      refine ⟨fun j g1 g2 g3 g4 => ?_, fun a ha => ?_, by have := ih.len; simp at this ⊢; omega⟩
      · simp only [sget_sput, List.length_append, List.length_cons, List.length_nil]
        split
        · omega
        · rename_i hne
          have hj : j ≤ k := by
            rcases Int.lt_or_le k j with hlt | hge
            · have : j = k + 1 := by omega
              subst this
              exact absurd rfl hne
            · exact hge
          have := ih.idx j g1 hj g3 g4
          simp only at this
          omega
      · rcases List.mem_append.1 ha with ha | ha
        · exact hlim0 a ha
        · simp only [List.mem_cons, List.not_mem_nil, or_false] at ha
          subst ha
          have hk0 : 1000000000 * ((k + 1 : Nat) : Int) ≥ 1000000000 := by omega
          exact ⟨⟨by have := hv.1; simp only; omega, by have := hv.2; simp only; omega⟩, ⟨by simp only; omega, by simp only; omega⟩, ⟨by simp only; omega, by simp only; omega⟩, ⟨by simp only; omega, by simp only; omega⟩, ⟨by simp only; omega, by simp only; omega⟩, rfl⟩
    rw [if_neg h1]
    have hmod : ∀ (i : Nat) (f : SAcct → SAcct), (∀ a, LimA (1000000000 * (k : Int)) a → LimA (1000000000 * ((k + 1 : Nat) : Int)) (f a)) → AccInv l o (k + 1) (A.modify i f, T) := fun i f hf =>
      hsame (.inl h1) _ (by simp) fun a ha => by
        rcases mem_modify ha with ha | ⟨y, hy, rfl⟩
        · exact hlim0 a ha
        · exact hf y (ih.lim y hy)
    by_cases h2 : (entL l ((k : Int) + 1)).op = 2
    · rw [if_pos h2]
      split
      · refine hmod _ _ fun a ⟨e1, e2, e3, e4, e5, e6⟩ => ⟨by simp only; omega, ?_, by simp only; omega, by simp only; omega, by simp only; omega, e6⟩
        have := hv.1; have := hv.2; simp only; omega
      · exact hsame (.inl h1) A rfl hlim0
    rw [if_neg h2]
    by_cases h3 : (entL l ((k : Int) + 1)).op = 3
    · rw [if_pos h3]
      refine hmod _ _ fun a ⟨e1, e2, e3, e4, e5, e6⟩ => ⟨by simp only; omega, by simp only; omega, ?_, ?_, ?_, e6⟩
      · have := hv.1; have := hv.2; simp only; omega
      · have := hv.1; have := hv.2; simp only; split <;> omega
      · have := hb.1; have := hb.2; simp only; omega
    · rw [if_neg h3]; exact hsame (.inl h1) A rfl hlim0
theorem acc_item {l : List SPost} (h : Acc l) {o : Str} {k : Nat} (hk : k < l.length) (hi : accI o l ((k : Int) + 1) = true) (ho : (entL l ((k : Int) + 1)).op = 2 ∨ (entL l ((k : Int) + 1)).op = 3) :
    0 ≤ sget (accK l o k).2 (entL l ((k : Int) + 1)).item ∧ sget (accK l o k).2 (entL l ((k : Int) + 1)).item < (accK l o k).1.length := by
  have hinv := accK_inv h o k (by omega)
  have hO := h.ok
  have he := entL_at (l := l) (n := (k : Int) + 1) (by omega) (by omega)
  rw [show ((k : Int) + 1 - 1).toNat = k by omega] at he
  simp only [accI, Bool.and_eq_true, decide_eq_true_eq] at hi
  have hpos := (hO.pos _ _ he).2.1 ho
  have hlt := hO.wf.sup _ _ he
  have hsu : supNo l (entL l ((k : Int) + 1)) = itmNo l (entL l ((k : Int) + 1)).order (entL l ((k : Int) + 1)).item := by rw [supNo, if_neg (by omega), if_pos ho]
  have hlv := liveB_pos hO.wf (n := (k : Int) + 1) (by omega)
  rw [hi.2, hsu] at hlv
  have hlv := (Bool.and_eq_true_iff.1 hlv.symm).2
  rw [hsu] at hlt
  generalize hj : itmNo l (entL l ((k : Int) + 1)).order (entL l ((k : Int) + 1)).item = j at *
  rw [itmNo] at hj
  obtain ⟨x, hx, hxp⟩ := idx_lt (l := l) (p := fun p => decide (p.op = 1) && decide (p.order = (entL l ((k : Int) + 1)).order) && decide (p.item = (entL l ((k : Int) + 1)).item)) (by omega)
  have hxe : entL l j = x := by
    have := entL_at (l := l) (n := j) (by omega) (by omega)
    rw [show (j - 1).toNat = (idx l fun p => decide (p.op = 1) && decide (p.order = (entL l ((k : Int) + 1)).order) && decide (p.item = (entL l ((k : Int) + 1)).item)).toNat by omega, hx] at this
    exact (Option.some.inj this).symm
  simp only [Bool.and_eq_true, decide_eq_true_eq] at hxp
  have := hinv.idx j (by omega) (by omega) (by rw [hxe]; exact hxp.1.1) (by rw [accI, hxe, hxp.1.2, hi.1, hlv]; simp)
  rw [hxe, hxp.2] at this
  exact this
end Go.Pv


set_option maxHeartbeats 2000000
namespace Go.Pv
attribute [local irreducible] PWP POps PQuiet PSem XThen XBlock RetPost InlPost
open Go.Proofs
section
variable {P : Program} {L : Lay} {s : St} {T d : Nat} {r : LRow} {x y : Operand} {ty : TypeId} {pos : String} {af : Array Edge} {g : Option (Nat × Bool)} {K : St → Prop}
theorem o_storeM {α : Type} {enc : α → List PV} {l : List α} {a : α} (a' : α) {v : PV} {k gn i jj kd kd' : Nat} {tc : TypeId} {sz : Nat} {Pr : Prop} (hr : L T = some r) (hx : s.ev x = .ptr k gn i jj) (hown : s.own k = (gn, some ⟨tc, sz, l.map enc, kd⟩)) (hget : l[i]? = some a) (hv : (s.ev y).fz = some v) (h1 : oneL s v.cells = some Pr) (h2 : Pr)
    (hsz : v.cells.length = r.size) (hle : Nat.ble (jj + r.size) (enc a).length = true) (hk : Nat.ble kd kd' = true) (hkd : v.cells.all (kOk kd') = true) (hnew : splc (enc a) jj (v.cells.map (nrm kd')) = enc a') (h : K (s.setOwn k gn (some ⟨tc, sz, (l.set i a').map enc, kd'⟩))) : POp P L s ⟨none, .store T x y, ty, pos, af, g⟩ K := by
  refine o_store hr hx hown (by rw [List.getElem?_map, hget]; rfl) hv h1 h2 hsz hle hk hkd ?_
  rw [hnew, ← List.map_set]
  exact h
end
theorem modify_set {α : Type} {l : List α} {i : Nat} {a : α} (h : l[i]? = some a) (f : α → α) : l.modify i f = l.set i (f a) := by
  have hi := (List.getElem?_eq_some_iff.1 h).1
  apply List.ext_getElem?
  intro j
  by_cases hj : i = j
  · subst hj
    rw [List.getElem?_modify, h, List.getElem?_set_self hi]; simp
  · rw [List.getElem?_modify, List.getElem?_set_ne hj]; simp [hj]
theorem set_at {α : Type} {l : List α} {i : Nat} {a : α} (h : l[i]? = some a) (b : α) : (l.set i b)[i]? = some b := List.getElem?_set_self (List.getElem?_eq_some_iff.1 h).1
def ovrK (A : List SAcct) (j : Nat) : List SAcct := (A.take j).map ovrA ++ A.drop j
theorem ovrK_at {A : List SAcct} {j : Nat} {a : SAcct} (h : A[j]? = some a) : (ovrK A j)[j]? = some a ∧ (ovrK A j).set j (ovrA a) = ovrK A (j + 1) := by
  obtain ⟨hj, he⟩ := List.getElem?_eq_some_iff.1 h
  have hl : ((A.take j).map ovrA).length = j := by simp; omega
  constructor
  · rw [ovrK, List.getElem?_append_right (by omega), hl, Nat.sub_self, List.getElem?_drop]; exact h
  · rw [ovrK, ovrK, take_snoc h, List.map_append, List.set_append_right _ _ (by omega), hl, Nat.sub_self, List.drop_eq_getElem_cons hj, he]
    simp
theorem inv_bounds {l : List SPost} {n : Int} : ∀ {k : Nat}, 0 < invF l n k → n < invF l n k ∧ invF l n k ≤ k
  | 0, h => by simp [invF] at h
  | k + 1, h => by
    rw [invF] at h ⊢
    by_cases hz : invF l n k = 0
    · rw [if_pos hz] at h ⊢
      split
      · rename_i hc
        simp only [Bool.and_eq_true, decide_eq_true_eq] at hc
        omega
      · rename_i hc
        rw [if_neg hc] at h; omega
    · rw [if_neg hz] at h ⊢
      have := inv_bounds h
      omega
set_option maxRecDepth 20000 in
theorem accounts_ret (l : List SPost) (hA : Acc l) (o : Str) : Ret Tryz.prog .fresh 105 [.dref (eBook l) 0, .str o] (.sl ((accP l o).map eAcct)) := by
  have hO := hA.ok
  have hl := hO.wf.len
  have hll : ((l.map ePost).length : Int) = l.length := by simp
  have h30 := covered_ret l hO o
  have h29 := end_ret l hl
  refine Ret.of_pwp layOk mixed Go.Proofs.Tryz.func105 rfl (by decide) rfl rfl ?_
  ((repeat (first | refine ps_nil ?_ | refine pq_nil ?_ | refine x_norm ?_ | refine pw_seq ?_)); refine pw_region ?_)
  refine ps_v rfl trivial ?_
  ((repeat (first | refine ps_nil ?_ | refine pq_nil ?_ | refine x_norm ?_ | refine pw_seq ?_)); refine pw_region ?_)
  refine ps_v rfl trivial ?_
  refine ps_nil ?_
  refine x_norm ?_
  refine pw_ghost (Ghost.nilreg (k := 5) (t := 5) 185 7 0 rfl rfl) ?_
  repeat (refine stp rfl ?_ ?_;·repeat' constructor)
  refine ps_run (o_mkmap rfl ?_)
  repeat (refine stp rfl ?_ ?_;·repeat' constructor)
  apply qst;exact rfl;exact rfl;exact q_callF rfl (h30) rfl (by repeat' constructor) rfl
  repeat (refine stp rfl ?_ ?_;·repeat' constructor)
  apply qst;exact rfl;exact rfl;exact q_callP rfl (h29) rfl (by repeat' constructor) rfl rfl
  repeat (refine stp rfl ?_ ?_;·repeat' constructor)
  rw [hll]
  refine pw_loop (fun (k : Nat × Nat) => k.1 ≤ l.length) (fun k => [(0, .dref (eBook l) 0), (1, .str o), (5, .als 5 k.2 0 (((accK l o k.1).1.map eAcct).length)), (6, .mp 17 1), (7, .mapd ((covOut l o l.length).map eKV)), (8, I (l.length + 1)), (26, .sl (l.map ePost)), (27, I l.length), (28, I k.1)])
    (fun k => [(5, k.2, ⟨185, 7, (accK l o k.1).1.map eAcct, 0⟩), (17, 1, ⟨142, 0, (accK l o k.1).2.map eSV, 0⟩)]) (fun k => l.length - k.1) (0, 1) (Nat.zero_le _) ⟨rfl, rfl, rfl, rfl, rfl, rfl, rfl, rfl, rfl, rfl, rfl, trivial⟩ ?_
  rintro ⟨k, g⟩ s hk
  have hk : k ≤ l.length := hk
  clear h30 h29
  repeat (refine stp rfl ?_ ?_;·repeat' constructor)
  refine pw_cond rfl (fun h => ?_) (fun h => ?_)
  · have hlt : k < l.length := by have := of_decide_eq_true h; omega
    clear h
    have hx : l[k]? = some (entL l ((k : Int) + 1)) := by
      have := entL_at (l := l) (n := (k : Int) + 1) (by omega) (by omega)
      rwa [show ((k : Int) + 1 - 1).toNat = k by omega] at this
    have hv := live_ret l hO.wf ((k : Int) + 1) (by omega)
    have hval := value_ret l hO ((k : Int) + 1) l.length (by omega) (by omega) (Nat.le_refl _)
    have hvl := valF_lim hA ((k : Int) + 1) l.length (by omega) (by omega) (Nat.le_refl _)
    have hs1 := signed_ret l hO ((k : Int) + 1) l.length 1 (by omega) (by omega) (Nat.le_refl _)
    have hs0 := signed_ret l hO ((k : Int) + 1) l.length 0 (by omega) (by omega) (Nat.le_refl _)
    have hcov := fun h1 h2 h3 => covOut_at (l := l) (o := o) (n := (k : Int) + 1) h1 h2 h3 (by omega) l.length
    have hidx := acc_item hA (o := o) hlt
    have hinv := accK_inv hA o k hk
    have hst : accK l o (k + 1) = accS l o ((k : Int) + 1) (accK l o k) := rfl
    have hw : IntKind.wrap .i64 ((k : Int) + 1) = (k : Int) + 1 := wrap_i64 (by omega) (by omega)
    have hnx : ∀ s' : St, s'.reg 28 = I ((k : Int) + 1) → True := fun _ _ => trivial
    rw [accS, accI] at hst
    rw [accI] at hidx
    generalize accK l o k = M at *
    obtain ⟨A, T⟩ := M
    simp only at hidx hst
    have hAl : ((A.map eAcct).length : Int) = A.length := by simp
    have hAn : A.length ≤ 400 := by have := hinv.len; simp only at this; omega
    generalize entL l ((k : Int) + 1) = x at *
    repeat (refine stp rfl ?_ ?_;·repeat' constructor)
    apply qst;exact rfl;exact rfl;exact q_idxm rfl rfl rfl rfl rfl (by omega) hx rfl
    repeat (refine stp rfl ?_ ?_;·repeat' constructor)
    rw [hw]
    (first | refine ps_split rfl rfl (fun h => ?_) (fun h => ?_) | refine pq_split rfl rfl (fun h => ?_) (fun h => ?_) | refine p3_split rfl rfl (fun h => ?_) (fun h => ?_))
    · have g1 : ¬ x.order = o := by simpa using h
      rw [decide_eq_false g1, Bool.false_and, if_pos rfl] at hst
      repeat (refine stp rfl ?_ ?_;·repeat' constructor)
      exact ⟨(k + 1, g), hlt, by show l.length - (k + 1) < l.length - k; omega, rfl, rfl, by rw [hst]; rfl, rfl, rfl, rfl, rfl, rfl, i64_next (by omega) (by omega), by rw [hst]; rfl, by rw [hst]; rfl, trivial⟩
    have g1 : x.order = o := by simpa using h
    clear h
    rw [decide_eq_true g1, Bool.true_and] at hst hidx
    generalize hlv : liveB l ((k : Int) + 1) = lv at *
    repeat (refine stp rfl ?_ ?_;·repeat' constructor)
    apply qst;exact rfl;exact rfl;exact q_callP rfl (hv) rfl (by repeat' constructor) rfl rfl
    cases lv with
    | false =>
      rw [if_pos rfl] at hst
      repeat (refine stp rfl ?_ ?_;·repeat' constructor)
      exact ⟨(k + 1, g), hlt, by show l.length - (k + 1) < l.length - k; omega, rfl, rfl, by rw [hst]; rfl, rfl, rfl, rfl, rfl, rfl, i64_next (by omega) (by omega), by rw [hst]; rfl, by rw [hst]; rfl, trivial⟩
    | true =>
    rw [if_neg (by simp)] at hst
    replace hidx := hidx rfl
    generalize hvv : valF l ((k : Int) + 1) l.length = v at *
    repeat (refine stp rfl ?_ ?_;·repeat' constructor)
    apply qst;exact rfl;exact rfl;exact q_callP rfl (hval) rfl (by repeat' constructor) rfl rfl
    repeat (refine stp rfl ?_ ?_;·repeat' constructor)
    by_cases h1 : x.op = 1
    · rw [if_pos h1] at hst
      repeat (first|(refine stp rfl ?_ ?_;·repeat' constructor)|(refine pw_cond rfl (fun hA => absurd hA (by intro hA; simp only [decide_eq_true_eq, decide_eq_false_iff_not, Bool.not_eq_true', Bool.not_eq_false'] at hA; omega)) (fun _ => ?_))|(refine pw_cond rfl (fun _ => ?_) (fun hA => absurd hA (by intro hA; simp only [decide_eq_true_eq, decide_eq_false_iff_not, Bool.not_eq_true', Bool.not_eq_false'] at hA; omega))))
      refine ps_run0 (o_mset 0 rfl rfl rfl rfl rfl rfl rfl rfl rfl (keyed_sv T) rfl rfl ?_)
      rw [show nrm 0 (PV.int .i64 ((A.map eAcct).length : Int)) = I ((A.map eAcct).length : Int) from rfl, mput_sv, hAl]
      repeat (refine stp rfl ?_ ?_;·repeat' constructor)
      apply qst;exact rfl;exact rfl;exact q_slit rfl rfl rfl rfl rfl rfl rfl rfl rfl rfl (by repeat' constructor) rfl
      repeat (refine stp rfl ?_ ?_;·repeat' constructor)
      refine ps_run (o_app 0 rfl rfl rfl rfl rfl rfl rfl rfl rfl rfl rfl (by repeat' constructor) (by intro row hr; first | (simp at hr; subst hr; rfl) | simp at hr) rfl rfl (by simp; omega) (by simp; omega) ?_)
      repeat (refine stp rfl ?_ ?_;·repeat' constructor)
      refine ⟨(k + 1, g + 1), hlt, by show l.length - (k + 1) < l.length - k; omega, rfl, rfl, ?_, rfl, rfl, rfl, rfl, rfl, i64_next (by omega) (by omega), ?_, ?_, trivial⟩
      · rw [hst, List.map_append]; rfl
      · rw [hst, List.map_append]; rfl
      · rw [hst]; rfl
    rw [if_neg h1] at hst
    by_cases h2 : x.op = 2
    · rw [if_pos h2] at hst
      have hid := hidx (.inl h2)
      obtain ⟨a, ha⟩ := get_lt (show (sget T x.item).toNat < A.length by omega)
      have hla := hinv.lim a (List.mem_of_getElem? ha)
      obtain ⟨e1, e2, e3, e4, e5, e6⟩ := hla
      rw [modify_set ha, ← Nat.zero_add (sget T x.item).toNat] at hst
      have hg0 : A[0 + (sget T x.item).toNat]? = some a := by rw [Nat.zero_add]; exact ha
      have hrow : (A.map eAcct)[0 + (sget T x.item).toNat]? = some (eAcct a) := by rw [List.getElem?_map, hg0]; rfl
      have hwa : IntKind.wrap .i64 (a.gro + v) = a.gro + v := by have := hvl.1; have := hvl.2; exact wrap_i64 (by omega) (by omega)
      have hmb : sget T x.item < (A.map eAcct).length := by rw [List.length_map]; exact hid.2
      generalize sgdB l ((k : Int) + 1) l.length 1 = sg at *
      clear h1
      repeat (first|(refine stp rfl ?_ ?_;·repeat' constructor)|(refine pw_cond rfl (fun hA => absurd hA (by intro hA; simp only [decide_eq_true_eq, decide_eq_false_iff_not, Bool.not_eq_true', Bool.not_eq_false'] at hA; omega)) (fun _ => ?_))|(refine pw_cond rfl (fun _ => ?_) (fun hA => absurd hA (by intro hA; simp only [decide_eq_true_eq, decide_eq_false_iff_not, Bool.not_eq_true', Bool.not_eq_false'] at hA; omega))))
      apply qst;exact rfl;exact rfl;exact q_callP rfl (hs1) rfl (by repeat' constructor) rfl rfl
      cases sg with
      | false =>
        rw [if_neg (by simp)] at hst
        repeat (refine stp rfl ?_ ?_;·repeat' constructor)
        exact ⟨(k + 1, g), hlt, by show l.length - (k + 1) < l.length - k; omega, rfl, rfl, by rw [hst]; rfl, rfl, rfl, rfl, rfl, rfl, i64_next (by omega) (by omega), by rw [hst]; rfl, by rw [hst]; rfl, trivial⟩
      | true =>
        rw [if_pos rfl] at hst
        repeat (refine stp rfl ?_ ?_;·repeat' constructor)
        apply qst;exact rfl;exact rfl;exact q_lookG none rfl rfl rfl rfl rfl zone3 rfl rfl rfl rfl rfl rfl (keyedG_sv T)
        rw [mval_sv]
        apply qst;exact rfl;exact rfl;exact q_idxA rfl rfl rfl rfl rfl rfl rfl hid.1 hmb
        repeat (refine stp rfl ?_ ?_;·repeat' constructor)
        apply qst;exact rfl;exact rfl;exact q_ldp rfl rfl rfl hrow rfl
        repeat (refine stp rfl ?_ ?_;·repeat' constructor)
        rw [hwa]
        apply qst;exact rfl;exact rfl;exact q_idxA rfl rfl rfl rfl rfl rfl rfl hid.1 hmb
        repeat (refine stp rfl ?_ ?_;·repeat' constructor)
        refine ps_run0 (o_storeM (enc := eAcct) { a with gro := a.gro + v } (kd' := 0) rfl rfl rfl hg0 rfl rfl ⟨trivial, trivial⟩ rfl rfl rfl rfl rfl ?_)
        repeat (refine stp rfl ?_ ?_;·repeat' constructor)
        exact ⟨(k + 1, g), hlt, by show l.length - (k + 1) < l.length - k; omega, rfl, rfl, by rw [hst]; show PV.als 5 g 0 (A.map eAcct).length = PV.als 5 g 0 ((A.set _ _).map eAcct).length; rw [List.length_map, List.length_map, List.length_set], rfl, rfl, rfl, rfl, rfl, i64_next (by omega) (by omega), by rw [hst]; rfl, by rw [hst]; rfl, trivial⟩
    rw [if_neg h2] at hst
    by_cases h3 : x.op = 3
    · rw [if_pos h3] at hst
      have hid := hidx (.inr h3)
      obtain ⟨a, ha⟩ := get_lt (show (sget T x.item).toNat < A.length by omega)
      have hla := hinv.lim a (List.mem_of_getElem? ha)
      obtain ⟨e1, e2, e3, e4, e5, e6⟩ := hla
      rw [modify_set ha, ← Nat.zero_add (sget T x.item).toNat] at hst
      have hg0 : A[0 + (sget T x.item).toNat]? = some a := by rw [Nat.zero_add]; exact ha
      have hrow : (A.map eAcct)[0 + (sget T x.item).toNat]? = some (eAcct a) := by rw [List.getElem?_map, hg0]; rfl
      have hwc : IntKind.wrap .i64 (a.chg + v) = a.chg + v := by have := hvl.1; have := hvl.2; exact wrap_i64 (by omega) (by omega)
      have hws : IntKind.wrap .i64 (a.sig + v) = a.sig + v := by have := hvl.1; have := hvl.2; exact wrap_i64 (by omega) (by omega)
      have hmb : sget T x.item < (A.map eAcct).length := by rw [List.length_map]; exact hid.2
      have hcv := hcov h3 g1 rfl
      generalize sgdB l ((k : Int) + 1) l.length 0 = sg at *
      clear h1 h2
      repeat (first|(refine stp rfl ?_ ?_;·repeat' constructor)|(refine pw_cond rfl (fun hA => absurd hA (by intro hA; simp only [decide_eq_true_eq, decide_eq_false_iff_not, Bool.not_eq_true', Bool.not_eq_false'] at hA; omega)) (fun _ => ?_))|(refine pw_cond rfl (fun _ => ?_) (fun hA => absurd hA (by intro hA; simp only [decide_eq_true_eq, decide_eq_false_iff_not, Bool.not_eq_true', Bool.not_eq_false'] at hA; omega))))
      apply qst;exact rfl;exact rfl;exact q_lookG none rfl rfl rfl rfl rfl zone3 rfl rfl rfl rfl rfl rfl (keyedG_sv T)
      rw [mval_sv]
      apply qst;exact rfl;exact rfl;exact q_idxA rfl rfl rfl rfl rfl rfl rfl hid.1 hmb
      repeat (refine stp rfl ?_ ?_;·repeat' constructor)
      apply qst;exact rfl;exact rfl;exact q_ldp rfl rfl rfl hrow rfl
      repeat (refine stp rfl ?_ ?_;·repeat' constructor)
      rw [hwc]
      repeat (refine stp rfl ?_ ?_;·repeat' constructor)
      refine ps_run0 (o_storeM (enc := eAcct) { a with chg := a.chg + v } (kd' := 0) rfl rfl rfl hg0 rfl rfl ⟨trivial, trivial⟩ rfl rfl rfl rfl rfl ?_)
      have hrow1 : ∀ b : SAcct, ((A.set (0 + (sget T x.item).toNat) b).map eAcct)[0 + (sget T x.item).toNat]? = some (eAcct b) := fun b => by rw [List.getElem?_map, set_at hg0 b]; rfl
      have hbb := billF_lim hA (n := (k : Int) + 1) (by omega) (by omega)
      have hbl : billF l ((k : Int) + 1) = if 0 < invF l ((k : Int) + 1) l.length then valF l ((k : Int) + 1) (invF l ((k : Int) + 1) l.length - 1).toNat else 0 := rfl
      have hval2 : 0 < invF l ((k : Int) + 1) l.length → Ret Tryz.prog .shared 145 [.dref (eBook l) 0, I ((k : Int) + 1), I (invF l ((k : Int) + 1) l.length)] (I (valF l ((k : Int) + 1) (invF l ((k : Int) + 1) l.length - 1).toNat)) := fun hp => by
        have hb := inv_bounds hp
        have := value_ret l hO ((k : Int) + 1) (invF l ((k : Int) + 1) l.length - 1).toNat (by omega) (by omega) (by omega)
        rwa [show (((invF l ((k : Int) + 1) l.length - 1).toNat : Nat) : Int) + 1 = invF l ((k : Int) + 1) l.length by omega] at this
      generalize valF l ((k : Int) + 1) (invF l ((k : Int) + 1) l.length - 1).toNat = vb at *
      generalize invF l ((k : Int) + 1) l.length = iv at *
      have hwb : iv > 0 → IntKind.wrap .i64 (a.bil + vb) = a.bil + vb := fun hp => by rw [hbl, if_pos hp] at hbb; have := hbb.1; have := hbb.2; exact wrap_i64 (by omega) (by omega)
      repeat (refine stp rfl ?_ ?_;·repeat' constructor)
      apply qst;exact rfl;exact rfl;exact q_callP rfl (hs0) rfl (by repeat' constructor) rfl rfl
      cases sg with
      | false =>
        rw [show a.sig + (if false = true then v else 0) = a.sig from Int.add_zero _] at hst
        repeat (refine stp rfl ?_ ?_;·repeat' constructor)
        apply qst;exact rfl;exact rfl;exact q_lookV none (mval_kv ((k : Int) + 1) (covOut l o l.length)) (keyedG_kv _) zone3 rfl rfl rfl rfl rfl rfl rfl rfl rfl
        rw [hcv]
        repeat (refine stp rfl ?_ ?_;·repeat' constructor)
        refine pw_cond rfl (fun h => ?_) (fun h => ?_)
        · have hp := of_decide_eq_true h
          clear h
          have hval2 := hval2 hp
          rw [if_pos hp] at hbl
          rw [hbl] at hst
          repeat (refine stp rfl ?_ ?_;·repeat' constructor)
          refine pw_draw 11 [116, 117, 118, 119, 120, 121, 122, 123, 124, 125, 126] (by decide +kernel) ?_
          repeat (refine stp rfl ?_ ?_;·repeat' constructor)
          apply qst;exact rfl;exact rfl;exact q_ldp rfl rfl rfl (hrow1 { a with chg := a.chg + v }) rfl
          repeat (refine stp rfl ?_ ?_;·repeat' constructor)
          apply qst;exact rfl;exact rfl;exact q_callP rfl (hval2) rfl (by repeat' constructor) rfl rfl
          repeat (refine stp rfl ?_ ?_;·repeat' constructor)
          rw [hwb hp]
          repeat (refine stp rfl ?_ ?_;·repeat' constructor)
          refine ps_run0 (o_storeM (enc := eAcct) { { a with chg := a.chg + v } with bil := a.bil + vb } (kd' := 0) rfl rfl rfl (set_at hg0 { a with chg := a.chg + v }) rfl rfl ⟨trivial, trivial⟩ rfl rfl rfl rfl rfl ?_)
          rw [List.set_set]
          repeat (refine stp rfl ?_ ?_;·repeat' constructor)
          exact ⟨(k + 1, g), hlt, by show l.length - (k + 1) < l.length - k; omega, rfl, rfl, by rw [hst]; show PV.als 5 g 0 (A.map eAcct).length = PV.als 5 g 0 ((A.set _ _).map eAcct).length; rw [List.length_map, List.length_map, List.length_set], rfl, rfl, rfl, rfl, rfl, i64_next (by omega) (by omega), by rw [hst]; rfl, by rw [hst]; rfl, trivial⟩
        · have hp := of_decide_eq_false h
          clear h
          rw [if_neg hp] at hbl
          rw [hbl, Int.add_zero] at hst
          repeat (refine stp rfl ?_ ?_;·repeat' constructor)
          exact ⟨(k + 1, g), hlt, by show l.length - (k + 1) < l.length - k; omega, rfl, rfl, by rw [hst]; show PV.als 5 g 0 (A.map eAcct).length = PV.als 5 g 0 ((A.set _ _).map eAcct).length; rw [List.length_map, List.length_map, List.length_set], rfl, rfl, rfl, rfl, rfl, i64_next (by omega) (by omega), by rw [hst]; rfl, by rw [hst]; rfl, trivial⟩
      | true =>
        rw [show a.sig + (if true = true then v else 0) = a.sig + v from rfl] at hst
        repeat (refine stp rfl ?_ ?_;·repeat' constructor)
        apply qst;exact rfl;exact rfl;exact q_ldp rfl rfl rfl (hrow1 { a with chg := a.chg + v }) rfl
        repeat (refine stp rfl ?_ ?_;·repeat' constructor)
        rw [hws]
        repeat (refine stp rfl ?_ ?_;·repeat' constructor)
        refine ps_run0 (o_storeM (enc := eAcct) { a with chg := a.chg + v, sig := a.sig + v } (kd' := 0) rfl rfl rfl (set_at hg0 { a with chg := a.chg + v }) rfl rfl ⟨trivial, trivial⟩ rfl rfl rfl rfl rfl ?_)
        rw [List.set_set]
        repeat (refine stp rfl ?_ ?_;·repeat' constructor)
        apply qst;exact rfl;exact rfl;exact q_lookV none (mval_kv ((k : Int) + 1) (covOut l o l.length)) (keyedG_kv _) zone3 rfl rfl rfl rfl rfl rfl rfl rfl rfl
        rw [hcv]
        repeat (refine stp rfl ?_ ?_;·repeat' constructor)
        refine pw_cond rfl (fun h => ?_) (fun h => ?_)
        · have hp := of_decide_eq_true h
          clear h
          have hval2 := hval2 hp
          rw [if_pos hp] at hbl
          rw [hbl] at hst
          repeat (refine stp rfl ?_ ?_;·repeat' constructor)
          refine pw_draw 11 [116, 117, 118, 119, 120, 121, 122, 123, 124, 125, 126] (by decide +kernel) ?_
          repeat (refine stp rfl ?_ ?_;·repeat' constructor)
          apply qst;exact rfl;exact rfl;exact q_ldp rfl rfl rfl (hrow1 { a with chg := a.chg + v, sig := a.sig + v }) rfl
          repeat (refine stp rfl ?_ ?_;·repeat' constructor)
          apply qst;exact rfl;exact rfl;exact q_callP rfl (hval2) rfl (by repeat' constructor) rfl rfl
          repeat (refine stp rfl ?_ ?_;·repeat' constructor)
          rw [hwb hp]
          repeat (refine stp rfl ?_ ?_;·repeat' constructor)
          refine ps_run0 (o_storeM (enc := eAcct) { { a with chg := a.chg + v, sig := a.sig + v } with bil := a.bil + vb } (kd' := 0) rfl rfl rfl (set_at hg0 { a with chg := a.chg + v, sig := a.sig + v }) rfl rfl ⟨trivial, trivial⟩ rfl rfl rfl rfl rfl ?_)
          rw [List.set_set]
          repeat (refine stp rfl ?_ ?_;·repeat' constructor)
          exact ⟨(k + 1, g), hlt, by show l.length - (k + 1) < l.length - k; omega, rfl, rfl, by rw [hst]; show PV.als 5 g 0 (A.map eAcct).length = PV.als 5 g 0 ((A.set _ _).map eAcct).length; rw [List.length_map, List.length_map, List.length_set], rfl, rfl, rfl, rfl, rfl, i64_next (by omega) (by omega), by rw [hst]; rfl, by rw [hst]; rfl, trivial⟩
        · have hp := of_decide_eq_false h
          clear h
          rw [if_neg hp] at hbl
          rw [hbl, Int.add_zero] at hst
          repeat (refine stp rfl ?_ ?_;·repeat' constructor)
          exact ⟨(k + 1, g), hlt, by show l.length - (k + 1) < l.length - k; omega, rfl, rfl, by rw [hst]; show PV.als 5 g 0 (A.map eAcct).length = PV.als 5 g 0 ((A.set _ _).map eAcct).length; rw [List.length_map, List.length_map, List.length_set], rfl, rfl, rfl, rfl, rfl, i64_next (by omega) (by omega), by rw [hst]; rfl, by rw [hst]; rfl, trivial⟩
    rw [if_neg h3] at hst
    repeat (first|(refine stp rfl ?_ ?_;·repeat' constructor)|(refine pw_cond rfl (fun hA => absurd hA (by intro hA; simp only [decide_eq_true_eq, decide_eq_false_iff_not, Bool.not_eq_true', Bool.not_eq_false'] at hA; omega)) (fun _ => ?_))|(refine pw_cond rfl (fun _ => ?_) (fun hA => absurd hA (by intro hA; simp only [decide_eq_true_eq, decide_eq_false_iff_not, Bool.not_eq_true', Bool.not_eq_false'] at hA; omega))))
    exact ⟨(k + 1, g), hlt, by show l.length - (k + 1) < l.length - k; omega, rfl, rfl, by rw [hst]; rfl, rfl, rfl, rfl, rfl, rfl, i64_next (by omega) (by omega), by rw [hst]; rfl, by rw [hst]; rfl, trivial⟩
  · have hz : k = l.length := by have := of_decide_eq_false h; omega
    subst hz
    clear h
    have hinv := accK_inv hA o l.length (Nat.le_refl _)
    have hlim : ∀ a, a ∈ (accK l o l.length).1 → LimA 400000000000 a := fun a ha => (hinv.lim a ha).mono (by omega)
    have hAn : (accK l o l.length).1.length ≤ 400 := Nat.le_trans hinv.len hl
    clear hinv
    rw [accP]
    generalize (accK l o l.length).1 = A at *
    have hAl : ((A.map eAcct).length : Int) = A.length := by simp
    have hA0 : ovrK A 0 = A := by simp [ovrK]
    repeat (refine stp rfl ?_ ?_;·repeat' constructor)
    rw [hAl]
    refine pw_loop (fun j => j ≤ A.length) (fun j => [(5, .als 5 g 0 (A.map eAcct).length), (128, .als 5 g 0 (A.map eAcct).length), (129, I A.length), (130, I j)]) (fun j => [(5, g, ⟨185, 7, (ovrK A j).map eAcct, 0⟩)]) (fun j => A.length - j) 0 (Nat.zero_le _) ⟨rfl, rfl, rfl, rfl, by rw [hA0]; rfl, trivial⟩ ?_
    intro j s2 hj
    have hj : j ≤ A.length := hj
    repeat (refine stp rfl ?_ ?_;·repeat' constructor)
    refine pw_cond rfl (fun h => ?_) (fun h => ?_)
    · have hlt : j < A.length := by have := of_decide_eq_true h; omega
      clear h
      obtain ⟨a, ha⟩ := get_lt hlt
      obtain ⟨hk1, hk2⟩ := ovrK_at ha
      obtain ⟨e1, e2, e3, e4, e5, e6⟩ := hlim a (List.mem_of_getElem? ha)
      have hrow : ((ovrK A j).map eAcct)[0 + (j : Int).toNat]? = some (eAcct a) := by rw [List.getElem?_map, Int.toNat_natCast, Nat.zero_add, hk1]; rfl
      have hw1 : IntKind.wrap .i64 (a.chg - a.est) = a.chg - a.est := wrap_i64 (by omega) (by omega)
      have hw2 : IntKind.wrap .i64 (a.chg - a.est - a.gro) = a.chg - a.est - a.gro := wrap_i64 (by omega) (by omega)
      have hAj : j < (A.map eAcct).length := by simpa using hlt
      repeat (refine stp rfl ?_ ?_;·repeat' constructor)
      apply qst;exact rfl;exact rfl;exact q_idxA rfl rfl rfl rfl rfl rfl rfl (by omega) (by omega)
      apply qst;exact rfl;exact rfl;exact q_ldp rfl rfl rfl hrow rfl
      repeat (refine stp rfl ?_ ?_;·repeat' constructor)
      rw [hw1, hw2]
      have hm : (if 0 < a.chg - a.est - a.gro then a.chg - a.est - a.gro else 0) = max 0 (a.chg - a.est - a.gro) := by split <;> omega
      have hg1 : (ovrK A j)[0 + (j : Int).toNat]? = some a := by rw [Int.toNat_natCast, Nat.zero_add]; exact hk1
      have hset : (ovrK A j).set (0 + (j : Int).toNat) (ovrA a) = ovrK A (j + 1) := by rw [Int.toNat_natCast, Nat.zero_add]; exact hk2
      repeat (refine stp rfl ?_ ?_;·repeat' constructor)
      rw [hm]
      apply qst;exact rfl;exact rfl;exact q_idxA rfl rfl rfl rfl rfl rfl rfl (by omega) (by omega)
      repeat (refine stp rfl ?_ ?_;·repeat' constructor)
      refine ps_run0 (o_storeM (enc := eAcct) (ovrA a) (kd' := 0) rfl rfl rfl hg1 rfl rfl ⟨trivial, trivial⟩ rfl rfl rfl rfl rfl ?_)
      rw [hset]
      repeat (refine stp rfl ?_ ?_;·repeat' constructor)
      exact ⟨j + 1, hlt, by omega, rfl, rfl, rfl, i64_next (by omega) (by omega), rfl, trivial⟩
    · have hz : j = A.length := by have := of_decide_eq_false h; omega
      subst hz
      have hfull : ovrK A A.length = A.map ovrA := by simp [ovrK]
      rw [hfull]
      repeat (refine stp rfl ?_ ?_;·repeat' constructor)
      exact end1f rfl rfl rfl ⟨rfl, rfl, by simp⟩ rfl
end Go.Pv


set_option maxHeartbeats 2000000
namespace Go.Pv
attribute [local irreducible] PWP POps PQuiet PSem XThen XBlock RetPost InlPost
open Go.Proofs
theorem ordered_ret (l : List SPost) (hO : Ok l) (o : Str) : Ret Tryz.prog .shared 104 [.dref (eBook l) 0, .str o] (I (standE l (ordNo l o))) := by
  have ho := (ordR_at l o).1
  have hs := standing_ret l hO.wf (ordNo l o) (ordNo_le l o).2
  refine Ret.of_pwp layOk mixed Go.Proofs.Tryz.func104 rfl (by decide) rfl rfl ?_
  repeat (refine stp rfl ?_ ?_;·repeat' constructor)
  apply qst;exact rfl;exact rfl;exact q_lookV none ho (ordR_keyed l) zone3 rfl rfl rfl rfl rfl rfl rfl rfl rfl
  repeat (refine stp rfl ?_ ?_;·repeat' constructor)
  apply qst;exact rfl;exact rfl;exact q_callP rfl (hs) rfl (by repeat' constructor) rfl rfl
  repeat (refine stp rfl ?_ ?_;·repeat' constructor)
  exact end1i rfl rfl rfl
def sumI (A : List SAcct) (f : SAcct → Int) (j : Nat) : Int := ((A.take j).map f).sum
theorem sumI_succ {A : List SAcct} {f : SAcct → Int} {j : Nat} {a : SAcct} (h : A[j]? = some a) : sumI A f (j + 1) = sumI A f j + f a := by
  rw [sumI, take_snoc h, List.map_append, List.sum_append]; simp [sumI]
theorem sumI_lim {A : List SAcct} {f : SAcct → Int} {B : Int} (hB : ∀ a, a ∈ A → -B ≤ f a ∧ f a ≤ B) : ∀ j : Nat, j ≤ A.length → -(B * j) ≤ sumI A f j ∧ sumI A f j ≤ B * j
  | 0, _ => by simp [sumI]
  | j + 1, h => by
    obtain ⟨a, ha⟩ := get_lt (show j < A.length by omega)
    have ih := sumI_lim hB j (by omega)
    have hb := hB a (List.mem_of_getElem? ha)
    have hm : B * ((j + 1 : Nat) : Int) = B * j + B := by rw [Int.natCast_add, Int.mul_add]; simp
    rw [sumI_succ ha, hm]
    omega
def payB (l : List SPost) (o : Str) (k : Nat) : Bool := decide ((entL l ((k : Int) + 1)).op = 7) && decide ((entL l ((k : Int) + 1)).order = o) && liveB l ((k : Int) + 1)
def payK (l : List SPost) (o : Str) : Nat → Int
  | 0 => 0
  | k + 1 => if payB l o k = true then payK l o k + (entL l ((k : Int) + 1)).amount else payK l o k
theorem payK_lim {l : List SPost} (h : Acc l) (o : Str) : ∀ k : Nat, k ≤ l.length → -(1000000000 * (k : Int)) ≤ payK l o k ∧ payK l o k ≤ 1000000000 * (k : Int)
  | 0, _ => by simp [payK]
  | k + 1, hk => by
    have ih := payK_lim h o k (by omega)
    have := h.amt _ _ (entL_at (l := l) (n := (k : Int) + 1) (by omega) (by omega))
    have h1 := this.1
    have h2 := this.2
    rw [payK]
    split <;> omega
def balV (l : List SPost) (o : Str) : List PV :=
  let A := accP l o
  let n := A.length
  [I (sumI A (·.est) n), I (sumI A (·.gro) n), I (sumI A (·.chg) n), I (sumI A (·.bil) n), I (payK l o l.length), I (sumI A (·.bil) n - payK l o l.length)]
end Go.Pv


set_option maxHeartbeats 2000000
namespace Go.Pv
attribute [local irreducible] PWP POps PQuiet PSem XThen XBlock RetPost InlPost
open Go.Proofs
theorem accP_lim {l : List SPost} (h : Acc l) (o : Str) : (accP l o).length ≤ 400 ∧ ∀ a, a ∈ accP l o → (-400000000000 ≤ a.est ∧ a.est ≤ 400000000000) ∧ (-400000000000 ≤ a.gro ∧ a.gro ≤ 400000000000) ∧ (-400000000000 ≤ a.chg ∧ a.chg ≤ 400000000000) ∧ (-400000000000 ≤ a.bil ∧ a.bil ≤ 400000000000) := by
  have hinv := accK_inv h o l.length (Nat.le_refl _)
  have hl := h.ok.wf.len
  refine ⟨by rw [accP, List.length_map]; exact Nat.le_trans hinv.len hl, fun a ha => ?_⟩
  rw [accP, List.mem_map] at ha
  obtain ⟨b, hb, rfl⟩ := ha
  obtain ⟨e1, e2, e3, e4, e5, e6⟩ := hinv.lim b hb
  simp only [ovrA]
  omega
set_option maxRecDepth 20000 in
theorem balance_ret (l : List SPost) (hA : Acc l) (o : Str) : Ret Tryz.prog .fresh 55 [.dref (eBook l) 0, .str o] (if standE l (ordNo l o) = 0 then .tup [.agg (balV l o), I 0] else .tup [.agg [I 0, I 0, I 0, I 0, I 0, I 0], I (standE l (ordNo l o))]) := by
  have hO := hA.ok
  have hl := hO.wf.len
  have hll : ((l.map ePost).length : Int) = l.length := by simp
  have h44 := ordered_ret l hO o
  have h45 := accounts_ret l hA o
  obtain ⟨hAn, hlim⟩ := accP_lim hA o
  by_cases hz : standE l (ordNo l o) = 0
  case neg =>
    rw [if_neg hz]
    refine Ret.of_pwp layOk mixed Go.Proofs.Tryz.func55 rfl (by decide) rfl rfl ?_
    repeat (refine stp rfl ?_ ?_;·repeat' constructor)
    apply qst;exact rfl;exact rfl;exact q_callP rfl (h44) rfl (by repeat' constructor) rfl rfl
    repeat (refine stp rfl ?_ ?_;·repeat' constructor)
    refine pw_cond rfl (fun h => ?_) (fun h => ?_)
    · repeat (refine stp rfl ?_ ?_;·repeat' constructor)
      exact endc2f rfl rfl rfl rfl rfl (by repeat' constructor) rfl
    · exact absurd (of_decide_eq_true (by simpa only [Bool.not_eq_false'] using h)) hz
  rw [if_pos hz, balV]
  rw [hz] at h44
  generalize accP l o = A at *
  have hAl : ((A.map eAcct).length : Int) = A.length := by simp
  have b1 := fun j hj => sumI_lim (A := A) (f := (·.est)) (B := 400000000000) (fun a ha => (hlim a ha).1) j hj
  have b2 := fun j hj => sumI_lim (A := A) (f := (·.gro)) (B := 400000000000) (fun a ha => (hlim a ha).2.1) j hj
  have b3 := fun j hj => sumI_lim (A := A) (f := (·.chg)) (B := 400000000000) (fun a ha => (hlim a ha).2.2.1) j hj
  have b4 := fun j hj => sumI_lim (A := A) (f := (·.bil)) (B := 400000000000) (fun a ha => (hlim a ha).2.2.2) j hj
  refine Ret.of_pwp layOk mixed Go.Proofs.Tryz.func55 rfl (by decide) rfl rfl ?_
  repeat (refine stp rfl ?_ ?_;·repeat' constructor)
  apply qst;exact rfl;exact rfl;exact q_callP rfl (h44) rfl (by repeat' constructor) rfl rfl
  repeat (refine stp rfl ?_ ?_;·repeat' constructor)
  apply qst;exact rfl;exact rfl;exact q_callF rfl (h45) rfl (by repeat' constructor) rfl
  repeat (refine stp rfl ?_ ?_;·repeat' constructor)
  rw [hAl]
  refine pw_loop (fun j => j ≤ A.length) (fun j => [(0, .dref (eBook l) 0), (1, .str o), (4, .ptr 4 1 0 0), (7, .ptr 7 1 0 0), (21, .fsl (A.map eAcct)), (22, I A.length), (23, I j)])
    (fun j => [(4, 1, ⟨106, 6, [[I 0, I 0, I 0, I 0, I 0, I 0]], 2⟩), (7, 1, ⟨106, 6, [[I (sumI A (·.est) j), I (sumI A (·.gro) j), I (sumI A (·.chg) j), I (sumI A (·.bil) j), I 0, I 0]], 2⟩)]) (fun j => A.length - j) 0 (Nat.zero_le _) ⟨rfl, rfl, rfl, rfl, rfl, rfl, rfl, rfl, rfl, trivial⟩ ?_
  intro j s hj
  have hj : j ≤ A.length := hj
  repeat (refine stp rfl ?_ ?_;·repeat' constructor)
  refine pw_cond rfl (fun h => ?_) (fun h => ?_)
  · have hlt : j < A.length := by have := of_decide_eq_true h; omega
    clear h
    obtain ⟨a, ha⟩ := get_lt hlt
    have w : ∀ (f : SAcct → Int), (∀ j, j ≤ A.length → -(400000000000 * (j : Int)) ≤ sumI A f j ∧ sumI A f j ≤ 400000000000 * (j : Int)) → IntKind.wrap .i64 (sumI A f j + f a) = sumI A f (j + 1) := fun f hb => by
      have := hb (j + 1) hlt
      rw [← sumI_succ ha, wrap_i64 (by omega) (by omega)]
    have w1 := w _ b1
    have w2 := w _ b2
    have w3 := w _ b3
    have w4 := w _ b4
    repeat (refine stp rfl ?_ ?_;·repeat' constructor)
    apply qst;exact rfl;exact rfl;exact q_idxmF rfl rfl rfl rfl rfl (by omega) ha rfl
    repeat (refine stp rfl ?_ ?_;·repeat' constructor)
    exact ⟨j + 1, hlt, by omega, rfl, rfl, rfl, rfl, rfl, rfl, i64_next (by omega) (by omega), rfl, by rw [← w1, ← w2, ← w3, ← w4]; rfl, trivial⟩
  · have hz : j = A.length := by have := of_decide_eq_false h; omega
    subst hz
    clear h
    have b4 := b4 A.length (Nat.le_refl _)
    generalize sumI A (·.est) A.length = s1 at *
    generalize sumI A (·.gro) A.length = s2 at *
    generalize sumI A (·.chg) A.length = s3 at *
    generalize sumI A (·.bil) A.length = s4 at *
    repeat (refine stp rfl ?_ ?_;·repeat' constructor)
    rw [hll]
    refine pw_loop (fun k => k ≤ l.length) (fun k => [(0, .dref (eBook l) 0), (1, .str o), (4, .ptr 4 1 0 0), (7, .ptr 7 1 0 0), (55, .sl (l.map ePost)), (56, I l.length), (57, I k)])
      (fun k => [(4, 1, ⟨106, 6, [[I 0, I 0, I 0, I 0, I 0, I 0]], 2⟩), (7, 1, ⟨106, 6, [[I s1, I s2, I s3, I s4, I (payK l o k), I 0]], 2⟩)]) (fun k => l.length - k) 0 (Nat.zero_le _) ⟨rfl, rfl, rfl, rfl, rfl, rfl, rfl, rfl, rfl, trivial⟩ ?_
    intro k s5 hk
    have hk : k ≤ l.length := hk
    have hpl := payK_lim hA o k hk
    repeat (refine stp rfl ?_ ?_;·repeat' constructor)
    refine pw_cond rfl (fun h => ?_) (fun h => ?_)
    · have hlt : k < l.length := by have := of_decide_eq_true h; omega
      clear h
      have hx : l[k]? = some (entL l ((k : Int) + 1)) := by
        have := entL_at (l := l) (n := (k : Int) + 1) (by omega) (by omega)
        rwa [show ((k : Int) + 1 - 1).toNat = k by omega] at this
      have hv := live_ret l hO.wf ((k : Int) + 1) (by omega)
      have hst : payK l o (k + 1) = if payB l o k = true then payK l o k + (entL l ((k : Int) + 1)).amount else payK l o k := rfl
      have hw : IntKind.wrap .i64 ((k : Int) + 1) = (k : Int) + 1 := wrap_i64 (by omega) (by omega)
      have hpl2 := payK_lim hA o (k + 1) hlt
      rw [payB] at hst
      generalize entL l ((k : Int) + 1) = x at *
      repeat (refine stp rfl ?_ ?_;·repeat' constructor)
      apply qst;exact rfl;exact rfl;exact q_idxm rfl rfl rfl rfl rfl (by omega) hx rfl
      repeat (refine stp rfl ?_ ?_;·repeat' constructor)
      (first | refine ps_split rfl rfl (fun h => ?_) (fun h => ?_) | refine pq_split rfl rfl (fun h => ?_) (fun h => ?_) | refine p3_split rfl rfl (fun h => ?_) (fun h => ?_))
      rotate_left
      · have g1 := of_decide_eq_false h
        rw [decide_eq_false g1, Bool.false_and, Bool.false_and, if_neg (by simp)] at hst
        repeat (refine stp rfl ?_ ?_;·repeat' constructor)
        exact ⟨k + 1, hlt, by omega, rfl, rfl, rfl, rfl, rfl, rfl, i64_next (by omega) (by omega), rfl, by rw [hst]; rfl, trivial⟩
      have g1 := of_decide_eq_true h
      clear h
      rw [decide_eq_true g1, Bool.true_and] at hst
      repeat (refine stp rfl ?_ ?_;·repeat' constructor)
      (first | refine ps_split rfl rfl (fun h => ?_) (fun h => ?_) | refine pq_split rfl rfl (fun h => ?_) (fun h => ?_) | refine p3_split rfl rfl (fun h => ?_) (fun h => ?_))
      rotate_left
      · have g2 := of_decide_eq_false h
        rw [decide_eq_false g2, Bool.false_and, if_neg (by simp)] at hst
        repeat (refine stp rfl ?_ ?_;·repeat' constructor)
        exact ⟨k + 1, hlt, by omega, rfl, rfl, rfl, rfl, rfl, rfl, i64_next (by omega) (by omega), rfl, by rw [hst]; rfl, trivial⟩
      have g2 := of_decide_eq_true h
      clear h
      rw [decide_eq_true g2, Bool.true_and] at hst
      generalize liveB l ((k : Int) + 1) = lv at *
      repeat (refine stp rfl ?_ ?_;·repeat' constructor)
      rw [hw]
      apply qst;exact rfl;exact rfl;exact q_callP rfl (hv) rfl (by repeat' constructor) rfl rfl
      cases lv with
      | false =>
        rw [if_neg (by simp)] at hst
        repeat (refine stp rfl ?_ ?_;·repeat' constructor)
        exact ⟨k + 1, hlt, by omega, rfl, rfl, rfl, rfl, rfl, rfl, i64_next (by omega) (by omega), rfl, by rw [hst]; rfl, trivial⟩
      | true =>
        rw [if_pos rfl] at hst
        have hwp : IntKind.wrap .i64 (payK l o k + x.amount) = payK l o (k + 1) := by rw [← hst, wrap_i64 (by omega) (by omega)]
        repeat (refine stp rfl ?_ ?_;·repeat' constructor)
        exact ⟨k + 1, hlt, by omega, rfl, rfl, rfl, rfl, rfl, rfl, i64_next (by omega) (by omega), rfl, by rw [← hwp]; rfl, trivial⟩
    · have hz : k = l.length := by have := of_decide_eq_false h; omega
      subst hz
      have hwd : IntKind.wrap .i64 (s4 - payK l o l.length) = s4 - payK l o l.length := wrap_i64 (by omega) (by omega)
      repeat (refine stp rfl ?_ ?_;·repeat' constructor)
      rw [hwd]
      repeat (refine stp rfl ?_ ?_;·repeat' constructor)
      exact endc2f rfl rfl rfl rfl rfl (by repeat' constructor) rfl
end Go.Pv


set_option maxHeartbeats 2000000
namespace Go.Pv
attribute [local irreducible] PWP POps PQuiet PSem XThen XBlock RetPost InlPost
open Go.Proofs
theorem ex_bal : balV exL exO = [I 5000, I 0, I 3000, I 3000, I 0, I 3000] := by
  have h1 : sumI (accP exL exO) (·.est) (accP exL exO).length = 5000 := by decide +kernel
  have h2 : sumI (accP exL exO) (·.gro) (accP exL exO).length = 0 := by decide +kernel
  have h3 : sumI (accP exL exO) (·.chg) (accP exL exO).length = 3000 := by decide +kernel
  have h4 : sumI (accP exL exO) (·.bil) (accP exL exO).length = 3000 := by decide +kernel
  have h5 : payK exL exO exL.length = 0 := by decide +kernel
  simp only [balV, h1, h2, h3, h4, h5]
  rfl
theorem balT : eqT Tryz.prog 106 [.int .i64, .int .i64, .int .i64, .int .i64, .int .i64, .int .i64] = true := by decide +kernel
set_option maxRecDepth 20000 in
theorem awake_ret : Ret Tryz.prog .shared 11 [] (.bool true) := by
  have hld := load_ret exL (by decide)
  obtain ⟨e1, e2, e3⟩ := exL_acc.lod
  rw [e1, e2, e3] at hld
  have hb := balance_ret exL exL_acc exO
  rw [if_pos (by decide), ex_bal] at hb
  have hf := format_ret ⟨3, 1, exO, exI, [], [97, 110, 110], 3000, 0, 0⟩ (by decide)
  rw [exText] at hf
  have hx : exL[2]? = some ⟨3, 1, exO, exI, [], [97, 110, 110], 3000, 0, 0⟩ := rfl
  refine Ret.of_pwp layOk mixed Go.Proofs.Tryz.func11 rfl (by decide) rfl rfl ?_
  repeat (refine stp rfl ?_ ?_;·repeat' constructor)
  apply qst;exact rfl;exact rfl;exact q_callF rfl (example_ret) rfl (by repeat' constructor) rfl
  repeat (refine stp rfl ?_ ?_;·repeat' constructor)
  apply qst;exact rfl;exact rfl;exact q_callF rfl (hld) rfl (by repeat' constructor) rfl
  repeat (refine stp rfl ?_ ?_;·repeat' constructor)
  apply qst;exact rfl;exact rfl;exact q_callF rfl (hb) rfl (by repeat' constructor) rfl
  repeat (refine stp rfl ?_ ?_;·repeat' constructor)
  apply qst;exact rfl;exact rfl;exact q_callF rfl (example_ret) rfl (by repeat' constructor) rfl
  repeat (refine stp rfl ?_ ?_;·repeat' constructor)
  apply qst;exact rfl;exact rfl;exact q_idxmF rfl rfl rfl rfl rfl (by omega) hx rfl
  repeat (refine stp rfl ?_ ?_;·repeat' constructor)
  apply qst;exact rfl;exact rfl;exact q_callP rfl (hf) rfl (by repeat' constructor) rfl rfl
  repeat (refine stp rfl ?_ ?_;·repeat' constructor)
  apply qst;exact rfl;exact rfl;exact q_seqE balT rfl rfl rfl
  repeat (refine stp rfl ?_ ?_;·repeat' constructor)
  exact end1b rfl rfl rfl
end Go.Pv


set_option maxHeartbeats 2000000
namespace Go.Pv
attribute [local irreducible] PWP POps PQuiet PSem XThen XBlock RetPost InlPost
open Go.Proofs
theorem setT : eqT Tryz.prog 149 [.str, .str] = true := by kernel_rfl
theorem edT : eqT Tryz.prog 159 [.str, .str, .str, .bool, .bool] = true := by kernel_rfl
theorem leq_set (x : SSet) : leqs [.str, .str] (eSet x) (eSet x) = some true := by
  obtain ⟨a, b⟩ := x
  simp [leqs, eSet]
theorem leq_ed (x : SEdit) : leqs [.str, .str, .str, .bool, .bool] (eEd x) (eEd x) = some true := by
  obtain ⟨a, b, c, d, e⟩ := x
  simp [leqs, eEd]
theorem settings_same (l : List SSet) (hw : l.length ≤ 1000000) : Ret Tryz.prog .shared 31 [.sl (l.map eSet), .sl (l.map eSet)] (.bool true) := by
  have hll : ((l.map eSet).length : Int) = l.length := by simp
  refine Ret.of_pwp layOk mixed Go.Proofs.Tryz.func31 rfl (by decide) rfl rfl ?_
  repeat (refine stp rfl ?_ ?_;·repeat' constructor)
  refine pw_cond rfl (fun h => ?_) (fun h => ?_)
  · exact absurd h (by simp)
  clear h
  repeat (refine stp rfl ?_ ?_;·repeat' constructor)
  refine pw_loop (fun k => k ≤ l.length) (fun k => [(0, .sl (l.map eSet)), (1, .sl (l.map eSet)), (5, I k)]) (fun _ => []) (fun k => l.length - k) 0 (Nat.zero_le _) ⟨rfl, rfl, rfl, trivial⟩ ?_
  intro k s hk
  have hk : k ≤ l.length := hk
  repeat (refine stp rfl ?_ ?_;·repeat' constructor)
  rw [hll]
  refine pw_cond rfl (fun h => ?_) (fun h => ?_)
  · have hlt : k < l.length := by have := of_decide_eq_true h; omega
    obtain ⟨x, hx⟩ := get_lt hlt
    clear h
    repeat (refine stp rfl ?_ ?_;·repeat' constructor)
    refine pw_draw 9 [17, 18, 19, 20, 21, 22, 23, 24, 25] (by decide +kernel) ?_
    repeat (refine stp rfl ?_ ?_;·repeat' constructor)
    apply qst;exact rfl;exact rfl;exact q_idxm rfl rfl rfl rfl rfl (by omega) hx rfl
    repeat (refine stp rfl ?_ ?_;·repeat' constructor)
    apply qst;exact rfl;exact rfl;exact q_idxm rfl rfl rfl rfl rfl (by omega) hx rfl
    repeat (refine stp rfl ?_ ?_;·repeat' constructor)
    apply qst;exact rfl;exact rfl;exact q_seqN setT rfl rfl (leq_set x)
    repeat (refine stp rfl ?_ ?_;·repeat' constructor)
    exact ⟨k + 1, hlt, by omega, rfl, rfl, i64_next (by omega) (by omega), trivial⟩
  · repeat (refine stp rfl ?_ ?_;·repeat' constructor)
    exact end1b rfl rfl rfl
theorem edits_same (l : List SEdit) (hw : l.length ≤ 1000000) : Ret Tryz.prog .shared 41 [.sl (l.map eEd), .sl (l.map eEd)] (.bool true) := by
  have hll : ((l.map eEd).length : Int) = l.length := by simp
  refine Ret.of_pwp layOk mixed Go.Proofs.Tryz.func41 rfl (by decide) rfl rfl ?_
  repeat (refine stp rfl ?_ ?_;·repeat' constructor)
  refine pw_cond rfl (fun h => ?_) (fun h => ?_)
  · exact absurd h (by simp)
  clear h
  repeat (refine stp rfl ?_ ?_;·repeat' constructor)
  refine pw_loop (fun k => k ≤ l.length) (fun k => [(0, .sl (l.map eEd)), (1, .sl (l.map eEd)), (5, I k)]) (fun _ => []) (fun k => l.length - k) 0 (Nat.zero_le _) ⟨rfl, rfl, rfl, trivial⟩ ?_
  intro k s hk
  have hk : k ≤ l.length := hk
  repeat (refine stp rfl ?_ ?_;·repeat' constructor)
  rw [hll]
  refine pw_cond rfl (fun h => ?_) (fun h => ?_)
  · have hlt : k < l.length := by have := of_decide_eq_true h; omega
    obtain ⟨x, hx⟩ := get_lt hlt
    clear h
    repeat (refine stp rfl ?_ ?_;·repeat' constructor)
    refine pw_draw 9 [17, 18, 19, 20, 21, 22, 23, 24, 25] (by decide +kernel) ?_
    repeat (refine stp rfl ?_ ?_;·repeat' constructor)
    apply qst;exact rfl;exact rfl;exact q_idxm rfl rfl rfl rfl rfl (by omega) hx rfl
    repeat (refine stp rfl ?_ ?_;·repeat' constructor)
    apply qst;exact rfl;exact rfl;exact q_idxm rfl rfl rfl rfl rfl (by omega) hx rfl
    repeat (refine stp rfl ?_ ?_;·repeat' constructor)
    apply qst;exact rfl;exact rfl;exact q_seqN edT rfl rfl (leq_ed x)
    repeat (refine stp rfl ?_ ?_;·repeat' constructor)
    exact ⟨k + 1, hlt, by omega, rfl, rfl, i64_next (by omega) (by omega), trivial⟩
  · repeat (refine stp rfl ?_ ?_;·repeat' constructor)
    exact end1b rfl rfl rfl
def bigS (x : SSet) : Bool := decide (40 < (x.key.length : Int)) || decide (100 < (x.value.length : Int))
def wideB (l : List SSet) : Bool := decide (70 < l.length) || l.any bigS
theorem wide_ret (l : List SSet) : Ret Tryz.prog .shared 28 [.sl (l.map eSet)] (.bool (wideB l)) := by
  have hll : ((l.map eSet).length : Int) = l.length := by simp
  rw [wideB]
  refine Ret.of_pwp layOk mixed Go.Proofs.Tryz.func28 rfl (by decide) rfl rfl ?_
  repeat (refine stp rfl ?_ ?_;·repeat' constructor)
  rw [hll]
  refine pw_cond rfl (fun h => ?_) (fun h => ?_)
  · have := of_decide_eq_true h
    repeat (refine stp rfl ?_ ?_;·repeat' constructor)
    exact end1b rfl rfl (by rw [decide_eq_true (by omega)]; rfl)
  have h40 := of_decide_eq_false h
  clear h
  rw [decide_eq_false (show ¬ 70 < l.length by omega), Bool.false_or]
  repeat (refine stp rfl ?_ ?_;·repeat' constructor)
  refine pw_loop (Clear l bigS) (fun k => [(0, .sl (l.map eSet)), (3, I k)]) (fun _ => []) (fun k => l.length - k) 0 .zero ⟨rfl, rfl, trivial⟩ ?_
  intro k s hk
  repeat (refine stp rfl ?_ ?_;·repeat' constructor)
  rw [hll]
  refine pw_cond rfl (fun h => ?_) (fun h => ?_)
  · have hlt : k < l.length := by have := of_decide_eq_true h; omega
    clear h
    obtain ⟨x, hx⟩ := get_lt hlt
    repeat (refine stp rfl ?_ ?_;·repeat' constructor)
    apply qst;exact rfl;exact rfl;exact q_idxm rfl rfl rfl rfl rfl (by omega) hx rfl
    repeat (refine stp rfl ?_ ?_;·repeat' constructor)
    (first | refine ps_split rfl rfl (fun h => ?_) (fun h => ?_) | refine pq_split rfl rfl (fun h => ?_) (fun h => ?_) | refine p3_split rfl rfl (fun h => ?_) (fun h => ?_))
    · have hb : bigS x = true := by rw [bigS, h]; rfl
      clear h
      repeat (refine stp rfl ?_ ?_;·repeat' constructor)
      exact end1b rfl rfl (by rw [any_of hx hb])
    · have h1 := h
      clear h
      repeat (refine stp rfl ?_ ?_;·repeat' constructor)
      apply qst;exact rfl;exact rfl;exact q_idxm rfl rfl rfl rfl rfl (by omega) hx rfl
      repeat (refine stp rfl ?_ ?_;·repeat' constructor)
      refine pw_cond rfl (fun h => ?_) (fun h => ?_)
      · have hb : bigS x = true := by rw [bigS, h]; simp
        clear h
        repeat (refine stp rfl ?_ ?_;·repeat' constructor)
        exact end1b rfl rfl (by rw [any_of hx hb])
      · have hb : bigS x = false := by rw [bigS, h1, h]; rfl
        clear h
        repeat (refine stp rfl ?_ ?_;·repeat' constructor)
        exact ⟨k + 1, hk.succ hx hb, by omega, rfl, i64_next (by omega) (by omega), trivial⟩
  · have hf : ¬ k < l.length := by have := of_decide_eq_false h; omega
    repeat (refine stp rfl ?_ ?_;·repeat' constructor)
    exact end1b rfl rfl (by rw [hk.any hf])
theorem wideB_sane {l : List SSet} (h : wideB l = false) : SaneS l ∧ l.length ≤ 70 := by
  rw [wideB, Bool.or_eq_false_iff, decide_eq_false_iff_not, List.any_eq_false] at h
  refine ⟨⟨by omega, fun x hx => ?_⟩, by omega⟩
  have := h.2 x hx
  rw [bigS] at this
  simp only [Bool.or_eq_true, decide_eq_true_eq, not_or] at this
  omega
end Go.Pv


set_option maxHeartbeats 2000000
namespace Go.Pv
attribute [local irreducible] PWP POps PQuiet PSem XThen XBlock RetPost InlPost
open Go.Proofs
theorem diffK_snoc (f g : Str → TV) (ks : List Str) (k : Str) : diffK f g (ks ++ [k]) = diffK f g ks ++ (if f k = g k then [] else [⟨k, (f k).1, (g k).1, (f k).2, (g k).2⟩]) := by
  rw [diffK, List.filter_append, List.map_append, diffK]
  congr 1
  by_cases h : f k = g k <;> simp [h]
theorem diffK_len (f g : Str → TV) (ks : List Str) : (diffK f g ks).length ≤ ks.length := by rw [diffK, List.length_map]; exact List.length_filter_le _ _
theorem keysPR {a b : List SSet} (ha : setsE a = 0) (hb : setsE b = 0) : keysP [tabOf a, tabOf b] = keysR [a, b] :=
  keys_same (ls := [a, b]) fun x hx => setsE_asc (by simp at hx; rcases hx with rfl | rfl <;> assumption)
theorem allE_two (a b : List SSet) : allE [a, b] = if setsE a = 0 then setsE b else setsE a := by
  rw [allE, fstE, fstE, fstE]
  by_cases h : setsE a = 0
  · rw [if_pos h, if_pos h]; split
    · rename_i h2; exact h2.symm
    · rfl
  · rw [if_neg h, if_neg h]
set_option maxRecDepth 20000 in
theorem diff_ret (a b : List SSet) (ha : SaneS a) (hb : SaneS b) (ha2 : a.length ≤ 1000) (hb2 : b.length ≤ 1000) : Ret Tryz.prog .shared 36 [.sl (a.map eSet), .sl (b.map eSet)] (diffV a b) := by
  have hall := checkAll_ret [a, b] (by simp) (fun x hx => by simp at hx; rcases hx with rfl | rfl <;> assumption)
  have htb := tableOf_ret a ha.1
  have htl := tableOf_ret b hb.1
  have n1 := tabOf_len a
  have n2 := tabOf_len b
  have hal : (allK [tabOf a, tabOf b]).length ≤ 2000 := by simp [allK, tkeys]; omega
  have hkl := keysP_len [tabOf a, tabOf b]
  have hks := keys_ret [tabOf a, tabOf b] (by simp) (by omega)
  rw [allE_two] at hall
  have hV : (if setsE a = 0 then setsE b else setsE a) ≠ 0 → diffV a b = edR [] (if setsE a = 0 then setsE b else setsE a) := fun hne => by
    rw [diffV]
    by_cases h1 : setsE a = 0
    · rw [if_pos h1] at hne ⊢; rw [if_neg (by simp [h1]), if_pos hne]
    · rw [if_neg h1]; rw [if_pos h1]
  have hV0 : (if setsE a = 0 then setsE b else setsE a) = 0 → setsE a = 0 ∧ setsE b = 0 := fun h0 => by
    by_cases h1 : setsE a = 0
    · rw [if_pos h1] at h0; exact ⟨h1, h0⟩
    · rw [if_neg h1] at h0; exact absurd h0 h1
  generalize (if setsE a = 0 then setsE b else setsE a) = e at *
  refine Ret.of_pwp layOk mixed Go.Proofs.Tryz.func36 rfl (by decide) rfl rfl ?_
  repeat (refine stp rfl ?_ ?_;·repeat' constructor)
  refine ps_run (o_slit 1 rfl rfl rfl rfl rfl rfl rfl rfl rfl rfl rfl (by repeat' constructor) rfl ?_)
  repeat (refine stp rfl ?_ ?_;·repeat' constructor)
  apply qst;exact rfl;exact rfl;exact q_callP rfl (hall) rfl (by repeat' constructor) rfl rfl
  repeat (refine stp rfl ?_ ?_;·repeat' constructor)
  refine pw_cond rfl (fun h => ?_) (fun h => ?_)
  · have hne : e ≠ 0 := by simpa using h
    ((repeat (first | refine ps_nil ?_ | refine pq_nil ?_ | refine x_norm ?_ | refine pw_seq ?_)); refine pw_region ?_)
    refine ps_v rfl trivial ?_
    refine ps_v rfl trivial ?_
    refine ps_v rfl trivial ?_
    refine ps_nil ?_
    refine x_norm ?_
    refine pw_ghost (Ghost.nilsl (t := 4) rfl) ?_
    repeat (refine stp rfl ?_ ?_;·repeat' constructor)
    exact end2 rfl rfl rfl rfl rfl trivial trivial (by rw [hV hne]; rfl)
  · have h0 : e = 0 := by simpa using h
    subst h0
    clear h
    obtain ⟨za, zb⟩ := hV0 rfl
    have hD : diffV a b = edR (diffK (tget (tabOf a)) (tget (tabOf b)) (keysP [tabOf a, tabOf b])) 0 := by
      rw [diffV, if_neg (by simp [za]), if_neg (by simp [zb]), keysPR za zb, diffR]
      have q1 : tget (tabOf a) = findS a := funext fun k => tget_tabOf (asc_nodup (setsE_asc za)) k
      have q2 : tget (tabOf b) = findS b := funext fun k => tget_tabOf (asc_nodup (setsE_asc zb)) k
      rw [q1, q2]
    rw [hD]
    clear hV hV0 hD
    repeat (refine stp rfl ?_ ?_;·repeat' constructor)
    apply qst;exact rfl;exact rfl;exact q_callF rfl (htb) rfl (by repeat' constructor) rfl
    repeat (refine stp rfl ?_ ?_;·repeat' constructor)
    apply qst;exact rfl;exact rfl;exact q_callF rfl (htl) rfl (by repeat' constructor) rfl
    iterate 2 (refine stp rfl ?_ ?_;·repeat' constructor)
    repeat (first | refine pw_exit ?_ | refine pw_skip ?_ | refine x_norm ?_ | refine x_exit ?_ | refine xb_norm ?_ | refine xb_here ?_ | refine xb_away rfl ?_)
    ((repeat (first | refine ps_nil ?_ | refine pq_nil ?_ | refine x_norm ?_ | refine pw_seq ?_)); refine pw_region ?_)
    (first | refine ps_run (o_nilm 159 5 0 rfl rfl ?_) | refine ps_run (o_nila 159 5 0 rfl rfl ?_))
    repeat (refine stp rfl ?_ ?_;·repeat' constructor)
    refine ps_run (o_slit 1 rfl rfl rfl rfl rfl rfl rfl rfl rfl rfl rfl (by repeat' constructor) rfl ?_)
    repeat (refine stp rfl ?_ ?_;·repeat' constructor)
    apply qst;exact rfl;exact rfl;exact q_callF rfl (hks) rfl (by repeat' constructor) rfl
    repeat (refine stp rfl ?_ ?_;·repeat' constructor)
    have hksl : (((keysP [tabOf a, tabOf b]).map eS).length : Int) = (keysP [tabOf a, tabOf b]).length := by simp
    rw [hksl]
    have hkl3 : (keysP [tabOf a, tabOf b]).length ≤ 2000 := Nat.le_trans hkl hal
    clear hks hkl hal htb htl n1 n2 hall
    generalize keysP [tabOf a, tabOf b] = ks at *
    generalize tabOf a = B at *
    generalize tabOf b = X at *
    refine pw_loop (fun k => k ≤ ks.length) (fun k => [(7, .mapd (B.map eTb)), (8, .mapd (X.map eTb)), (9, .als 9 (1 + (diffK (tget B) (tget X) (ks.take k)).length) 0 ((diffK (tget B) (tget X) (ks.take k)).map eEd).length), (26, .fsl (ks.map eS)), (27, I ks.length), (28, I k)])
      (fun k => [(9, 1 + (diffK (tget B) (tget X) (ks.take k)).length, ⟨159, 5, (diffK (tget B) (tget X) (ks.take k)).map eEd, 0⟩)]) (fun k => ks.length - k) 0 (Nat.zero_le _) ⟨rfl, rfl, rfl, rfl, rfl, rfl, rfl, trivial⟩ ?_
    intro k s hk
    have hML : (diffK (tget B) (tget X) (ks.take k)).length ≤ 2000 := Nat.le_trans (diffK_len ..) (by simp; omega)
    repeat (refine stp rfl ?_ ?_;·repeat' constructor)
    refine pw_cond rfl (fun h => ?_) (fun h => ?_)
    · have hlt : k < ks.length := by have := of_decide_eq_true h; omega
      clear h
      obtain ⟨key, hx⟩ := get_lt hlt
      have hC : diffK (tget B) (tget X) (ks.take (k + 1)) = diffK (tget B) (tget X) (ks.take k) ++ (if tget B key = tget X key then [] else [⟨key, (tget B key).1, (tget X key).1, (tget B key).2, (tget X key).2⟩]) := by rw [take_snoc hx, diffK_snoc]
      repeat (refine stp rfl ?_ ?_;·repeat' constructor)
      apply qst;exact rfl;exact rfl;exact q_idxmF rfl rfl rfl rfl rfl (by omega) hx rfl
      repeat (refine stp rfl ?_ ?_;·repeat' constructor)
      apply qst;exact rfl;exact rfl;exact q_look3 rfl rfl rfl rfl rfl rfl rfl
      repeat (refine stp rfl ?_ ?_;·repeat' constructor)
      apply qst;exact rfl;exact rfl;exact q_look3 rfl rfl rfl rfl rfl rfl rfl
      repeat (refine stp rfl ?_ ?_;·repeat' constructor)
      apply qst;exact rfl;exact rfl;exact q_seqN tvT rfl rfl (leq_tv (tget B key) (tget X key))
      repeat (refine stp rfl ?_ ?_;·repeat' constructor)
      refine pw_cond rfl (fun h => ?_) (fun h => ?_)
      · have e1 : ¬ tget B key = tget X key := by simpa using h
        clear h
        rw [if_neg e1] at hC
        repeat (refine stp rfl ?_ ?_;·repeat' constructor)
        apply qst;exact rfl;exact rfl;exact q_look3 rfl rfl rfl rfl rfl rfl rfl
        repeat (refine stp rfl ?_ ?_;·repeat' constructor)
        apply qst;exact rfl;exact rfl;exact q_look3 rfl rfl rfl rfl rfl rfl rfl
        repeat (refine stp rfl ?_ ?_;·repeat' constructor)
        apply qst;exact rfl;exact rfl;exact q_look3 rfl rfl rfl rfl rfl rfl rfl
        repeat (refine stp rfl ?_ ?_;·repeat' constructor)
        apply qst;exact rfl;exact rfl;exact q_look3 rfl rfl rfl rfl rfl rfl rfl
        repeat (refine stp rfl ?_ ?_;·repeat' constructor)
        apply qst;exact rfl;exact rfl;exact q_slit rfl rfl rfl rfl rfl rfl rfl rfl rfl rfl (by repeat' constructor) rfl
        repeat (refine stp rfl ?_ ?_;·repeat' constructor)
        refine ps_run (o_app 0 rfl rfl rfl rfl rfl rfl rfl rfl rfl rfl rfl (by repeat' constructor) (by intro row hr; first | (simp at hr; subst hr; rfl) | simp at hr) rfl rfl (by simp; omega) (by simp; omega) ?_)
        repeat (refine stp rfl ?_ ?_;·repeat' constructor)
        refine ⟨k + 1, hlt, by omega, rfl, rfl, ?_, rfl, rfl, i64_next (by omega) (by omega), ?_, trivial⟩
        · rw [hC]; exact als_snoc eEd 9 1 (diffK (tget B) (tget X) (ks.take k)) ⟨key, (tget B key).1, (tget X key).1, (tget B key).2, (tget X key).2⟩
        · rw [hC]; exact cont_snoc eEd 1 159 5 0 (diffK (tget B) (tget X) (ks.take k)) ⟨key, (tget B key).1, (tget X key).1, (tget B key).2, (tget X key).2⟩
      · have e1 : tget B key = tget X key := by simpa using h
        clear h
        rw [if_pos e1, List.append_nil] at hC
        repeat (refine stp rfl ?_ ?_;·repeat' constructor)
        refine ⟨k + 1, hlt, by omega, rfl, rfl, ?_, rfl, rfl, i64_next (by omega) (by omega), ?_, trivial⟩
        · rw [hC]; rfl
        · rw [hC]; rfl
    · have hge : k = ks.length := by have := of_decide_eq_false h; omega
      subst hge
      clear h
      rw [List.take_length]
      repeat (refine stp rfl ?_ ?_;·repeat' constructor)
      exact end2 rfl rfl rfl rfl rfl ⟨rfl, rfl, rfl⟩ trivial rfl
set_option maxRecDepth 20000 in
theorem diff_ref (a b : List SSet) (ha : SaneS a) (hb : SaneS b) (ha2 : a.length ≤ 1000) (hb2 : b.length ≤ 1000) : Ret Tryz.prog .shared 37 [.sl (a.map eSet), .sl (b.map eSet)] (diffV a b) := by
  have hca := checkSets_ref a ha.1 ha.2
  have hcb := checkSets_ref b hb.1 hb.2
  have hks := keys_refF [a, b] (by simp) (fun x hx => by simp at hx; rcases hx with rfl | rfl <;> assumption)
  have hkl : (keysR [a, b]).length ≤ 2000 := keysR_len (ls := [a, b]) (fun x hx => by simp at hx; rcases hx with rfl | rfl <;> assumption) 2
  rw [diffV]
  generalize setsE a = e1 at *
  generalize setsE b = e2 at *
  refine Ret.of_pwp layOk mixed Go.Proofs.Tryz.func37 rfl (by decide) rfl rfl ?_
  repeat (refine stp rfl ?_ ?_;·repeat' constructor)
  apply qst;exact rfl;exact rfl;exact q_callP rfl (hca) rfl (by repeat' constructor) rfl rfl
  repeat (refine stp rfl ?_ ?_;·repeat' constructor)
  refine pw_cond rfl (fun h => ?_) (fun h => ?_)
  · have hne : e1 ≠ 0 := by simpa using h
    ((repeat (first | refine ps_nil ?_ | refine pq_nil ?_ | refine x_norm ?_ | refine pw_seq ?_)); refine pw_region ?_)
    refine ps_v rfl trivial ?_
    refine ps_v rfl trivial ?_
    refine ps_v rfl trivial ?_
    refine ps_nil ?_
    refine x_norm ?_
    refine pw_ghost (Ghost.nilsl (t := 4) rfl) ?_
    repeat (refine stp rfl ?_ ?_;·repeat' constructor)
    exact end2 rfl rfl rfl rfl rfl trivial trivial (by rw [if_pos hne]; rfl)
  have h10 : e1 = 0 := by simpa using h
  rw [if_neg (by simp [h10])]
  clear h
  repeat (refine stp rfl ?_ ?_;·repeat' constructor)
  apply qst;exact rfl;exact rfl;exact q_callP rfl (hcb) rfl (by repeat' constructor) rfl rfl
  repeat (refine stp rfl ?_ ?_;·repeat' constructor)
  refine pw_cond rfl (fun h => ?_) (fun h => ?_)
  · have hne : e2 ≠ 0 := by simpa using h
    ((repeat (first | refine ps_nil ?_ | refine pq_nil ?_ | refine x_norm ?_ | refine pw_seq ?_)); refine pw_region ?_)
    refine ps_v rfl trivial ?_
    refine ps_v rfl trivial ?_
    refine ps_v rfl trivial ?_
    refine ps_nil ?_
    refine x_norm ?_
    refine pw_ghost (Ghost.nilsl (t := 4) rfl) ?_
    repeat (refine stp rfl ?_ ?_;·repeat' constructor)
    exact end2 rfl rfl rfl rfl rfl trivial trivial (by rw [if_pos hne]; rfl)
  have h20 : e2 = 0 := by simpa using h
  rw [if_neg (by simp [h20])]
  clear h
  rw [diffR]
  repeat (first | refine pw_exit ?_ | refine pw_skip ?_ | refine x_norm ?_ | refine x_exit ?_ | refine xb_norm ?_ | refine xb_here ?_ | refine xb_away rfl ?_)
  ((repeat (first | refine ps_nil ?_ | refine pq_nil ?_ | refine x_norm ?_ | refine pw_seq ?_)); refine pw_region ?_)
  (first | refine ps_run (o_nilm 159 5 0 rfl rfl ?_) | refine ps_run (o_nila 159 5 0 rfl rfl ?_))
  repeat (refine stp rfl ?_ ?_;·repeat' constructor)
  refine ps_run (o_slit 1 rfl rfl rfl rfl rfl rfl rfl rfl rfl rfl rfl (by repeat' constructor) rfl ?_)
  repeat (refine stp rfl ?_ ?_;·repeat' constructor)
  apply qst;exact rfl;exact rfl;exact q_callF rfl (hks) rfl (by repeat' constructor) rfl
  repeat (refine stp rfl ?_ ?_;·repeat' constructor)
  have hksl : (((keysR [a, b]).map eS).length : Int) = (keysR [a, b]).length := by simp
  generalize keysR [a, b] = ks at *
  refine pw_loop (fun k => k ≤ ks.length) (fun k => [(0, .sl (a.map eSet)), (1, .sl (b.map eSet)), (8, .als 8 (1 + (diffK (findS a) (findS b) (ks.take k)).length) 0 ((diffK (findS a) (findS b) (ks.take k)).map eEd).length), (9, .fsl (ks.map eS)), (10, I k)])
    (fun k => [(8, 1 + (diffK (findS a) (findS b) (ks.take k)).length, ⟨159, 5, (diffK (findS a) (findS b) (ks.take k)).map eEd, 0⟩)]) (fun k => ks.length - k) 0 (Nat.zero_le _) ⟨rfl, rfl, rfl, rfl, rfl, rfl, trivial⟩ ?_
  intro k s hk
  have hML : (diffK (findS a) (findS b) (ks.take k)).length ≤ 2000 := Nat.le_trans (diffK_len ..) (by simp; omega)
  repeat (refine stp rfl ?_ ?_;·repeat' constructor)
  rw [hksl]
  refine pw_cond rfl (fun h => ?_) (fun h => ?_)
  · have hlt : k < ks.length := by have := of_decide_eq_true h; omega
    clear h
    obtain ⟨key, hx⟩ := get_lt hlt
    have hC : diffK (findS a) (findS b) (ks.take (k + 1)) = diffK (findS a) (findS b) (ks.take k) ++ (if findS a key = findS b key then [] else [⟨key, (findS a key).1, (findS b key).1, (findS a key).2, (findS b key).2⟩]) := by rw [take_snoc hx, diffK_snoc]
    have f1 := find_ref a key ha.1
    have f2 := find_ref b key hb.1
    generalize findS a key = V at *
    generalize findS b key = W at *
    obtain ⟨v1, v2⟩ := V
    obtain ⟨w1, w2⟩ := W
    generalize diffK (findS a) (findS b) (ks.take k) = D at *
    repeat (refine stp rfl ?_ ?_;·repeat' constructor)
    apply qst;exact rfl;exact rfl;exact q_idxmF rfl rfl rfl rfl rfl (by omega) hx rfl
    repeat (refine stp rfl ?_ ?_;·repeat' constructor)
    apply qst;exact rfl;exact rfl;exact q_call rfl (f1) rfl (by repeat' constructor) rfl
    repeat (refine stp rfl ?_ ?_;·repeat' constructor)
    apply qst;exact rfl;exact rfl;exact q_idxmF rfl rfl rfl rfl rfl (by omega) hx rfl
    repeat (refine stp rfl ?_ ?_;·repeat' constructor)
    apply qst;exact rfl;exact rfl;exact q_call rfl (f2) rfl (by repeat' constructor) rfl
    repeat (refine stp rfl ?_ ?_;·repeat' constructor)
    (first | refine ps_split rfl rfl (fun h => ?_) (fun h => ?_) | refine pq_split rfl rfl (fun h => ?_) (fun h => ?_) | refine p3_split rfl rfl (fun h => ?_) (fun h => ?_))
    · have hne : ¬ v2 = w2 := by simpa using h
      clear h
      rw [if_neg (fun e => hne (Prod.mk.inj e).2)] at hC
      repeat (refine stp rfl ?_ ?_;·repeat' constructor)
      apply qst;exact rfl;exact rfl;exact q_idxmF rfl rfl rfl rfl rfl (by omega) hx rfl
      repeat (refine stp rfl ?_ ?_;·repeat' constructor)
      apply qst;exact rfl;exact rfl;exact q_slit rfl rfl rfl rfl rfl rfl rfl rfl rfl rfl (by repeat' constructor) rfl
      repeat (refine stp rfl ?_ ?_;·repeat' constructor)
      refine ps_run (o_app 0 rfl rfl rfl rfl rfl rfl rfl rfl rfl rfl rfl (by repeat' constructor) (by intro row hr; first | (simp at hr; subst hr; rfl) | simp at hr) rfl rfl (by simp; omega) (by simp; omega) ?_)
      repeat (refine stp rfl ?_ ?_;·repeat' constructor)
      refine ⟨k + 1, hlt, by omega, rfl, rfl, ?_, rfl, i64_next (by omega) (by omega), ?_, trivial⟩
      · rw [hC]; exact als_snoc eEd 8 1 D ⟨key, v1, w1, v2, w2⟩
      · rw [hC]; exact cont_snoc eEd 1 159 5 0 D ⟨key, v1, w1, v2, w2⟩
    · have heq : v2 = w2 := by simpa using h
      clear h
      repeat (refine stp rfl ?_ ?_;·repeat' constructor)
      refine pw_cond rfl (fun h => ?_) (fun h => ?_)
      · have hne : ¬ v1 = w1 := by simpa using h
        clear h
        rw [if_neg (fun e => hne (Prod.mk.inj e).1)] at hC
        repeat (refine stp rfl ?_ ?_;·repeat' constructor)
        apply qst;exact rfl;exact rfl;exact q_idxmF rfl rfl rfl rfl rfl (by omega) hx rfl
        repeat (refine stp rfl ?_ ?_;·repeat' constructor)
        apply qst;exact rfl;exact rfl;exact q_slit rfl rfl rfl rfl rfl rfl rfl rfl rfl rfl (by repeat' constructor) rfl
        repeat (refine stp rfl ?_ ?_;·repeat' constructor)
        refine ps_run (o_app 0 rfl rfl rfl rfl rfl rfl rfl rfl rfl rfl rfl (by repeat' constructor) (by intro row hr; first | (simp at hr; subst hr; rfl) | simp at hr) rfl rfl (by simp; omega) (by simp; omega) ?_)
        repeat (refine stp rfl ?_ ?_;·repeat' constructor)
        refine ⟨k + 1, hlt, by omega, rfl, rfl, ?_, rfl, i64_next (by omega) (by omega), ?_, trivial⟩
        · rw [hC]; exact als_snoc eEd 8 1 D ⟨key, v1, w1, v2, w2⟩
        · rw [hC]; exact cont_snoc eEd 1 159 5 0 D ⟨key, v1, w1, v2, w2⟩
      · have heq1 : v1 = w1 := by simpa using h
        clear h
        rw [if_pos (by rw [heq, heq1]), List.append_nil] at hC
        repeat (refine stp rfl ?_ ?_;·repeat' constructor)
        refine ⟨k + 1, hlt, by omega, rfl, rfl, ?_, rfl, i64_next (by omega) (by omega), ?_, trivial⟩
        · rw [hC]; rfl
        · rw [hC]; rfl
  · have hge : k = ks.length := by have := of_decide_eq_false h; omega
    subst hge
    clear h
    rw [List.take_length]
    repeat (refine stp rfl ?_ ?_;·repeat' constructor)
    exact end2 rfl rfl rfl rfl rfl ⟨rfl, rfl, rfl⟩ trivial rfl
end Go.Pv


set_option maxHeartbeats 2000000
namespace Go.Pv
attribute [local irreducible] PWP POps PQuiet PSem XThen XBlock RetPost InlPost
open Go.Proofs
theorem form_cases (x : SEdit) : formE x = (!valB x.old || (!valB x.new || ((!x.had && decide (x.old ≠ [])) || ((!x.has && decide (x.new ≠ [])) || (!x.had && !x.has))))) := by
  rw [formE]; simp only [Bool.or_assoc]
set_option maxRecDepth 20000 in
theorem checkEdit_ref (a : List SSet) (l : List SEdit) (i : Nat) (x : SEdit) (hx : l[i]? = some x) (hi : i < 1000000) (ha : a.length ≤ 1000000) (ho : x.old.length ≤ maxLen) (hn : x.new.length ≤ maxLen) :
    Ret Tryz.prog .shared 87 [.sl (a.map eSet), .sl (l.map eEd), I i] (I (editE a l i x)) := by
  have c1 := isName_ref x.key
  have c2 := value_ref x.old ho
  have c3 := value_ref x.new hn
  have c4 := find_ref a x.key ha
  have hE : editE a l i x = if isName x.key = false then 4 else if formE x = true then 3 else if 0 < i ∧ leS x.key (l.getD (i - 1) default).key = true then 10 else if ¬ findS a x.key = (x.old, x.had) then 28 else 0 := rfl
  rw [form_cases] at hE
  have hil : i < l.length := (List.getElem?_eq_some_iff.1 hx).1
  obtain ⟨key, old, new, had, has⟩ := x
  dsimp only at *
  generalize valB old = v1 at *
  generalize valB new = v2 at *
  generalize findS a key = V at *
  obtain ⟨w1, w2⟩ := V
  refine Ret.of_pwp layOk mixed Go.Proofs.Tryz.func87 rfl (by decide) rfl rfl ?_
  repeat (refine stp rfl ?_ ?_;·repeat' constructor)
  apply qst;exact rfl;exact rfl;exact q_idxm rfl rfl rfl rfl rfl (by omega) hx rfl
  repeat (refine stp rfl ?_ ?_;·repeat' constructor)
  apply qst;exact rfl;exact rfl;exact q_callP rfl (c1) rfl (by repeat' constructor) rfl rfl
  cases hnm : isName key with
  | false =>
    repeat (refine stp rfl ?_ ?_;·repeat' constructor)
    exact end1i rfl rfl (by rw [hE, if_pos hnm])
  | true =>
  rw [if_neg (by simp [hnm])] at hE
  iterate 7 (refine stp rfl ?_ ?_;·repeat' constructor)
  refine pw_cut [(0, .sl (a.map eSet)), (1, .sl (l.map eEd)), (2, I i), (7, .ptr 7 1 0 0), (57, .bool (!v1 || (!v2 || ((!had && decide (old ≠ [])) || ((!has && decide (new ≠ [])) || (!had && !has))))))] [(7, 1, ⟨159, 5, [[.str key, .str old, .str new, .bool had, .bool has]], 2⟩)] ?_ (fun s1 => ?_)
  · repeat (refine stp rfl ?_ ?_;·repeat' constructor)
    apply qst;exact rfl;exact rfl;exact q_callP rfl (c2) rfl (by repeat' constructor) rfl rfl
    repeat (refine stp rfl ?_ ?_;·repeat' constructor)
    cases v1 with
    | false =>
      repeat (refine stp rfl ?_ ?_;·repeat' constructor)
      exact ⟨rfl, rfl, rfl, rfl, rfl, rfl, trivial⟩
    | true =>
      repeat (refine stp rfl ?_ ?_;·repeat' constructor)
      apply qst;exact rfl;exact rfl;exact q_callP rfl (c3) rfl (by repeat' constructor) rfl rfl
      cases v2 with
      | false =>
        repeat (refine stp rfl ?_ ?_;·repeat' constructor)
        exact ⟨rfl, rfl, rfl, rfl, rfl, rfl, trivial⟩
      | true =>
        cases had with
        | false =>
          repeat (refine stp rfl ?_ ?_;·repeat' constructor)
          (first | refine ps_split rfl rfl (fun h => ?_) (fun h => ?_) | refine pq_split rfl rfl (fun h => ?_) (fun h => ?_) | refine p3_split rfl rfl (fun h => ?_) (fun h => ?_))
          · have q1 : ¬ old = [] := by simpa using h
            repeat (refine stp rfl ?_ ?_;·repeat' constructor)
            exact ⟨rfl, rfl, rfl, rfl, congrArg PV.bool (by simp [q1]), rfl, trivial⟩
          · have q1 : old = [] := by simpa using h
            clear h
            cases has with
            | false =>
              repeat (refine stp rfl ?_ ?_;·repeat' constructor)
              (first | refine ps_split rfl rfl (fun h => ?_) (fun h => ?_) | refine pq_split rfl rfl (fun h => ?_) (fun h => ?_) | refine p3_split rfl rfl (fun h => ?_) (fun h => ?_))
              · have q2 : ¬ new = [] := by simpa using h
                repeat (refine stp rfl ?_ ?_;·repeat' constructor)
                exact ⟨rfl, rfl, rfl, rfl, congrArg PV.bool (by simp [q2]), rfl, trivial⟩
              · have q2 : new = [] := by simpa using h
                clear h
                repeat (refine stp rfl ?_ ?_;·repeat' constructor)
                exact ⟨rfl, rfl, rfl, rfl, congrArg PV.bool (by simp), rfl, trivial⟩
            | true =>
              repeat (refine stp rfl ?_ ?_;·repeat' constructor)
              exact ⟨rfl, rfl, rfl, rfl, congrArg PV.bool (by simp [q1]), rfl, trivial⟩
        | true =>
          cases has with
          | false =>
            repeat (refine stp rfl ?_ ?_;·repeat' constructor)
            (first | refine ps_split rfl rfl (fun h => ?_) (fun h => ?_) | refine pq_split rfl rfl (fun h => ?_) (fun h => ?_) | refine p3_split rfl rfl (fun h => ?_) (fun h => ?_))
            · have q2 : ¬ new = [] := by simpa using h
              repeat (refine stp rfl ?_ ?_;·repeat' constructor)
              exact ⟨rfl, rfl, rfl, rfl, congrArg PV.bool (by simp [q2]), rfl, trivial⟩
            · have q2 : new = [] := by simpa using h
              clear h
              repeat (refine stp rfl ?_ ?_;·repeat' constructor)
              exact ⟨rfl, rfl, rfl, rfl, congrArg PV.bool (by simp [q2]), rfl, trivial⟩
          | true =>
            repeat (refine stp rfl ?_ ?_;·repeat' constructor)
            exact ⟨rfl, rfl, rfl, rfl, congrArg PV.bool (by simp), rfl, trivial⟩
  generalize (!v1 || (!v2 || ((!had && decide (old ≠ [])) || ((!has && decide (new ≠ [])) || (!had && !has))))) = fo at *
  repeat (refine stp rfl ?_ ?_;·repeat' constructor)
  refine pw_cond rfl (fun h => ?_) (fun h => ?_)
  · subst h
    rw [if_pos rfl] at hE
    repeat (refine stp rfl ?_ ?_;·repeat' constructor)
    exact end1i rfl rfl (by rw [hE])
  subst h
  rw [if_neg (by simp)] at hE
  refine pw_skip ?_
  refine x_norm ?_
  refine pw_seq ?_
  refine pw_cut [(0, .sl (a.map eSet)), (1, .sl (l.map eEd)), (2, I i), (7, .ptr 7 1 0 0), (70, .bool (decide (0 < i ∧ leS key (l.getD (i - 1) default).key = true)))] [(7, 1, ⟨159, 5, [[.str key, .str old, .str new, .bool had, .bool has]], 2⟩)] ?_ (fun s1 => ?_)
  · refine pw_draw 13 [58, 59, 60, 61, 62, 63, 64, 65, 66, 67, 68, 69, 70] (by decide +kernel) ?_
    repeat (refine stp rfl ?_ ?_;·repeat' constructor)
    (first | refine ps_split rfl rfl (fun h => ?_) (fun h => ?_) | refine pq_split rfl rfl (fun h => ?_) (fun h => ?_) | refine p3_split rfl rfl (fun h => ?_) (fun h => ?_))
    · have hk0 : 0 < i := by have := of_decide_eq_true h; omega
      clear h
      have hp : l[i - 1]? = some (l.getD (i - 1) default) := by rw [List.getD_eq_getElem?_getD, List.getElem?_eq_getElem (by omega)]; rfl
      have hw : IntKind.wrap .i64 ((i : Int) - 1) = ((i - 1 : Nat) : Int) := by rw [wrap_i64 (by omega) (by omega)]; omega
      generalize l.getD (i - 1) default = y at *
      repeat (refine stp rfl ?_ ?_;·repeat' constructor)
      rw [hw]
      apply qst;exact rfl;exact rfl;exact q_idxm (n := (((i - 1 : Nat) : Int) : Int)) rfl rfl rfl rfl rfl (by omega) hp rfl
      repeat (refine stp rfl ?_ ?_;·repeat' constructor)
      apply qst;exact rfl;exact rfl;exact q_leS rfl rfl
      repeat (refine stp rfl ?_ ?_;·repeat' constructor)
      refine ⟨rfl, rfl, rfl, rfl, congrArg PV.bool ?_, rfl, trivial⟩
      cases leS key y.key <;> simp [hk0]
    · have hk0 : ¬ 0 < i := by have := of_decide_eq_false h; omega
      clear h
      repeat (refine stp rfl ?_ ?_;·repeat' constructor)
      exact ⟨rfl, rfl, rfl, rfl, congrArg PV.bool (by simp [hk0]), rfl, trivial⟩
  repeat (refine stp rfl ?_ ?_;·repeat' constructor)
  refine pw_cond rfl (fun h => ?_) (fun h => ?_)
  · have hc := of_decide_eq_true h
    rw [if_pos hc] at hE
    repeat (refine stp rfl ?_ ?_;·repeat' constructor)
    exact end1i rfl rfl (by rw [hE])
  have hc := of_decide_eq_false h
  rw [if_neg hc] at hE
  clear h hc
  repeat (refine stp rfl ?_ ?_;·repeat' constructor)
  apply qst;exact rfl;exact rfl;exact q_call rfl (c4) rfl (by repeat' constructor) rfl
  repeat (refine stp rfl ?_ ?_;·repeat' constructor)
  (first | refine ps_split rfl rfl (fun h => ?_) (fun h => ?_) | refine pq_split rfl rfl (fun h => ?_) (fun h => ?_) | refine p3_split rfl rfl (fun h => ?_) (fun h => ?_))
  · have q1 : ¬ w2 = had := by simpa using h
    clear h
    rw [if_pos (fun e => q1 (Prod.mk.inj e).2)] at hE
    repeat (refine stp rfl ?_ ?_;·repeat' constructor)
    exact end1i rfl rfl (by rw [hE])
  · have q1 : w2 = had := by simpa using h
    clear h
    repeat (refine stp rfl ?_ ?_;·repeat' constructor)
    refine pw_cond rfl (fun h => ?_) (fun h => ?_)
    · have q2 : ¬ w1 = old := by simpa using h
      clear h
      rw [if_pos (fun e => q2 (Prod.mk.inj e).1)] at hE
      repeat (refine stp rfl ?_ ?_;·repeat' constructor)
      exact end1i rfl rfl (by rw [hE])
    · have q2 : w1 = old := by simpa using h
      clear h
      rw [if_neg (fun e => e (by rw [q1, q2]))] at hE
      repeat (refine stp rfl ?_ ?_;·repeat' constructor)
      exact end1i rfl rfl (by rw [hE])
theorem overE_len (f : Str → TV) (ks : List Str) : (fillS f ks).length ≤ ks.length := by rw [fillS, List.length_map]; exact List.length_filter_le _ _
theorem fillS_snoc (f : Str → TV) (ks : List Str) (k : Str) : fillS f (ks ++ [k]) = fillS f ks ++ (if (f k).2 then [⟨k, (f k).1⟩] else []) := by
  rw [fillS, List.filter_append, List.map_append, fillS]
  congr 1
  cases h : (f k).2 <;> simp [h]
def addS (l : List SEdit) : List SSet := l.map fun x => ⟨x.key, []⟩
set_option maxRecDepth 20000 in
theorem patch_ref (a : List SSet) (l : List SEdit) (ha : SaneS a) (ha2 : a.length ≤ 1000) (hl : l.length ≤ 1000) (hs : ∀ x ∈ l, x.old.length ≤ maxLen ∧ x.new.length ≤ maxLen) : Ret Tryz.prog .shared 39 [.sl (a.map eSet), .sl (l.map eEd)] (patchV a l) := by
  have hca := checkSets_ref a ha.1 ha.2
  have hks := keys_refF [a, addS l] (by simp) (fun x hx => by simp at hx; rcases hx with rfl | rfl <;> first | omega | (simp [addS]; omega))
  have hkl : (keysR [a, addS l]).length ≤ 2000 := keysR_len (ls := [a, addS l]) (fun x hx => by simp at hx; rcases hx with rfl | rfl <;> first | omega | (simp [addS]; omega)) 2
  have hll : ((l.map eEd).length : Int) = l.length := by simp
  rw [patchV]
  generalize setsE a = e1 at *
  refine Ret.of_pwp layOk mixed Go.Proofs.Tryz.func39 rfl (by decide) rfl rfl ?_
  repeat (refine stp rfl ?_ ?_;·repeat' constructor)
  apply qst;exact rfl;exact rfl;exact q_callP rfl (hca) rfl (by repeat' constructor) rfl rfl
  repeat (refine stp rfl ?_ ?_;·repeat' constructor)
  refine pw_cond rfl (fun h => ?_) (fun h => ?_)
  · have hne : e1 ≠ 0 := by simpa using h
    ((repeat (first | refine ps_nil ?_ | refine pq_nil ?_ | refine x_norm ?_ | refine pw_seq ?_)); refine pw_region ?_)
    refine ps_v rfl trivial ?_
    refine ps_v rfl trivial ?_
    refine ps_v rfl trivial ?_
    refine ps_nil ?_
    refine x_norm ?_
    refine pw_ghost (Ghost.nilsl (t := 4) rfl) ?_
    repeat (refine stp rfl ?_ ?_;·repeat' constructor)
    exact end2 rfl rfl rfl rfl rfl trivial trivial (by rw [if_pos hne]; rfl)
  have h10 : e1 = 0 := by simpa using h
  rw [if_neg (by simp [h10])]
  clear h
  repeat (refine stp rfl ?_ ?_;·repeat' constructor)
  rw [hll]
  refine pw_cond rfl (fun h => ?_) (fun h => ?_)
  · have := of_decide_eq_true h
    ((repeat (first | refine ps_nil ?_ | refine pq_nil ?_ | refine x_norm ?_ | refine pw_seq ?_)); refine pw_region ?_)
    refine ps_v rfl trivial ?_
    refine ps_v rfl trivial ?_
    refine ps_nil ?_
    refine x_norm ?_
    refine pw_ghost (Ghost.nilsl (t := 4) rfl) ?_
    repeat (refine stp rfl ?_ ?_;·repeat' constructor)
    exact end2 rfl rfl rfl rfl rfl trivial trivial (by rw [if_pos (by omega)]; rfl)
  have h120 : l.length ≤ 120 := by have := of_decide_eq_false h; omega
  rw [if_neg (by omega)]
  clear h
  repeat (first | refine pw_exit ?_ | refine pw_skip ?_ | refine x_norm ?_ | refine x_exit ?_ | refine xb_norm ?_ | refine xb_here ?_ | refine xb_away rfl ?_)
  ((repeat (first | refine ps_nil ?_ | refine pq_nil ?_ | refine x_norm ?_ | refine pw_seq ?_)); refine pw_region ?_)
  (first | refine ps_run (o_nilm 149 2 0 rfl rfl ?_) | refine ps_run (o_nila 149 2 0 rfl rfl ?_))
  repeat (refine stp rfl ?_ ?_;·repeat' constructor)
  refine pw_loop (ClearE l (editE a l)) (fun k => [(0, .sl (a.map eSet)), (1, .sl (l.map eEd)), (7, .als 7 (1 + (addS (l.take k)).length) 0 ((addS (l.take k)).map eSet).length), (8, I k)])
    (fun k => [(7, 1 + (addS (l.take k)).length, ⟨149, 2, (addS (l.take k)).map eSet, 0⟩)]) (fun k => l.length - k) 0 .zero' ⟨rfl, rfl, rfl, rfl, rfl, trivial⟩ ?_
  intro k s hk
  have hkl2 := hk.1
  have hal : (addS (l.take k)).length ≤ 1000 := by simp [addS]; omega
  repeat (refine stp rfl ?_ ?_;·repeat' constructor)
  rw [hll]
  refine pw_cond rfl (fun h => ?_) (fun h => ?_)
  · have hlt : k < l.length := by have := of_decide_eq_true h; omega
    clear h
    obtain ⟨x, hx⟩ := get_lt hlt
    have hxs := hs x (List.mem_of_getElem? hx)
    have hce := checkEdit_ref a l k x hx (by omega) ha.1 hxs.1 hxs.2
    have hA : addS (l.take (k + 1)) = addS (l.take k) ++ [⟨x.key, []⟩] := by rw [take_snoc hx, addS, List.map_append]; rfl
    generalize addS (l.take k) = A at *
    repeat (refine stp rfl ?_ ?_;·repeat' constructor)
    apply qst;exact rfl;exact rfl;exact q_callP rfl (hce) rfl (by repeat' constructor) rfl rfl
    generalize he : editE a l k x = e
    repeat (refine stp rfl ?_ ?_;·repeat' constructor)
    refine pw_cond rfl (fun h => ?_) (fun h => ?_)
    · have hne : e ≠ 0 := by simpa using h
      ((repeat (first | refine ps_nil ?_ | refine pq_nil ?_ | refine x_norm ?_ | refine pw_seq ?_)); refine pw_region ?_)
      refine ps_v rfl trivial ?_
      refine ps_v rfl trivial ?_
      refine ps_v rfl trivial ?_
      refine ps_nil ?_
      refine x_norm ?_
      refine pw_ghost (Ghost.nilsl (t := 4) rfl) ?_
      repeat (refine stp rfl ?_ ?_;·repeat' constructor)
      have hee : editsE a l = e := hk.found hx he hne
      exact end2 rfl rfl rfl rfl rfl trivial trivial (by rw [hee, if_pos hne]; rfl)
    · have h0 : e = 0 := by simpa using h
      clear h
      repeat (refine stp rfl ?_ ?_;·repeat' constructor)
      apply qst;exact rfl;exact rfl;exact q_idxm rfl rfl rfl rfl rfl (by omega) hx rfl
      repeat (refine stp rfl ?_ ?_;·repeat' constructor)
      apply qst;exact rfl;exact rfl;exact q_slit rfl rfl rfl rfl rfl rfl rfl rfl rfl rfl (by repeat' constructor) rfl
      repeat (refine stp rfl ?_ ?_;·repeat' constructor)
      refine ps_run (o_app 0 rfl rfl rfl rfl rfl rfl rfl rfl rfl rfl rfl (by repeat' constructor) (by intro row hr; first | (simp at hr; subst hr; rfl) | simp at hr) rfl rfl (by simp; omega) (by simp; omega) ?_)
      repeat (refine stp rfl ?_ ?_;·repeat' constructor)
      refine ⟨k + 1, hk.succ hx (by rw [he]; exact h0), by omega, rfl, rfl, ?_, i64_next (by omega) (by omega), ?_, trivial⟩
      · rw [hA]; exact als_snoc eSet 7 1 A ⟨x.key, []⟩
      · rw [hA]; exact cont_snoc eSet 1 149 2 0 A ⟨x.key, []⟩
  have hge : k = l.length := by have := of_decide_eq_false h; omega
  have hee : editsE a l = 0 := hk.none (by omega)
  rw [if_neg (by rw [hee]; simp)]
  subst hge
  clear h hk hal hkl2
  rw [List.take_length]
  rw [patO]
  rw [show (l.map fun x => (⟨x.key, []⟩ : SSet)) = addS l from rfl]
  repeat (first | refine pw_exit ?_ | refine pw_skip ?_ | refine x_norm ?_ | refine x_exit ?_ | refine xb_norm ?_ | refine xb_here ?_ | refine xb_away rfl ?_)
  ((repeat (first | refine ps_nil ?_ | refine pq_nil ?_ | refine x_norm ?_ | refine pw_seq ?_)); refine pw_region ?_)
  (first | refine ps_run (o_nilm 149 2 0 rfl rfl ?_) | refine ps_run (o_nila 149 2 0 rfl rfl ?_))
  refine ps_nil ?_
  refine x_norm ?_
  refine pw_ghost (Ghost.takeL (k := 7) (t := 7) (addS l) rfl rfl rfl rfl eSet_plain) ?_
  repeat (refine stp rfl ?_ ?_;·repeat' constructor)
  refine ps_run (o_slit 1 rfl rfl rfl rfl rfl rfl rfl rfl rfl rfl rfl (by repeat' constructor) rfl ?_)
  repeat (refine stp rfl ?_ ?_;·repeat' constructor)
  apply qst;exact rfl;exact rfl;exact q_callF rfl (hks) rfl (by repeat' constructor) rfl
  repeat (refine stp rfl ?_ ?_;·repeat' constructor)
  have hksl : (((keysR [a, addS l]).map eS).length : Int) = (keysR [a, addS l]).length := by simp
  clear hks
  generalize keysR [a, addS l] = ks at *
  generalize hF : overE (findS a) l = F at *
  generalize hg10 : (s.own 10).1 + 1 = g10
  refine pw_loop (fun k => k ≤ ks.length) (fun k => [(0, .sl (a.map eSet)), (1, .sl (l.map eEd)), (10, .als 10 (g10 + (fillS F (ks.take k)).length) 0 ((fillS F (ks.take k)).map eSet).length), (11, .fsl (ks.map eS)), (12, I k)])
    (fun k => [(10, g10 + (fillS F (ks.take k)).length, ⟨149, 2, (fillS F (ks.take k)).map eSet, 0⟩)]) (fun k => ks.length - k) 0 (Nat.zero_le _) ⟨rfl, rfl, by rw [← hg10]; rfl, rfl, rfl, by rw [← hg10]; rfl, trivial⟩ ?_
  clear hg10
  clear s
  intro k s hk
  have hk : k ≤ ks.length := hk
  have hfl : (fillS F (ks.take k)).length ≤ 2000 := Nat.le_trans (overE_len ..) (by simp; omega)
  repeat (refine stp rfl ?_ ?_;·repeat' constructor)
  rw [hksl]
  refine pw_cond rfl (fun h => ?_) (fun h => ?_)
  · have hlt : k < ks.length := by have := of_decide_eq_true h; omega
    clear h
    obtain ⟨key, hx⟩ := get_lt hlt
    have f1 := find_ref a key ha.1
    have hC : fillS F (ks.take (k + 1)) = fillS F (ks.take k) ++ (if (F key).2 then [⟨key, (F key).1⟩] else []) := by rw [take_snoc hx, fillS_snoc]
    generalize fillS F (ks.take k) = D at *
    repeat (refine stp rfl ?_ ?_;·repeat' constructor)
    apply qst;exact rfl;exact rfl;exact q_idxmF rfl rfl rfl rfl rfl (by omega) hx rfl
    repeat (refine stp rfl ?_ ?_;·repeat' constructor)
    apply qst;exact rfl;exact rfl;exact q_call rfl (f1) rfl (by repeat' constructor) rfl
    repeat (refine stp rfl ?_ ?_;·repeat' constructor)
    refine pw_loop (fun j => j ≤ l.length) (fun j => [(0, .sl (a.map eSet)), (1, .sl (l.map eEd)), (10, .als 10 (g10 + D.length) 0 (D.map eSet).length), (11, .fsl (ks.map eS)), (12, I k), (13, .str (overE (findS a) (l.take j) key).1), (14, .bool (overE (findS a) (l.take j) key).2), (15, I j)])
      (fun j => [(10, g10 + D.length, ⟨149, 2, D.map eSet, 0⟩)]) (fun j => l.length - j) 0 (Nat.zero_le _) ⟨rfl, rfl, rfl, rfl, rfl, rfl, rfl, rfl, rfl, trivial⟩ ?_
    intro j s2 hj
    have hj : j ≤ l.length := hj
    repeat (refine stp rfl ?_ ?_;·repeat' constructor)
    rw [hll]
    refine pw_cond rfl (fun h => ?_) (fun h => ?_)
    · have hjlt : j < l.length := by have := of_decide_eq_true h; omega
      clear h
      obtain ⟨x, hjx⟩ := get_lt hjlt
      have hO : overE (findS a) (l.take (j + 1)) key = if x.key = key then (x.new, x.has) else overE (findS a) (l.take j) key := by rw [take_snoc hjx, overE_snoc]
      generalize overE (findS a) (l.take j) key = V at *
      repeat (refine stp rfl ?_ ?_;·repeat' constructor)
      refine pw_draw 10 [71, 72, 73, 74, 75, 76, 77, 78, 79, 80] (by decide +kernel) ?_
      repeat (refine stp rfl ?_ ?_;·repeat' constructor)
      apply qst;exact rfl;exact rfl;exact q_idxm rfl rfl rfl rfl rfl (by omega) hjx rfl
      repeat (refine stp rfl ?_ ?_;·repeat' constructor)
      apply qst;exact rfl;exact rfl;exact q_idxmF rfl rfl rfl rfl rfl (by omega) hx rfl
      repeat (refine stp rfl ?_ ?_;·repeat' constructor)
      refine pw_cond rfl (fun h => ?_) (fun h => ?_)
      · have q1 : x.key = key := by simpa using h
        clear h
        rw [if_pos q1] at hO
        repeat (refine stp rfl ?_ ?_;·repeat' constructor)
        refine pw_draw 12 [81, 82, 83, 84, 85, 86, 87, 88, 89, 90, 13, 14] (by decide +kernel) ?_
        repeat (refine stp rfl ?_ ?_;·repeat' constructor)
        apply qst;exact rfl;exact rfl;exact q_idxm rfl rfl rfl rfl rfl (by omega) hjx rfl
        repeat (refine stp rfl ?_ ?_;·repeat' constructor)
        apply qst;exact rfl;exact rfl;exact q_idxm rfl rfl rfl rfl rfl (by omega) hjx rfl
        repeat (refine stp rfl ?_ ?_;·repeat' constructor)
        refine ⟨j + 1, hjlt, by omega, rfl, rfl, rfl, rfl, rfl, ?_, ?_, i64_next (by omega) (by omega), rfl, trivial⟩
        · rw [hO]; rfl
        · rw [hO]; rfl
      · have q1 : ¬ x.key = key := by simpa using h
        clear h
        rw [if_neg q1] at hO
        repeat (refine stp rfl ?_ ?_;·repeat' constructor)
        refine ⟨j + 1, hjlt, by omega, rfl, rfl, rfl, rfl, rfl, ?_, ?_, i64_next (by omega) (by omega), rfl, trivial⟩
        · rw [hO]; rfl
        · rw [hO]; rfl
    · have hge : j = l.length := by have := of_decide_eq_false h; omega
      subst hge
      clear h
      rw [List.take_length, hF]
      generalize F key = V at *
      obtain ⟨v1, v2⟩ := V
      cases v2 with
      | true =>
        rw [if_pos rfl] at hC
        repeat (refine stp rfl ?_ ?_;·repeat' constructor)
        apply qst;exact rfl;exact rfl;exact q_idxmF rfl rfl rfl rfl rfl (by omega) hx rfl
        repeat (refine stp rfl ?_ ?_;·repeat' constructor)
        apply qst;exact rfl;exact rfl;exact q_slit rfl rfl rfl rfl rfl rfl rfl rfl rfl rfl (by repeat' constructor) rfl
        repeat (refine stp rfl ?_ ?_;·repeat' constructor)
        refine ps_run (o_app 0 rfl rfl rfl rfl rfl rfl rfl rfl rfl rfl rfl (by repeat' constructor) (by intro row hr; first | (simp at hr; subst hr; rfl) | simp at hr) rfl rfl (by simp; omega) (by simp; omega) ?_)
        repeat (refine stp rfl ?_ ?_;·repeat' constructor)
        refine ⟨k + 1, hlt, by omega, rfl, rfl, ?_, rfl, i64_next (by omega) (by omega), ?_, trivial⟩
        · rw [hC]; exact als_snoc eSet 10 g10 D ⟨key, v1⟩
        · rw [hC]; exact cont_snoc eSet g10 149 2 0 D ⟨key, v1⟩
      | false =>
        rw [if_neg (by simp), List.append_nil] at hC
        repeat (refine stp rfl ?_ ?_;·repeat' constructor)
        refine ⟨k + 1, hlt, by omega, rfl, rfl, ?_, rfl, i64_next (by omega) (by omega), ?_, trivial⟩
        · rw [hC]; rfl
        · rw [hC]; rfl
  · have hge : k = ks.length := by have := of_decide_eq_false h; omega
    subst hge
    clear h
    rw [List.take_length]
    have hol : (((fillS F ks).map eSet).length : Int) = (fillS F ks).length := by simp
    repeat (refine stp rfl ?_ ?_;·repeat' constructor)
    rw [hol]
    refine pw_cond rfl (fun h => ?_) (fun h => ?_)
    · have h60 : 60 < (fillS F ks).length := by have := of_decide_eq_true h; omega
      ((repeat (first | refine ps_nil ?_ | refine pq_nil ?_ | refine x_norm ?_ | refine pw_seq ?_)); refine pw_region ?_)
      refine ps_v rfl trivial ?_
      refine ps_v rfl trivial ?_
      refine ps_nil ?_
      refine x_norm ?_
      refine pw_ghost (Ghost.nilsl (t := 4) rfl) ?_
      repeat (refine stp rfl ?_ ?_;·repeat' constructor)
      exact end2 rfl rfl rfl rfl rfl trivial trivial (by rw [if_pos h60]; rfl)
    · have h60 : ¬ 60 < (fillS F ks).length := by have := of_decide_eq_false h; omega
      rw [if_neg h60]
      repeat (refine stp rfl ?_ ?_;·repeat' constructor)
      exact end2 rfl rfl rfl rfl rfl ⟨rfl, rfl, rfl⟩ trivial rfl
end Go.Pv


set_option maxHeartbeats 2000000
namespace Go.Pv
attribute [local irreducible] PWP POps PQuiet PSem XThen XBlock RetPost InlPost
open Go.RowKit
def mdel (key : PV) (rows : List (List PV)) : List (List PV) := match mix key rows with | some i => rows.eraseIdx i | none => rows
section
variable [Globs] {P : Program} {L : Lay} {s : St}
theorem sm_delete {T E V T' : TypeId} {r re : LRow} {x y : Operand} {tys : Array TypeId} {ty : TypeId} {pos : String} {af : Array Edge} {k g kd t : Nat} {rows : List (List PV)} {key : PV} {K : St → Prop} (kk : Option (List Sh)) (htys : tys[0]? = some T) (hr : L T = some r) (hs : r.sh = .map E V) (hre : L E = some re) (hg : kgood P E kk = true)
    (hx : s.ev x = .mp k g) (hown : s.own k = (g, some ⟨T', 0, rows, kd⟩)) (hkd : kd ≤ 1) (hy : s.ev y = key) (hky : kkey re.sh kk key = true) (hkeys : keyedG re.sh kk rows = true)
    (ht : s.reg t = .mp k g) (h : K ((s.setOwn k (g + 1) (some ⟨T', 0, mdel key rows, 1⟩)).putR t (.mp k (g + 1)))) : Sm P L s ⟨none, .call ⟨.builtin .delete, #[x, y], tys⟩, ty, pos, af, none⟩ K := by
  intro C a w Q hG ⟨γ, h0⟩ hN
  have hxr := h0.ev x
  rw [hx] at hxr
  obtain ⟨_, b, hb, hxv⟩ := h0.mp_at hxr hown
  obtain ⟨es, nn, f1, f2, f3, f4, f5, f6⟩ := (h0.sites k _ (by rw [hown])).mp b hb rfl (by show kd < 3; omega)
  have f1 : w.heap[b]? = some (.map es nn) := f1
  have hkrep := h0.ev y
  rw [hy] at hkrep
  obtain ⟨k1, k2, k3⟩ := keyG_run (w := w) hG.lay hre hg hky hkrep hkeys f2 f3 (fun i row c e e1 e2 e3 => (f5 i row c e e1 e2 e3).rep envOf_okfok)
  have hu := und_map (hG.lay T r hr) hs
  have main : ∀ (es' : Array MapEntry), (Builtin.delete_ tys ty #[.map (some b), a.eval y]).run P w = .ok (.tuple #[]) { w with heap := w.heap.setIfInBounds b (.map es' nn) } → BornOk 1 es' nn → (mdel key rows).length = es'.size →
      (∀ (i : Nat) (row : List PV) (e : MapEntry), (mdel key rows)[i]? = some row → es'[i]? = some e → ∃ j : Nat, rows[j]? = some row ∧ es[j]? = some e) →
      (⟨none, .call ⟨.builtin .delete, #[x, y], tys⟩, ty, pos, af, none⟩ : Oper).wp P a w (fun a' w' => ∃ s', SimE C s' a' w' ∧ K s') Q := by
    intro es' hrun hborn hlen hat
    obtain ⟨hp, hnew⟩ := put_set (o' := .map es' nn) f1
    have hbs : b < w.heap.size := (Array.getElem?_eq_some_iff.1 f1).1
    have hturn : Turn C γ s w { w with heap := w.heap.setIfInBounds b (.map es' nn) } k (some b) := by
      refine ⟨rfl, rfl, rfl, by simp, fun b' hb' => ?_, fun b' hb' => ?_⟩
      · by_cases he : b' = b
        · subst he; exact .inr ⟨by rw [hown]; rfl, hb⟩
        · exact .inl (hp.other b' he)
      · cases hb'
        exact ⟨by simpa using hbs, .inr ⟨by rw [hown]; rfl, hb⟩⟩
    have hle := hturn.le h0 ⟨T', 0, mdel key rows, 1⟩
    have hkr : ∀ {c : PV} {v : Value}, KRep (envOf C γ s w) kd c v → KRep (envOf C (upg γ k (some b)) (s.fin k ⟨T', 0, mdel key rows, 1⟩) { w with heap := w.heap.setIfInBounds b (.map es' nn) }) 1 c v := fun hc => (hc.up envOf_okfok hkd).mono hle
    have hsite : SiteOk (envOf C (upg γ k (some b)) (s.fin k ⟨T', 0, mdel key rows, 1⟩) { w with heap := w.heap.setIfInBounds b (.map es' nn) }) (some b) ⟨T', 0, mdel key rows, 1⟩ := by
      refine ⟨(fun e => by cases e), fun b' hb' _ _ => ?_, (fun b' _ _ hk3 => by simp only at hk3; omega), (fun b' _ hz' => by simp only at hz'; omega)⟩
      cases hb'
      refine ⟨es', nn, hnew, hlen, fun row hrow => ?_, hborn, fun i row c e e1 e2 e3 => ?_, fun i row c e e1 e2 e3 => ?_⟩
      · simp only [mdel] at hrow
        split at hrow
        · exact f3 row (List.mem_of_mem_eraseIdx hrow)
        · exact f3 row hrow
      · obtain ⟨j, q1, q2⟩ := hat i row e e1 e3
        exact hkr (f5 j row c e q1 e2 q2)
      · obtain ⟨j, q1, q2⟩ := hat i row e e1 e3
        exact hkr (f6 j row c e q1 e2 q2)
    have hsim := hturn.sim h0 hsite
    unfold Oper.wp
    have hex : (execOp a.eval (⟨none, .call ⟨.builtin .delete, #[x, y], tys⟩, ty, pos, af, none⟩ : Oper)).run P w = .ok (.value (.tuple #[])) { w with heap := w.heap.setIfInBounds b (.map es' nn) } := by
      simp only [execOp, resolve, invoke, builtin, Sem.run_bind, Sem.run_pure, Result.andThen_ok, List.map_toArray, List.map_cons, List.map_nil, hxv]
      rw [hrun]
      rfl
    rw [hex, Oper.upon_value]
    refine ⟨_, ⟨upg γ k (some b), ?_⟩, h⟩
    have hst : s.fin k ⟨T', 0, mdel key rows, 1⟩ = s.setOwn k (g + 1) (some ⟨T', 0, mdel key rows, 1⟩) := by rw [St.fin, hown]
    rw [hst] at hsim
    refine ⟨hsim.defers, hsim.size, fun q => ?_, hsim.sites, hsim.inj, hsim.base, hsim.below, hsim.top, hsim.kept⟩
    show Rep _ (bif Nat.beq q t then _ else _) _
    by_cases hq : q = t
    · subst hq
      rw [Nat.beq_refl, cond_true]
      have hv : (a.put none (.tuple #[])).tmps.getD q undef = .map (some b) := by
        have hq := h0.regs q
        rw [ht] at hq
        obtain ⟨_, b', hb', hv⟩ := h0.mp_at hq hown
        rw [hb] at hb'; cases hb'; exact hv
      rw [hv]
      refine .mp (by simp [envOf, St.putR, setOwn_same]) fun _ l hl => ?_
      simp only [envOf, St.putR, setOwn_same, upg_same, Option.map_some, Option.some.injEq] at hl
      subst hl
      exact ⟨rfl, b, rfl, rfl⟩
    · rw [nbeq_ne hq, cond_false]
      exact hsim.regs q
  rcases k3 with ⟨q1, hm⟩ | ⟨j, e, q1, hej, q3, hm⟩
  · have hmd : mdel key rows = rows := by simp only [mdel, hm]
    refine main es ?_ (f4.up hkd) (by rw [hmd]; exact f2) (fun i row e e1 e2 => ⟨i, by rw [hmd] at e1; exact e1, e2⟩)
    simp only [Builtin.delete_, htys]
    rw [show (#[Value.map (some b), a.eval y] : Array Value)[0]? = some (.map (some b)) from rfl, show (#[Value.map (some b), a.eval y] : Array Value)[1]? = some (a.eval y) from rfl]
    simp only [Sem.run_bind, run_underlying hu, Result.andThen, MapKept.run_getObj_map f1, k1, q1, MapKept.run_setObj_map _ f1]
    rfl
  · have hmd : mdel key rows = rows.eraseIdx j := by simp only [mdel, hm]
    have hjl := mix_lt hm
    refine main (es.eraseIdxIfInBounds j) ?_ (f4.erase j) ?_ (fun i row e e1 e2 => ?_)
    · simp only [Builtin.delete_, htys]
      rw [show (#[Value.map (some b), a.eval y] : Array Value)[0]? = some (.map (some b)) from rfl, show (#[Value.map (some b), a.eval y] : Array Value)[1]? = some (a.eval y) from rfl]
      simp only [Sem.run_bind, run_underlying hu, Result.andThen, MapKept.run_getObj_map f1, k1, q1, MapKept.run_setObj_map _ f1]
      rfl
    · rw [hmd, ← Array.length_toList, Array.toList_eraseIdxIfInBounds, List.length_eraseIdx, List.length_eraseIdx, f2]
      simp
    · rw [hmd, List.getElem?_eraseIdx] at e1
      rw [← Array.getElem?_toList, Array.toList_eraseIdxIfInBounds, List.getElem?_eraseIdx, Array.getElem?_toList, Array.getElem?_toList] at e2
      split at e1
      · rename_i hij; rw [if_pos hij] at e2; exact ⟨i, e1, e2⟩
      · rename_i hij; rw [if_neg hij] at e2; exact ⟨i + 1, e1, e2⟩
end
end Go.Pv


set_option maxHeartbeats 2000000
namespace Go.Pv
attribute [local irreducible] PWP POps PQuiet PSem XThen XBlock RetPost InlPost
open Go.Proofs
theorem mdel_cons (key : PV) (row : List PV) (rows : List (List PV)) : mdel key (row :: rows) = bif mhd key row then rows else row :: mdel key rows := by
  unfold mdel
  cases h : mhd key row with
  | true => simp [mix, h]
  | false =>
    simp only [mix, h, cond_false]
    cases hm : mix key rows <;> simp
theorem mdel_tb (d : Str) : ∀ m : Tb, mdel (.str d) (m.map eTb) = (tdel d m).map eTb
  | [] => rfl
  | (e, c) :: m => by
    rw [List.map_cons, mdel_cons, mdel_tb d m]
    have : mhd (.str d) (eTb (e, c)) = decide (e = d) := rfl
    rw [this, tdel]
    by_cases h : e = d
    · rw [if_pos h, decide_eq_true h]; rfl
    · rw [if_neg h, decide_eq_false h]; rfl
set_option maxRecDepth 20000 in
theorem tableOf_inl {K : St → Prop} {s : St} {d : Nat} {x : Operand} {tys : Array TypeId} {ty : TypeId} {pos : String} {af : Array Edge} (l : List SSet) (hl : l.length ≤ 1000000) (hx : s.ev x = .sl (l.map eSet))
    (hK : ∀ (s1 : St) (g : Nat), K (({ reg := s.reg, own := (s1.over [] [(6, g, ⟨152, 0, (tabOf l).map eTb, 0⟩)]).own } : St).putR d (.mp 6 g))) :
    Sm Tryz.prog lay.get s ⟨some d, .call ⟨.value (.func 82), #[x], tys⟩, ty, pos, af, none⟩ K := by
  have hll : ((l.map eSet).length : Int) = l.length := by simp
  refine sm_inline layOk rfl rfl Tryz.func82 rfl (by decide) rfl rfl ?_
  show PWP _ _ _ _ (callSt s (([x] : List Operand).map s.ev ++ []))
  rw [show (([x] : List Operand).map s.ev ++ ([] : List PV)) = [.sl (l.map eSet)] by simp [hx]]
  clear hx
  have hK' := hK
  generalize hr0 : s.reg = r0 at *
  clear hK
  repeat (refine stp rfl ?_ ?_;·repeat' constructor)
  refine ps_run (o_mkmap rfl ?_)
  repeat (refine stp rfl ?_ ?_;·repeat' constructor)
  rw [hll]
  generalize hg : (s.own 6).1 + 1 = g
  refine pw_loop (fun k => k ≤ l.length) (fun k => [(3, .mp 6 g), (7, .sl (l.map eSet)), (8, I l.length), (9, I k)]) (fun k => [(6, g, ⟨152, 0, (tabOf (l.take k)).map eTb, 0⟩)]) (fun k => l.length - k) 0 (Nat.zero_le _) ⟨by rw [← hg]; rfl, rfl, rfl, rfl, by rw [← hg]; rfl, trivial⟩ ?_
  intro k st hk
  repeat (refine stp rfl ?_ ?_;·repeat' constructor)
  refine pw_cond rfl (fun h => ?_) (fun h => ?_)
  · have hlt : k < l.length := by simpa using h
    clear h
    obtain ⟨x, hx⟩ := get_lt hlt
    repeat (refine stp rfl ?_ ?_;·repeat' constructor)
    apply qst;exact rfl;exact rfl;exact q_idxm rfl rfl rfl rfl rfl (by omega) hx rfl
    repeat (refine stp rfl ?_ ?_;·repeat' constructor)
    refine ps_run0 (o_mset 0 rfl rfl rfl rfl rfl rfl rfl rfl rfl (keyed_tb _) rfl rfl ?_)
    repeat (refine stp rfl ?_ ?_;·repeat' constructor)
    refine ⟨k + 1, hlt, by omega, rfl, rfl, rfl, i64_next (by omega) (by omega), ?_, trivial⟩
    rw [take_snoc hx, tabOf_snoc, ← mput_tb]
    rfl
  · have hge : k = l.length := by have := of_decide_eq_false h; omega
    subst hge
    repeat (refine stp rfl ?_ ?_;·repeat' constructor)
    rw [List.take_length]
    exact inl_end1O (t := 2) (v := .mp 6 g) (K := fun o r => K (({ reg := r0, own := o } : St).putR d r)) [(6, g, ⟨152, 0, (tabOf l).map eTb, 0⟩)] (.inl rfl) rfl rfl ⟨rfl, trivial⟩ fun s1 => hK' s1 g
set_option maxRecDepth 20000 in
theorem patch_ret (a : List SSet) (l : List SEdit) (ha : SaneS a) (ha2 : a.length ≤ 1000) (hl : l.length ≤ 1000) : Ret Tryz.prog .shared 38 [.sl (a.map eSet), .sl (l.map eEd)] (patchV a l) := by
  have hca := checkSets_ret a ha.1 ha.2
  have hll : ((l.map eEd).length : Int) = l.length := by simp
  have hV : patchV a l = if setsE a ≠ 0 then patR [] (setsE a) else if 120 < l.length then patR [] 8 else if editsE a l ≠ 0 then patR [] (editsE a l) else if 60 < (patO a l).length then patR [] 8 else patR (patO a l) 0 := rfl
  generalize hz : setsE a = e1 at *
  refine Ret.of_pwp layOk mixed Go.Proofs.Tryz.func38 rfl (by decide) rfl rfl ?_
  repeat (refine stp rfl ?_ ?_;·repeat' constructor)
  apply qst;exact rfl;exact rfl;exact q_callP rfl (hca) rfl (by repeat' constructor) rfl rfl
  repeat (refine stp rfl ?_ ?_;·repeat' constructor)
  refine pw_cond rfl (fun h => ?_) (fun h => ?_)
  · have hne : e1 ≠ 0 := by simpa using h
    ((repeat (first | refine ps_nil ?_ | refine pq_nil ?_ | refine x_norm ?_ | refine pw_seq ?_)); refine pw_region ?_)
    refine ps_v rfl trivial ?_
    refine ps_v rfl trivial ?_
    refine ps_v rfl trivial ?_
    refine ps_nil ?_
    refine x_norm ?_
    refine pw_ghost (Ghost.nilsl (t := 4) rfl) ?_
    repeat (refine stp rfl ?_ ?_;·repeat' constructor)
    exact end2 rfl rfl rfl rfl rfl trivial trivial (by rw [hV, if_pos hne]; rfl)
  have h10 : e1 = 0 := by simpa using h
  rw [if_neg (by simp [h10])] at hV
  clear h
  subst h10
  repeat (refine stp rfl ?_ ?_;·repeat' constructor)
  rw [hll]
  refine pw_cond rfl (fun h => ?_) (fun h => ?_)
  · have := of_decide_eq_true h
    ((repeat (first | refine ps_nil ?_ | refine pq_nil ?_ | refine x_norm ?_ | refine pw_seq ?_)); refine pw_region ?_)
    refine ps_v rfl trivial ?_
    refine ps_v rfl trivial ?_
    refine ps_nil ?_
    refine x_norm ?_
    refine pw_ghost (Ghost.nilsl (t := 4) rfl) ?_
    repeat (refine stp rfl ?_ ?_;·repeat' constructor)
    exact end2 rfl rfl rfl rfl rfl trivial trivial (by rw [hV, if_pos (by omega)]; rfl)
  have h120 : l.length ≤ 120 := by have := of_decide_eq_false h; omega
  rw [if_neg (by omega)] at hV
  clear h
  repeat (first | refine pw_exit ?_ | refine pw_skip ?_ | refine x_norm ?_ | refine x_exit ?_ | refine xb_norm ?_ | refine xb_here ?_ | refine xb_away rfl ?_)
  ((repeat (first | refine x_norm ?_ | refine pw_seq ?_)); refine pw_regionS 1 ?_)
  refine ps_v rfl trivial ?_
  refine ps_nil ?_
  refine psem_sm rfl (tableOf_inl a ha.1 rfl (fun s1 g => ?_))
  refine psem_ops ?_
  repeat (refine stp rfl ?_ ?_;·repeat' constructor)
  rw [hll]
  refine pw_loop (fun q : Nat × Nat × Nat => ClearE l (editE a l) q.1 ∧ q.2.2 ≤ 1) (fun q => [(0, .sl (a.map eSet)), (1, .sl (l.map eEd)), (7, .mp 6 q.2.1), (21, .sl (l.map eEd)), (22, I l.length), (23, I q.1)])
    (fun q => [(6, q.2.1, ⟨152, 0, (patT (tabOf a) (l.take q.1)).map eTb, q.2.2⟩)]) (fun q => l.length - q.1) (0, g, 0) ⟨.zero', Nat.zero_le _⟩ ⟨rfl, rfl, rfl, rfl, rfl, rfl, rfl, trivial⟩ ?_
  clear g
  rintro ⟨k, g, kd⟩ s ⟨hk, hkd⟩
  dsimp only at hk hkd ⊢
  have hkl2 := hk.1
  repeat (refine stp rfl ?_ ?_;·repeat' constructor)
  refine pw_cond rfl (fun h => ?_) (fun h => ?_)
  · have hlt : k < l.length := by have := of_decide_eq_true h; omega
    clear h
    obtain ⟨x, hx⟩ := get_lt hlt
    have c1 := isName_ret x.key
    have c2 := isValue_ret x.old
    have c3 := isValue_ret x.new
    have hE : editE a l k x = if isName x.key = false then 4 else if formE x = true then 3 else if 0 < k ∧ leS x.key (l.getD (k - 1) default).key = true then 10 else if ¬ findS a x.key = (x.old, x.had) then 28 else 0 := rfl
    have hbad : ∀ e : Int, editE a l k x = e → e ≠ 0 → patchV a l = patR [] e := fun e he hne => by
      have : editsE a l = e := hk.found hx he hne
      rw [hV, this, if_pos hne]
    have hT : patT (tabOf a) (l.take (k + 1)) = if x.has then tset x.key (x.new, true) (patT (tabOf a) (l.take k)) else tdel x.key (patT (tabOf a) (l.take k)) := by rw [take_snoc hx, patT_snoc]
    have hhere := patT_here hz hk hx
    have hsucc := fun h0 => hk.succ hx (p := editE a l) h0
    rw [form_cases] at hE
    generalize editE a l k x = e at *
    obtain ⟨key, old, new, had, has⟩ := x
    dsimp only at *
    generalize findS a key = V at *
    generalize patT (tabOf a) (l.take k) = B at *
    generalize valB old = v1 at *
    generalize valB new = v2 at *
    repeat (refine stp rfl ?_ ?_;·repeat' constructor)
    apply qst;exact rfl;exact rfl;exact q_idxm rfl rfl rfl rfl rfl (by omega) hx rfl
    repeat (refine stp rfl ?_ ?_;·repeat' constructor)
    apply qst;exact rfl;exact rfl;exact q_callP rfl (c1) rfl (by repeat' constructor) rfl rfl
    cases hnm : isName key with
    | false =>
      iterate 6 (refine stp rfl ?_ ?_;·repeat' constructor)
      ((repeat (first | refine ps_nil ?_ | refine pq_nil ?_ | refine x_norm ?_ | refine pw_seq ?_)); refine pw_region ?_)
      refine ps_v rfl trivial ?_
      refine ps_v rfl trivial ?_
      refine ps_nil ?_
      refine x_norm ?_
      refine pw_ghost (Ghost.nilsl (t := 4) rfl) ?_
      repeat (refine stp rfl ?_ ?_;·repeat' constructor)
      exact end2 rfl rfl rfl rfl rfl trivial trivial (by rw [hbad 4 (by rw [hE, if_pos hnm]) (by decide)]; rfl)
    | true =>
    rw [if_neg (by simp [hnm])] at hE
    have h9 := hx
    iterate 6 (refine stp rfl ?_ ?_;·repeat' constructor)
    refine pw_cutN [(0, .sl (a.map eSet)), (1, .sl (l.map eEd)), (7, .mp 6 g), (8, I k), (9, .ptr 9 ((s.own 9).1 + 1) 0 0), (21, .sl (l.map eEd)), (22, I l.length), (23, I k), (33, .bool (!v1 || (!v2 || ((!had && decide (old ≠ [])) || ((!has && decide (new ≠ [])) || (!had && !has))))))]
      [(6, g, ⟨152, 0, B.map eTb, kd⟩), (9, (s.own 9).1 + 1, ⟨159, 5, [[.str key, .str old, .str new, .bool had, .bool has]], 2⟩)] ?_ (fun s1 => ?_)
    · repeat (refine stp rfl ?_ ?_;·repeat' constructor)
      apply qst;exact rfl;exact rfl;exact q_callP rfl (c2) rfl (by repeat' constructor) rfl rfl
      repeat (refine stp rfl ?_ ?_;·repeat' constructor)
      cases v1 with
      | false =>
        repeat (refine stp rfl ?_ ?_;·repeat' constructor)
        exact ⟨rfl, rfl, rfl, rfl, rfl, rfl, rfl, rfl, rfl, rfl, rfl, trivial⟩
      | true =>
        repeat (refine stp rfl ?_ ?_;·repeat' constructor)
        apply qst;exact rfl;exact rfl;exact q_callP rfl (c3) rfl (by repeat' constructor) rfl rfl
        cases v2 with
        | false =>
          repeat (refine stp rfl ?_ ?_;·repeat' constructor)
          exact ⟨rfl, rfl, rfl, rfl, rfl, rfl, rfl, rfl, rfl, rfl, rfl, trivial⟩
        | true =>
          cases had with
          | false =>
            repeat (refine stp rfl ?_ ?_;·repeat' constructor)
            (first | refine ps_split rfl rfl (fun h => ?_) (fun h => ?_) | refine pq_split rfl rfl (fun h => ?_) (fun h => ?_) | refine p3_split rfl rfl (fun h => ?_) (fun h => ?_))
            · have q1 : ¬ old = [] := by simpa using h
              repeat (refine stp rfl ?_ ?_;·repeat' constructor)
              exact ⟨rfl, rfl, rfl, rfl, rfl, rfl, rfl, rfl, (congrArg PV.bool (by simp [q1])), rfl, rfl, trivial⟩
            · have q1 : old = [] := by simpa using h
              clear h
              cases has with
              | false =>
                repeat (refine stp rfl ?_ ?_;·repeat' constructor)
                (first | refine ps_split rfl rfl (fun h => ?_) (fun h => ?_) | refine pq_split rfl rfl (fun h => ?_) (fun h => ?_) | refine p3_split rfl rfl (fun h => ?_) (fun h => ?_))
                · have q2 : ¬ new = [] := by simpa using h
                  repeat (refine stp rfl ?_ ?_;·repeat' constructor)
                  exact ⟨rfl, rfl, rfl, rfl, rfl, rfl, rfl, rfl, (congrArg PV.bool (by simp [q2])), rfl, rfl, trivial⟩
                · have q2 : new = [] := by simpa using h
                  clear h
                  repeat (refine stp rfl ?_ ?_;·repeat' constructor)
                  exact ⟨rfl, rfl, rfl, rfl, rfl, rfl, rfl, rfl, (congrArg PV.bool (by simp)), rfl, rfl, trivial⟩
              | true =>
                repeat (refine stp rfl ?_ ?_;·repeat' constructor)
                exact ⟨rfl, rfl, rfl, rfl, rfl, rfl, rfl, rfl, (congrArg PV.bool (by simp [q1])), rfl, rfl, trivial⟩
          | true =>
            cases has with
            | false =>
              repeat (refine stp rfl ?_ ?_;·repeat' constructor)
              (first | refine ps_split rfl rfl (fun h => ?_) (fun h => ?_) | refine pq_split rfl rfl (fun h => ?_) (fun h => ?_) | refine p3_split rfl rfl (fun h => ?_) (fun h => ?_))
              · have q2 : ¬ new = [] := by simpa using h
                repeat (refine stp rfl ?_ ?_;·repeat' constructor)
                exact ⟨rfl, rfl, rfl, rfl, rfl, rfl, rfl, rfl, (congrArg PV.bool (by simp [q2])), rfl, rfl, trivial⟩
              · have q2 : new = [] := by simpa using h
                clear h
                repeat (refine stp rfl ?_ ?_;·repeat' constructor)
                exact ⟨rfl, rfl, rfl, rfl, rfl, rfl, rfl, rfl, (congrArg PV.bool (by simp [q2])), rfl, rfl, trivial⟩
            | true =>
              repeat (refine stp rfl ?_ ?_;·repeat' constructor)
              exact ⟨rfl, rfl, rfl, rfl, rfl, rfl, rfl, rfl, (congrArg PV.bool (by simp)), rfl, rfl, trivial⟩
    generalize (!v1 || (!v2 || ((!had && decide (old ≠ [])) || ((!has && decide (new ≠ [])) || (!had && !has))))) = fo at *
    generalize (s.own 9).1 + 1 = g9 at *
    repeat (refine stp rfl ?_ ?_;·repeat' constructor)
    refine pw_cond rfl (fun h => ?_) (fun h => ?_)
    · subst h
      rw [if_pos rfl] at hE
      ((repeat (first | refine ps_nil ?_ | refine pq_nil ?_ | refine x_norm ?_ | refine pw_seq ?_)); refine pw_region ?_)
      refine ps_v rfl trivial ?_
      refine ps_v rfl trivial ?_
      refine ps_nil ?_
      refine x_norm ?_
      refine pw_ghost (Ghost.nilsl (t := 4) rfl) ?_
      repeat (refine stp rfl ?_ ?_;·repeat' constructor)
      exact end2 rfl rfl rfl rfl rfl trivial trivial (by rw [hbad 3 hE (by decide)]; rfl)
    subst h
    rw [if_neg (by simp)] at hE
    iterate 1 (refine stp rfl ?_ ?_;·repeat' constructor)
    refine pw_cutN [(0, .sl (a.map eSet)), (1, .sl (l.map eEd)), (7, .mp 6 g), (8, I k), (9, .ptr 9 g9 0 0), (21, .sl (l.map eEd)), (22, I l.length), (23, I k), (74, .bool (decide (0 < k ∧ leS key (l.getD (k - 1) default).key = true)))]
      [(6, g, ⟨152, 0, B.map eTb, kd⟩), (9, g9, ⟨159, 5, [[.str key, .str old, .str new, .bool had, .bool has]], 2⟩)] ?_ (fun s1 => ?_)
    · refine pw_draw 14 [75, 76, 77, 78, 79, 80, 81, 82, 83, 84, 85, 86, 87, 74] (by decide +kernel) ?_
      repeat (refine stp rfl ?_ ?_;·repeat' constructor)
      (first | refine ps_split rfl rfl (fun h => ?_) (fun h => ?_) | refine pq_split rfl rfl (fun h => ?_) (fun h => ?_) | refine p3_split rfl rfl (fun h => ?_) (fun h => ?_))
      · have hk0 : 0 < k := by have := of_decide_eq_true h; omega
        clear h
        have hp : l[k - 1]? = some (l.getD (k - 1) default) := by rw [List.getD_eq_getElem?_getD, List.getElem?_eq_getElem (by omega)]; rfl
        have hw : IntKind.wrap .i64 ((k : Int) - 1) = ((k - 1 : Nat) : Int) := by rw [wrap_i64 (by omega) (by omega)]; omega
        generalize l.getD (k - 1) default = y at *
        repeat (refine stp rfl ?_ ?_;·repeat' constructor)
        rw [hw]
        apply qst;exact rfl;exact rfl;exact q_idxm (n := (((k - 1 : Nat) : Int) : Int)) rfl rfl rfl rfl rfl (by omega) hp rfl
        repeat (refine stp rfl ?_ ?_;·repeat' constructor)
        apply qst;exact rfl;exact rfl;exact q_leS rfl rfl
        repeat (refine stp rfl ?_ ?_;·repeat' constructor)
        refine ⟨rfl, rfl, rfl, rfl, rfl, rfl, rfl, rfl, congrArg PV.bool ?_, rfl, rfl, trivial⟩
        cases leS key y.key <;> simp [hk0]
      · have hk0 : ¬ 0 < k := by have := of_decide_eq_false h; omega
        clear h
        repeat (refine stp rfl ?_ ?_;·repeat' constructor)
        exact ⟨rfl, rfl, rfl, rfl, rfl, rfl, rfl, rfl, congrArg PV.bool (by simp [hk0]), rfl, rfl, trivial⟩
    repeat (refine stp rfl ?_ ?_;·repeat' constructor)
    refine pw_cond rfl (fun h => ?_) (fun h => ?_)
    · have hc := of_decide_eq_true h
      rw [if_pos hc] at hE
      ((repeat (first | refine ps_nil ?_ | refine pq_nil ?_ | refine x_norm ?_ | refine pw_seq ?_)); refine pw_region ?_)
      refine ps_v rfl trivial ?_
      refine ps_v rfl trivial ?_
      refine ps_nil ?_
      refine x_norm ?_
      refine pw_ghost (Ghost.nilsl (t := 4) rfl) ?_
      repeat (refine stp rfl ?_ ?_;·repeat' constructor)
      exact end2 rfl rfl rfl rfl rfl trivial trivial (by rw [hbad 10 hE (by decide)]; rfl)
    have hc := of_decide_eq_false h
    rw [if_neg hc] at hE
    clear h
    have hht := hhere fun hk0 => leS_false (by
      cases hq : leS key (l.getD (k - 1) default).key with
      | false => rfl
      | true => exact absurd ⟨hk0, hq⟩ hc)
    rw [← hht] at hE
    have hkk : Nat.blt kd 3 = true := by simp; omega
    repeat (refine stp rfl ?_ ?_;·repeat' constructor)
    apply qst;exact rfl;exact rfl;exact q_lookSO none tvZ rfl rfl rfl rfl rfl rfl hkk rfl rfl (keyedG_tb _)
    rw [mval_tb, eTV_eq]
    repeat (refine stp rfl ?_ ?_;·repeat' constructor)
    apply qst;exact rfl;exact rfl;exact q_seqN tvT rfl rfl (leq_tv (tget B key) (old, had))
    repeat (refine stp rfl ?_ ?_;·repeat' constructor)
    refine pw_cond rfl (fun h => ?_) (fun h => ?_)
    · have hne : ¬ tget B key = (old, had) := by simpa using h
      rw [if_pos hne] at hE
      ((repeat (first | refine ps_nil ?_ | refine pq_nil ?_ | refine x_norm ?_ | refine pw_seq ?_)); refine pw_region ?_)
      refine ps_v rfl trivial ?_
      refine ps_v rfl trivial ?_
      refine ps_nil ?_
      refine x_norm ?_
      refine pw_ghost (Ghost.nilsl (t := 4) rfl) ?_
      repeat (refine stp rfl ?_ ?_;·repeat' constructor)
      exact end2 rfl rfl rfl rfl rfl trivial trivial (by rw [hbad 28 hE (by decide)]; rfl)
    have heq : tget B key = (old, had) := by simpa using h
    rw [if_neg (by simpa using heq)] at hE
    clear h
    have hsk := hsucc hE
    cases has with
    | true =>
      rw [if_pos rfl] at hT
      repeat (refine stp rfl ?_ ?_;·repeat' constructor)
      refine ps_run0 (o_mset 1 rfl rfl rfl rfl rfl (by simpa using hkd) rfl rfl rfl (keyed_tb _) rfl rfl ?_)
      repeat (refine stp rfl ?_ ?_;·repeat' constructor)
      refine ⟨(k + 1, g, 1), ⟨hsk, Nat.le_refl _⟩, ?_, rfl, rfl, rfl, rfl, rfl, i64_next (by omega) (by omega), ?_, trivial⟩
      · show l.length - (k + 1) < l.length - k
        omega
      · rw [hT, ← mput_tb]; rfl
    | false =>
      rw [if_neg (by simp)] at hT
      iterate 10 (refine stp rfl ?_ ?_;·repeat' constructor)
      repeat (first | refine pw_exit ?_ | refine pw_skip ?_ | refine x_norm ?_ | refine x_exit ?_ | refine xb_norm ?_ | refine xb_here ?_ | refine xb_away rfl ?_)
      ((repeat (first | refine x_norm ?_ | refine pw_seq ?_)); refine pw_regionS 3 ?_)
      repeat (refine stp rfl ?_ ?_;·repeat' constructor)
      refine psem_sm rfl (sm_delete (k := 6) (t := 7) none rfl rfl rfl rfl rfl rfl rfl hkd rfl rfl (keyedG_tb _) rfl ?_)
      refine psem_ops ?_
      repeat (refine stp rfl ?_ ?_;·repeat' constructor)
      refine ⟨(k + 1, g + 1, 1), ⟨hsk, Nat.le_refl _⟩, ?_, rfl, rfl, rfl, rfl, rfl, i64_next (by omega) (by omega), ?_, trivial⟩
      · show l.length - (k + 1) < l.length - k
        omega
      · rw [hT, ← mdel_tb]; rfl
  · have hge : k = l.length := by have := of_decide_eq_false h; omega
    have hee : editsE a l = 0 := hk.none (by omega)
    rw [if_neg (by rw [hee]; simp)] at hV
    subst hge
    clear h hk hkl2
    rw [List.take_length]
    have hT := patT_list hz hee
    have hspec := patT_spec (setsE_asc hz) (edits_form hee)
    have htl := patT_len (tabOf a) l
    have htl2 := tabOf_len a
    have hli := list_ret (patT (tabOf a) l) hspec.1 (by omega)
    rw [hT] at hli
    have hol : (((patO a l).map eSet).length : Int) = (patO a l).length := by simp
    have fin : kd = 0 ∨ kd = 1 := by omega
    rcases fin with rfl | rfl
    all_goals
      repeat (refine stp rfl ?_ ?_;·repeat' constructor)
      apply qst;exact rfl;exact rfl;exact q_callF rfl (hli) rfl (by repeat' constructor) rfl
      repeat (refine stp rfl ?_ ?_;·repeat' constructor)
      rw [hol]
      refine pw_cond rfl (fun h => ?_) (fun h => ?_)
      · have h60 : 60 < (patO a l).length := by have := of_decide_eq_true h; omega
        ((repeat (first | refine ps_nil ?_ | refine pq_nil ?_ | refine x_norm ?_ | refine pw_seq ?_)); refine pw_region ?_)
        refine ps_v rfl trivial ?_
        refine ps_v rfl trivial ?_
        refine ps_nil ?_
        refine x_norm ?_
        refine pw_ghost (Ghost.nilsl (t := 4) rfl) ?_
        repeat (refine stp rfl ?_ ?_;·repeat' constructor)
        exact end2 rfl rfl rfl rfl rfl trivial trivial (by rw [hV, if_pos h60]; rfl)
      · have h60 : ¬ 60 < (patO a l).length := by have := of_decide_eq_false h; omega
        rw [if_neg h60] at hV
        repeat (refine stp rfl ?_ ?_;·repeat' constructor)
        exact end2 rfl rfl rfl rfl rfl trivial trivial (by rw [hV]; rfl)
end Go.Pv


set_option maxHeartbeats 2000000
namespace Go.Pv
attribute [local irreducible] PWP POps PQuiet PSem XThen XBlock RetPost InlPost
open Go.Proofs
theorem patchV_eq (a : List SSet) (l : List SEdit) : ∃ m e, patchV a l = patR m e ∧ m.length ≤ 60 := by
  rw [patchV]
  split
  · exact ⟨[], _, rfl, by simp⟩
  · split
    · exact ⟨[], _, rfl, by simp⟩
    · split
      · exact ⟨[], _, rfl, by simp⟩
      · split
        · exact ⟨[], _, rfl, by simp⟩
        · exact ⟨_, _, rfl, by omega⟩
theorem diffV_eq (a b : List SSet) (ha : a.length ≤ 70) (hb : b.length ≤ 70) : ∃ m e, diffV a b = edR m e ∧ m.length ≤ 140 ∧ (e = 0 → setsE a = 0 ∧ setsE b = 0 ∧ m = diffR a b) := by
  have hk := keysR_len2 a b
  rw [diffV]
  split
  · exact ⟨[], _, rfl, by simp, fun h => absurd h ‹_›⟩
  · split
    · exact ⟨[], _, rfl, by simp, fun h => absurd h ‹_›⟩
    · rename_i h1 h2
      exact ⟨_, _, rfl, Nat.le_trans (diffK_len ..) (by omega), fun _ => ⟨by simpa using h1, by simpa using h2, rfl⟩⟩
set_option maxRecDepth 20000 in
theorem plans_law (hawake : Ret Tryz.prog .shared 11 [] (.bool true)) (a b : List SSet) (l : List SEdit) (hs : ∀ x ∈ l, x.old.length ≤ maxLen ∧ x.new.length ≤ maxLen) : Ret Tryz.prog .shared 8 [.sl (a.map eSet), .sl (b.map eSet), .sl (l.map eEd)] (.bool true) := by
  have hll : ((l.map eEd).length : Int) = l.length := by simp
  have w1 := wide_ret a
  have w2 := wide_ret b
  cases ha : wideB a with
  | true =>
    rw [ha] at w1
    refine Ret.of_pwp layOk mixed Go.Proofs.Tryz.func8 rfl (by decide) rfl rfl ?_
    repeat (refine stp rfl ?_ ?_;·repeat' constructor)
    apply qst;exact rfl;exact rfl;exact q_callP rfl (w1) rfl (by repeat' constructor) rfl rfl
    repeat (refine stp rfl ?_ ?_;·repeat' constructor)
    apply qst;exact rfl;exact rfl;exact q_callP rfl (hawake) rfl (by repeat' constructor) rfl rfl
    repeat (refine stp rfl ?_ ?_;·repeat' constructor)
    exact end1b rfl rfl rfl
  | false =>
  rw [ha] at w1
  cases hb : wideB b with
  | true =>
    rw [hb] at w2
    refine Ret.of_pwp layOk mixed Go.Proofs.Tryz.func8 rfl (by decide) rfl rfl ?_
    repeat (refine stp rfl ?_ ?_;·repeat' constructor)
    apply qst;exact rfl;exact rfl;exact q_callP rfl (w1) rfl (by repeat' constructor) rfl rfl
    repeat (refine stp rfl ?_ ?_;·repeat' constructor)
    apply qst;exact rfl;exact rfl;exact q_callP rfl (w2) rfl (by repeat' constructor) rfl rfl
    repeat (refine stp rfl ?_ ?_;·repeat' constructor)
    apply qst;exact rfl;exact rfl;exact q_callP rfl (hawake) rfl (by repeat' constructor) rfl rfl
    repeat (refine stp rfl ?_ ?_;·repeat' constructor)
    exact end1b rfl rfl rfl
  | false =>
  rw [hb] at w2
  by_cases hl : 130 < l.length
  · refine Ret.of_pwp layOk mixed Go.Proofs.Tryz.func8 rfl (by decide) rfl rfl ?_
    repeat (refine stp rfl ?_ ?_;·repeat' constructor)
    apply qst;exact rfl;exact rfl;exact q_callP rfl (w1) rfl (by repeat' constructor) rfl rfl
    repeat (refine stp rfl ?_ ?_;·repeat' constructor)
    apply qst;exact rfl;exact rfl;exact q_callP rfl (w2) rfl (by repeat' constructor) rfl rfl
    repeat (refine stp rfl ?_ ?_;·repeat' constructor)
    rw [hll]
    refine pw_cond rfl (fun h => ?_) (fun h => ?_)
    · repeat (refine stp rfl ?_ ?_;·repeat' constructor)
      apply qst;exact rfl;exact rfl;exact q_callP rfl (hawake) rfl (by repeat' constructor) rfl rfl
      repeat (refine stp rfl ?_ ?_;·repeat' constructor)
      exact end1b rfl rfl rfl
    · exact absurd (of_decide_eq_false h) (by omega)
  obtain ⟨a1, a2⟩ := wideB_sane ha
  obtain ⟨b1, b2⟩ := wideB_sane hb
  have h36 := diff_ret a b a1 b1 (by omega) (by omega)
  have h37 := diff_ref a b a1 b1 (by omega) (by omega)
  have h38 := patch_ret a l a1 (by omega) (by omega)
  have h39 := patch_ref a l a1 (by omega) (by omega) hs
  have h40 := checkSets_ret a a1.1 a1.2
  have h33 := checkSets_ref a a1.1 a1.2
  obtain ⟨m, e, hme, hm, hme0⟩ := diffV_eq a b a2 b2
  obtain ⟨p, g, hpg, hp⟩ := patchV_eq a l
  have h38b := patch_ret a (diffR a b) a1 (by omega)
  have h36b := diff_ret b a b1 a1 (by omega) (by omega)
  have h38c := patch_ret b (diffR b a) b1 (by omega)
  rw [hme, edR] at h36 h37
  rw [hpg, patR] at h38 h39
  have h41 := edits_same m (by omega)
  have h31 := settings_same p (by omega)
  have h31a := settings_same a (by omega)
  have h31b := settings_same b (by omega)
  by_cases he : e = 0
  · obtain ⟨za, zb, hmd⟩ := hme0 he
    have q1 := (diffR_ok za zb).1
    have q2 := (diffR_ok zb za).1
    have h38b := h38b (by omega)
    have h38c := h38c (by omega)
    rw [patchV_diff za zb, patR] at h38b
    rw [patchV_diff zb za, patR] at h38c
    have hd2 : diffV b a = edR (diffR b a) 0 := by rw [diffV, if_neg (by simp [zb]), if_neg (by simp [za])]
    rw [hd2, edR] at h36b
    subst he
    rw [← hmd] at h38b
    generalize setsE a = es at *
    generalize diffR b a = D2 at *
    clear hme hpg ha hb
    refine Ret.of_pwp layOk mixed Go.Proofs.Tryz.func8 rfl (by decide) rfl rfl ?_
    repeat (refine stp rfl ?_ ?_;·repeat' constructor)
    apply qst;exact rfl;exact rfl;exact q_callP rfl (w1) rfl (by repeat' constructor) rfl rfl
    repeat (refine stp rfl ?_ ?_;·repeat' constructor)
    apply qst;exact rfl;exact rfl;exact q_callP rfl (w2) rfl (by repeat' constructor) rfl rfl
    repeat (refine stp rfl ?_ ?_;·repeat' constructor)
    rw [hll]
    refine pw_cond rfl (fun h => ?_) (fun h => ?_)
    · exact absurd (of_decide_eq_true h) (by omega)
    clear h
    repeat (refine stp rfl ?_ ?_;·repeat' constructor)
    apply qst;exact rfl;exact rfl;exact q_call rfl (h36) rfl (by repeat' constructor) rfl
    repeat (refine stp rfl ?_ ?_;·repeat' constructor)
    apply qst;exact rfl;exact rfl;exact q_call rfl (h37) rfl (by repeat' constructor) rfl
    repeat (refine stp rfl ?_ ?_;·repeat' constructor)
    apply qst;exact rfl;exact rfl;exact q_call rfl (h38) rfl (by repeat' constructor) rfl
    repeat (refine stp rfl ?_ ?_;·repeat' constructor)
    apply qst;exact rfl;exact rfl;exact q_call rfl (h39) rfl (by repeat' constructor) rfl
    repeat (refine stp rfl ?_ ?_;·repeat' constructor)
    apply qst;exact rfl;exact rfl;exact q_callP rfl (h40) rfl (by repeat' constructor) rfl rfl
    repeat (refine stp rfl ?_ ?_;·repeat' constructor)
    apply qst;exact rfl;exact rfl;exact q_callP rfl (h33) rfl (by repeat' constructor) rfl rfl
    repeat (refine stp rfl ?_ ?_;·repeat' constructor)
    (first | refine ps_split rfl rfl (fun h => ?_) (fun h => ?_) | refine pq_split rfl rfl (fun h => ?_) (fun h => ?_) | refine p3_split rfl rfl (fun h => ?_) (fun h => ?_))
    · exact absurd h (by simp)
    clear h
    repeat (refine stp rfl ?_ ?_;·repeat' constructor)
    apply qst;exact rfl;exact rfl;exact q_callP rfl (h41) rfl (by repeat' constructor) rfl rfl
    repeat (refine stp rfl ?_ ?_;·repeat' constructor)
    apply qst;exact rfl;exact rfl;exact q_callP rfl (h31) rfl (by repeat' constructor) rfl rfl
    repeat (refine stp rfl ?_ ?_;·repeat' constructor)
    refine pw_cond rfl (fun h => ?_) (fun h => ?_)
    · exact absurd h (by simp)
    clear h
    repeat (refine stp rfl ?_ ?_;·repeat' constructor)
    apply qst;exact rfl;exact rfl;exact q_call rfl (h38b) rfl (by repeat' constructor) rfl
    repeat (refine stp rfl ?_ ?_;·repeat' constructor)
    apply qst;exact rfl;exact rfl;exact q_call rfl (h36b) rfl (by repeat' constructor) rfl
    repeat (refine stp rfl ?_ ?_;·repeat' constructor)
    apply qst;exact rfl;exact rfl;exact q_call rfl (h38c) rfl (by repeat' constructor) rfl
    repeat (refine stp rfl ?_ ?_;·repeat' constructor)
    apply qst;exact rfl;exact rfl;exact q_callP rfl (h31b) rfl (by repeat' constructor) rfl rfl
    repeat (refine stp rfl ?_ ?_;·repeat' constructor)
    apply qst;exact rfl;exact rfl;exact q_callP rfl (h31a) rfl (by repeat' constructor) rfl rfl
    repeat (refine stp rfl ?_ ?_;·repeat' constructor)
    apply qst;exact rfl;exact rfl;exact q_callP rfl (hawake) rfl (by repeat' constructor) rfl rfl
    repeat (refine stp rfl ?_ ?_;·repeat' constructor)
    exact end1b rfl rfl rfl
  · generalize setsE a = es at *
    clear hme hpg ha hb hme0 h38b h36b h38c
    refine Ret.of_pwp layOk mixed Go.Proofs.Tryz.func8 rfl (by decide) rfl rfl ?_
    repeat (refine stp rfl ?_ ?_;·repeat' constructor)
    apply qst;exact rfl;exact rfl;exact q_callP rfl (w1) rfl (by repeat' constructor) rfl rfl
    repeat (refine stp rfl ?_ ?_;·repeat' constructor)
    apply qst;exact rfl;exact rfl;exact q_callP rfl (w2) rfl (by repeat' constructor) rfl rfl
    repeat (refine stp rfl ?_ ?_;·repeat' constructor)
    rw [hll]
    refine pw_cond rfl (fun h => ?_) (fun h => ?_)
    · exact absurd (of_decide_eq_true h) (by omega)
    clear h
    repeat (refine stp rfl ?_ ?_;·repeat' constructor)
    apply qst;exact rfl;exact rfl;exact q_call rfl (h36) rfl (by repeat' constructor) rfl
    repeat (refine stp rfl ?_ ?_;·repeat' constructor)
    apply qst;exact rfl;exact rfl;exact q_call rfl (h37) rfl (by repeat' constructor) rfl
    repeat (refine stp rfl ?_ ?_;·repeat' constructor)
    apply qst;exact rfl;exact rfl;exact q_call rfl (h38) rfl (by repeat' constructor) rfl
    repeat (refine stp rfl ?_ ?_;·repeat' constructor)
    apply qst;exact rfl;exact rfl;exact q_call rfl (h39) rfl (by repeat' constructor) rfl
    repeat (refine stp rfl ?_ ?_;·repeat' constructor)
    apply qst;exact rfl;exact rfl;exact q_callP rfl (h40) rfl (by repeat' constructor) rfl rfl
    repeat (refine stp rfl ?_ ?_;·repeat' constructor)
    apply qst;exact rfl;exact rfl;exact q_callP rfl (h33) rfl (by repeat' constructor) rfl rfl
    repeat (refine stp rfl ?_ ?_;·repeat' constructor)
    (first | refine ps_split rfl rfl (fun h => ?_) (fun h => ?_) | refine pq_split rfl rfl (fun h => ?_) (fun h => ?_) | refine p3_split rfl rfl (fun h => ?_) (fun h => ?_))
    · exact absurd h (by simp)
    clear h
    repeat (refine stp rfl ?_ ?_;·repeat' constructor)
    apply qst;exact rfl;exact rfl;exact q_callP rfl (h41) rfl (by repeat' constructor) rfl rfl
    repeat (refine stp rfl ?_ ?_;·repeat' constructor)
    (first | refine ps_split rfl rfl (fun h => ?_) (fun h => ?_) | refine pq_split rfl rfl (fun h => ?_) (fun h => ?_) | refine p3_split rfl rfl (fun h => ?_) (fun h => ?_))
    · exact absurd h (by simp)
    clear h
    repeat (refine stp rfl ?_ ?_;·repeat' constructor)
    apply qst;exact rfl;exact rfl;exact q_callP rfl (h31) rfl (by repeat' constructor) rfl rfl
    repeat (refine stp rfl ?_ ?_;·repeat' constructor)
    refine pw_cond rfl (fun h => ?_) (fun h => ?_)
    · exact absurd h (by simp)
    clear h
    repeat (refine stp rfl ?_ ?_;·repeat' constructor)
    refine pw_cond rfl (fun h => ?_) (fun h => ?_)
    · repeat (refine stp rfl ?_ ?_;·repeat' constructor)
      apply qst;exact rfl;exact rfl;exact q_callP rfl (hawake) rfl (by repeat' constructor) rfl rfl
      repeat (refine stp rfl ?_ ?_;·repeat' constructor)
      exact end1b rfl rfl rfl
    · exact absurd (by simpa using h) he
end Go.Pv


set_option maxHeartbeats 2000000
namespace Go.Pv
attribute [local irreducible] PWP POps PQuiet PSem XThen XBlock RetPost InlPost
open Go.Proofs
theorem rows_map {α : Type} {f : α → List PV} : ∀ {rows : List (List PV)}, (∀ row ∈ rows, ∃ x, row = f x) → ∃ l : List α, rows = l.map f
  | [], _ => ⟨[], rfl⟩
  | row :: rows, h => by
    obtain ⟨x, rfl⟩ := h row (by simp)
    obtain ⟨l, rfl⟩ := rows_map (rows := rows) fun r hr => h r (by simp [hr])
    exact ⟨x :: l, rfl⟩
end Go.Pv


namespace Go.Proofs.YtakfiahnhjnndaaGreatDoor
open Go Go.ChangeShapes Go.WideShapes Go.ChangeAt Go.RowKit Go.Pv
theorem ownL : ownKnob Tryz.prog.godebug = none := by kernel_rfl
theorem laidB : laidOutB Tryz.prog = true := by kernel_rfl
def laidL : List (String × DataW Unit) := [("math/bits.deBruijn32tab", Rows.laid_math_bits_deBruijn32tab), ("math/bits.deBruijn64tab", Rows.laid_math_bits_deBruijn64tab), ("internal/strconv.uint64pow10", Rows.laid_internal_strconv_uint64pow10)]
theorem laidL_plain (w : World) : laidMetH Tryz.prog laidL w = laidMet Tryz.prog laidL w := MakeChecks.laidMetH_plain _ _ _ (by kernel_rfl)
theorem laidL_met (os : Os) (args : Array Value) : laidMetH Tryz.prog laidL ((World.laidAll Tryz.prog os laidL).forCall (fun _ _ => 0) ⟨#[], args, []⟩).memory := by
  rw [laidL_plain]
  exact laidMet_laidAll _ (by kernel_rfl) (by kernel_rfl)
theorem pow_g : ∃ g t e, Tryz.prog.globalNamed "internal/strconv.uint64pow10" = some g ∧ (Tryz.prog.globals[g]?).map (·.type) = some t ∧ Tryz.prog.underlying t = some (.array 20 e) ∧ Tryz.prog.underlying e = some (.int .u64) ∧ Tryz.prog.cellsOf e = 1 ∧ Tryz.prog.cellsOf t = 20 := by
  refine ⟨(Tryz.prog.globalNamed "internal/strconv.uint64pow10").getD 0, ((Tryz.prog.globals[(Tryz.prog.globalNamed "internal/strconv.uint64pow10").getD 0]?).map (·.type)).getD 0, 237, ?_, ?_, ?_, ?_, ?_, ?_⟩ <;> kernel_rfl
theorem laidL_glob {w : World} (h : laidMetH Tryz.prog laidL w) : Globs.glob w := by
  rw [laidL_plain] at h
  unfold laidL at h
  have h3 := laidMet.tail (laidMet.tail h)
  obtain ⟨g, t, e, h1, h2, h4, h5, h6, h7⟩ := pow_g
  exact Lib.tabIs_of_head (k := .u64) (zs := Lib.pow10Tab) h1 h2 h4 h5 h6 h7 h3
end Go.Proofs.YtakfiahnhjnndaaGreatDoor
set_option maxHeartbeats 2000000
namespace Go.Pv
attribute [local irreducible] PWP POps PQuiet PSem XThen XBlock RetPost InlPost
open Go.Proofs
theorem dec_set {n : Nat} {cs : List PV} (h : tyP lay.get (n + 2) 149 cs) : ∃ x, cs = eSet x := by
  obtain ⟨parts, rfl, hl, hp⟩ := tyP_st h rfl
  match parts, hl, hp with
  | [p0, p1], _, hp =>
    obtain ⟨a0, rfl⟩ := tyP_str (hp 0 _ p0 rfl rfl) rfl
    obtain ⟨a1, rfl⟩ := tyP_str (hp 1 _ p1 rfl rfl) rfl
    exact ⟨⟨a0, a1⟩, rfl⟩
theorem dec_sets {c : PV} (h : argP lay.get 56 c) : ∃ s : List SSet, c = .sl (s.map eSet) := by
  obtain ⟨rows, hr, h2⟩ := tyP_sl (show tyP lay.get 6 56 [c] from h) rfl
  cases hr
  obtain ⟨l, rfl⟩ := rows_map (f := eSet) fun row hrow => dec_set (h2 row hrow)
  exact ⟨l, rfl⟩
theorem dec_ed {n : Nat} {cs : List PV} (h : tyP lay.get (n + 2) 159 cs) : ∃ x, cs = eEd x ∧ x.old.length ≤ maxLen ∧ x.new.length ≤ maxLen := by
  obtain ⟨parts, rfl, hl, hp⟩ := tyP_st h rfl
  match parts, hl, hp with
  | [p0, p1, p2, p3, p4], _, hp =>
    obtain ⟨a0, rfl⟩ := tyP_str (hp 0 _ p0 rfl rfl) rfl
    obtain ⟨a1, rfl, b1⟩ := tyP_strB (hp 1 _ p1 rfl rfl) rfl
    obtain ⟨a2, rfl, b2⟩ := tyP_strB (hp 2 _ p2 rfl rfl) rfl
    obtain ⟨a3, rfl⟩ := tyP_bool (hp 3 _ p3 rfl rfl) rfl
    obtain ⟨a4, rfl⟩ := tyP_bool (hp 4 _ p4 rfl rfl) rfl
    exact ⟨⟨a0, a1, a2, a3, a4⟩, rfl, b1, b2⟩
theorem dec_eds {c : PV} (h : argP lay.get 71 c) : ∃ s : List SEdit, c = .sl (s.map eEd) ∧ ∀ x ∈ s, x.old.length ≤ maxLen ∧ x.new.length ≤ maxLen := by
  obtain ⟨rows, hr, h2⟩ := tyP_sl (show tyP lay.get 6 71 [c] from h) rfl
  cases hr
  obtain ⟨l, rfl⟩ := rows_map (f := eEd) fun row hrow => let ⟨x, hx, _⟩ := dec_ed (h2 row hrow); ⟨x, hx⟩
  refine ⟨l, rfl, fun x hx => ?_⟩
  obtain ⟨y, hy, hb⟩ := dec_ed (h2 (eEd x) (List.mem_map_of_mem hx))
  have : x = y := by
    obtain ⟨a, b, c, d, e⟩ := x
    obtain ⟨a', b', c', d', e'⟩ := y
    simp only [eEd, List.cons.injEq, PV.str.injEq, PV.bool.injEq, and_true] at hy
    simp [hy]
  subst this; exact hb
end Go.Pv

