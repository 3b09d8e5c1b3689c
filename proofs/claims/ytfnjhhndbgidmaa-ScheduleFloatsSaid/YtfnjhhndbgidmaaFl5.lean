/- Texts of one hand, gathered: SeD, PvX, SeC, SfA, SeL, SeM, SeO, SeP, SeQ, SeR, SeS, SeG, SeH, SfB, SeI, SeJ, SfC, SfD, SfE. -/
import Derived.Test.YtfnjhhndbgidmaaFl4
import Derived.ProofKit
import Derived.OpenShut
import Derived.Carry
import Derived.KernelRfl
/- The least days and the least work of an item. -/
set_option maxHeartbeats 2000000
namespace Go.Pv
attribute [local irreducible] PWP POps PQuiet PSem XThen XBlock RetPost InlPost
open Go.Proofs

def imin (a b : Int) : Int := if b < a then b else a
def leastF (a : Int) (m : SMode) : Int := imin a m.days
def workF (a : Int) (m : SMode) : Int := imin a (m.days * m.crew)
def leastP (x : SItem) : Int := x.modes.foldl leastF (modeAt x 0).days
def lwP (x : SItem) : Int := x.modes.foldl workF ((modeAt x 0).days * (modeAt x 0).crew)

theorem least_ret (x : SItem) (h1 : 1 ≤ x.modes.length) (h2 : x.modes.length ≤ 1000) (hm : ∀ m ∈ x.modes, (1 ≤ m.days ∧ m.days ≤ 60) ∧ 0 ≤ m.crew ∧ m.crew ≤ 1000) : Ret Try.prog .shared 118 [.agg (eItem x)] (.tup [I (leastP x), I (lwP x)]) := by
  have hm0 : x.modes[0]? = some (modeAt x 0) := by rw [modeAt]; show _ = some ((x.modes[0]?).getD _); rw [List.getElem?_eq_getElem (by omega)]; rfl
  refine Ret.of_pwp layOk mixed Go.Proofs.Try.func118 rfl (by decide) rfl rfl ?_
  repeat (first|refine pq_end rfl ?_|(refine zs rfl ?_ ?_;·repeat' constructor)|(refine zq rfl ?_ ?_;·repeat' constructor)|refine zw rfl ?_|refine zx rfl ?_|refine zb rfl ?_)
  refine pw_draw 18 [6, 7, 8, 9, 10, 11, 12, 13, 14, 15, 16, 17, 18, 19, 20, 21, 2, 3] (by decide +kernel) ?_
  repeat (first|refine pq_end rfl ?_|(refine zs rfl ?_ ?_;·repeat' constructor)|(refine zq rfl ?_ ?_;·repeat' constructor)|refine zw rfl ?_|refine zx rfl ?_|refine zb rfl ?_)
  (first|refine zsq rfl (q_idxm (n := (((0:Nat):Int) : Int)) rfl rfl rfl rfl rfl (by omega) hm0 rfl) ?_|refine zqq rfl (q_idxm (n := (((0:Nat):Int) : Int)) rfl rfl rfl rfl rfl (by omega) hm0 rfl) ?_)
  repeat (first|refine pq_end rfl ?_|(refine zs rfl ?_ ?_;·repeat' constructor)|(refine zq rfl ?_ ?_;·repeat' constructor)|refine zw rfl ?_|refine zx rfl ?_|refine zb rfl ?_)
  (first|refine zsq rfl (q_idxm (n := (((0:Nat):Int) : Int)) rfl rfl rfl rfl rfl (by omega) hm0 rfl) ?_|refine zqq rfl (q_idxm (n := (((0:Nat):Int) : Int)) rfl rfl rfl rfl rfl (by omega) hm0 rfl) ?_)
  repeat (first|refine pq_end rfl ?_|(refine zs rfl ?_ ?_;·repeat' constructor)|(refine zq rfl ?_ ?_;·repeat' constructor)|refine zw rfl ?_|refine zx rfl ?_|refine zb rfl ?_)
  (first|refine zsq rfl (q_idxm (n := (((0:Nat):Int) : Int)) rfl rfl rfl rfl rfl (by omega) hm0 rfl) ?_|refine zqq rfl (q_idxm (n := (((0:Nat):Int) : Int)) rfl rfl rfl rfl rfl (by omega) hm0 rfl) ?_)
  repeat (first|refine pq_end rfl ?_|(refine zs rfl ?_ ?_;·repeat' constructor)|(refine zq rfl ?_ ?_;·repeat' constructor)|refine zw rfl ?_|refine zx rfl ?_|refine zb rfl ?_)
  have hml : (x.modes.map eMode).length = x.modes.length := by simp
  have hb0 := mul_bound (A := 60) (B := 1000) (by have := (hm _ (List.mem_of_getElem? hm0)).1; omega) (hm _ (List.mem_of_getElem? hm0)).1.2 (hm _ (List.mem_of_getElem? hm0)).2.1 (hm _ (List.mem_of_getElem? hm0)).2.2
  refine pw_loop (fun k => k ≤ x.modes.length) (fun k => [(1, .ptr 1 1 0 0), (2, I ((x.modes.take k).foldl leastF (modeAt x 0).days)), (3, I ((x.modes.take k).foldl workF ((modeAt x 0).days * (modeAt x 0).crew))), (23, .sl (x.modes.map eMode)), (24, I x.modes.length), (25, I k)])
    (fun k => [(1, 1, ⟨57, 7, [eItem x], 2⟩)]) (fun k => x.modes.length - k) 0 (Nat.zero_le _) ⟨rfl, rfl, ?_, rfl, ?_, rfl, rfl, trivial⟩ ?_
  · exact congrArg I (wrap_i64 (by omega) (by omega))
  · show I ((x.modes.map eMode).length) = _
    rw [hml]
  intro k s hk
  repeat (first|refine pq_end rfl ?_|(refine zs rfl ?_ ?_;·repeat' constructor)|(refine zq rfl ?_ ?_;·repeat' constructor)|refine zw rfl ?_|refine zx rfl ?_|refine zb rfl ?_)
  refine pw_cond rfl (fun h => ?_) (fun h => ?_)
  · have hlt : k < x.modes.length := by simpa using h
    obtain ⟨m, hmk⟩ := get_lt hlt
    clear h
    have hmm := hm m (List.mem_of_getElem? hmk)
    have hb := mul_bound (A := 60) (B := 1000) (by omega) hmm.1.2 hmm.2.1 hmm.2.2
    have hs := take_snoc hmk
    repeat (first|refine pq_end rfl ?_|(refine zs rfl ?_ ?_;·repeat' constructor)|(refine zq rfl ?_ ?_;·repeat' constructor)|refine zw rfl ?_|refine zx rfl ?_|refine zb rfl ?_)
    (first|refine zsq rfl (q_idxm rfl rfl rfl rfl rfl (by omega) hmk rfl) ?_|refine zqq rfl (q_idxm rfl rfl rfl rfl rfl (by omega) hmk rfl) ?_)
    repeat (first|refine pq_end rfl ?_|(refine zs rfl ?_ ?_;·repeat' constructor)|(refine zq rfl ?_ ?_;·repeat' constructor)|refine zw rfl ?_|refine zx rfl ?_|refine zb rfl ?_)
    refine pw_ghost (Ghost.data (k := 5) (t := 5) (row := eMode m) rfl rfl rfl rfl) ?_
    refine pw_draw2 11 0 [29, 30, 31, 32, 33, 34, 35, 36, 37, 38, 39] [4,5,6,7,8,9,10] (by decide +kernel) rfl ?_
    repeat (first|refine pq_end rfl ?_|(refine zs rfl ?_ ?_;·repeat' constructor)|(refine zq rfl ?_ ?_;·repeat' constructor)|refine zw rfl ?_|refine zx rfl ?_|refine zb rfl ?_)
    refine ⟨k + 1, hlt, by omega, rfl, ?_, ?_, rfl, rfl, ?_, rfl, trivial⟩
    · rw [hs, List.foldl_append]; rfl
    · rw [hs, List.foldl_append]
      refine congrArg I ?_
      show (if IntKind.i64.wrap (m.days * m.crew) < _ then IntKind.i64.wrap (m.days * m.crew) else _) = workF _ m
      rw [wrap_i64 (by omega) (by omega)]; rfl
    · exact i64_next (by omega) (by omega)
  · have hge : k = x.modes.length := by have := of_decide_eq_false h; omega
    subst hge
    rw [List.take_length]
    repeat (first|refine pq_end rfl ?_|(refine zs rfl ?_ ?_;·repeat' constructor)|(refine zq rfl ?_ ?_;·repeat' constructor)|refine zw rfl ?_|refine zx rfl ?_|refine zb rfl ?_)
    exact end2 rfl rfl rfl rfl rfl trivial trivial rfl
end Go.Pv

/- From what a row says of its arguments to pure values, and back from a contract to what the row asks. -/
namespace Go.Pv
open Go.RowKit Go.ChangeShapes Go.WideShapes Go.ChangeAt

/-- Fields that lie one behind the other. -/
def contig (L : Lay) : List (Nat × TypeId) → Nat → Nat → Bool
  | [], o, tot => Nat.beq o tot
  | (off, T) :: fs, o, tot => match L T with | some r => Nat.beq off o && contig L fs (o + r.size) tot | none => false
/-- Types of plain data. -/
def plainT (L : Lay) : Nat → TypeId → Bool
  | 0, _ => false
  | n + 1, T => match L T with
    | some r => (match r.sh with
      | .bool | .int _ | .str => true
      | .sl e => (match L e with | some re => Nat.blt 0 re.size && plainT L n e | none => false)
      | .st fs => contig L fs 0 r.size && fs.all (fun f => plainT L n f.2)
      | _ => false)
    | none => false
/-- Pure cells of such a type. -/
def tyP (L : Lay) : Nat → TypeId → List PV → Prop
  | 0, _, _ => False
  | n + 1, T, cs => ∃ r, L T = some r ∧ (match r.sh with
    | .bool => ∃ b, cs = [.bool b]
    | .int k => ∃ m, cs = [.int k m]
    | .str => ∃ s, cs = [.str s]
    | .sl e => ∃ rows, cs = [.sl rows] ∧ ∀ row ∈ rows, tyP L n e row
    | .st fs => ∃ parts : List (List PV), cs = parts.flatten ∧ parts.length = fs.length ∧ ∀ (i : Nat) f p, fs[i]? = some f → parts[i]? = some p → tyP L n f.2 p
    | _ => False)

/-- Cells that read as pure ones. -/
def Reads (w : World) (pvs : List PV) (cs : List Value) : Prop :=
  pvs.length = cs.length ∧ ∀ (i : Nat) (c : PV) (v : Value), pvs[i]? = some c → cs[i]? = some v → DRep w (fun b => b < w.heap.size) c v ∧ v.oneCell' = true
theorem Reads.append {w : World} {p1 p2 : List PV} {c1 c2 : List Value} (h1 : Reads w p1 c1) (h2 : Reads w p2 c2) : Reads w (p1 ++ p2) (c1 ++ c2) := by
  refine ⟨by simp [h1.1, h2.1], fun i c v e1 e2 => ?_⟩
  rw [List.getElem?_append] at e1 e2
  split at e1
  · rename_i hlt
    rw [if_pos (by rw [← h1.1]; exact hlt)] at e2
    exact h1.2 i c v e1 e2
  · rename_i hlt
    rw [if_neg (by rw [← h1.1]; exact hlt), ← h1.1] at e2
    exact h2.2 _ c v e1 e2

section
variable {H : Type} {enc : TypeId × Value → H} {P : Program} {L : Lay} {w : World} {sp : Nat → Bool} {held : Bool}

theorem cellsOf_eq (hL : LOk P L) {T : TypeId} {r : LRow} (hr : L T = some r) : P.cellsOf T = r.size := by
  obtain ⟨i, d, hi, _, hs, _⟩ := LRow.spec (hL T r hr)
  simp [Program.cellsOf, hi, hs]

theorem contig_le : ∀ (fs : List (Nat × TypeId)) (o tot : Nat), contig L fs o tot = true → o ≤ tot
  | [], o, tot, h => by simp [contig] at h; omega
  | (off, T) :: fs, o, tot, h => by
    simp only [contig] at h
    split at h
    · rename_i r hr
      simp only [Bool.and_eq_true] at h
      have := contig_le fs _ _ h.2
      omega
    · cases h

theorem dec_fields (hL : LOk P L) {n : Nat} {cs : List Value}
    (IH : ∀ (T : TypeId) (cs : List Value) (fuel : Nat) x, plainT L n T = true → DataW.trod enc P w 0 sp held fuel T cs = some x → ∃ pvs, Reads w pvs cs ∧ tyP L n T pvs) :
    ∀ (fs : List (Nat × TypeId)) (o : Nat), contig L fs o cs.length = true → fs.all (fun f => plainT L n f.2) = true →
      (∀ f ∈ fs, ∃ m x, DataW.trod enc P w 0 sp held m f.2 ((cs.drop f.1).take (P.cellsOf f.2)) = some x) →
      ∃ parts : List (List PV), Reads w parts.flatten (cs.drop o) ∧ parts.length = fs.length ∧ ∀ (i : Nat) f p, fs[i]? = some f → parts[i]? = some p → tyP L n f.2 p
  | [], o, h, _, _ => by
    simp [contig] at h
    refine ⟨[], ⟨by simp [h], fun i c v e => by simp at e⟩, rfl, fun i f p e => by simp at e⟩
  | (off, T) :: fs, o, h, hall, hd => by
    simp only [contig] at h
    split at h
    · rename_i r hr
      simp only [Bool.and_eq_true, Nat.beq_eq] at h
      obtain ⟨rfl, h⟩ := h
      simp only [List.all_cons, Bool.and_eq_true] at hall
      have hle := contig_le fs _ _ h
      obtain ⟨m, x, hx⟩ := hd (off, T) (by simp)
      obtain ⟨pvs, hp1, hp2⟩ := IH T _ m x hall.1 hx
      obtain ⟨parts, g1, g2, g3⟩ := dec_fields hL IH fs (off + r.size) h hall.2 (fun f hf => hd f (by simp [hf]))
      rw [cellsOf_eq hL hr] at hp1
      refine ⟨pvs :: parts, ?_, by simp [g2], fun i f p e1 e2 => ?_⟩
      · have hsplit : cs.drop off = (cs.drop off).take r.size ++ cs.drop (off + r.size) := by rw [← List.drop_drop, List.take_append_drop]
        rw [hsplit, List.flatten_cons]
        exact hp1.append g1
      · cases i with
        | zero => simp at e1 e2; subst e1; subst e2; exact hp2
        | succ i => exact g3 i f p (by simpa using e1) (by simpa using e2)
    · cases h

theorem trod_dec (hL : LOk P L) : ∀ (n : Nat) (T : TypeId) (cs : List Value) (fuel : Nat) (x : DataW H × List MemPlace), plainT L n T = true → DataW.trod enc P w 0 sp held fuel T cs = some x → ∃ pvs, Reads w pvs cs ∧ tyP L n T pvs
  | 0, _, _, _, _, h, _ => by simp [plainT] at h
  | n + 1, T, cs, fuel, x, h, ht => by
    simp only [plainT] at h
    split at h
    · rename_i r hr
      have hfit := hL T r hr
      have one : ∀ {c : PV} {v : Value}, DRep w (fun b => b < w.heap.size) c v → v.oneCell' = true → Reads w [c] [v] := fun h1 h2 => ⟨rfl, fun i c v e1 e2 => by
        cases i with
        | zero => simp at e1 e2; subst e1; subst e2; exact ⟨h1, h2⟩
        | succ i => simp at e1⟩
      split at h
      · rename_i hs
        obtain ⟨b, rfl, _⟩ := DataW.trod_bool (und_bool hfit hs) ht
        exact ⟨[.bool b], one (.bool b) rfl, r, hr, by rw [hs]; exact ⟨b, rfl⟩⟩
      · rename_i k hs
        obtain ⟨m, rfl, _⟩ := DataW.trod_int (und_int hfit hs) ht
        exact ⟨[.int k m], one (.int k m) rfl, r, hr, by rw [hs]; exact ⟨m, rfl⟩⟩
      · rename_i hs
        obtain ⟨s, rfl, _⟩ := DataW.trod_string (und_str hfit hs) ht
        exact ⟨[.str s.data.toList], one (.str s.data.toList) rfl, r, hr, by rw [hs]; exact ⟨_, rfl⟩⟩
      · rename_i e hs
        split at h
        · rename_i re hre
          simp only [Bool.and_eq_true] at h
          have hsz : 0 < re.size := by simpa using h.1
          have hce := cellsOf_eq hL hre
          rcases DataW.trod_slice (und_sl hfit hs) ht with ⟨rfl, _⟩ | ⟨a, len, cap, elems, rest, m, rfl, rfl, _, _, hlc, hcm, hel, hat, _⟩
          · exact ⟨[.sl []], one (.sl0 none 0) rfl, r, hr, by rw [hs]; exact ⟨[], rfl, fun row hrow => by cases hrow⟩⟩
          · rw [hce] at hat
            have key : ∀ i, i < len → ∃ ecs, w.cells? 0 (a.add (i * re.size)) re.size = some ecs ∧ ∃ pvs, Reads w pvs ecs ∧ tyP L n e pvs := by
              intro i hi
              have h1 := hat i hi
              rw [List.getElem?_eq_getElem (by omega)] at h1
              obtain ⟨ecs, e1, e2⟩ := Option.bind_eq_some_iff.1 h1
              obtain ⟨pvs, g1, g2⟩ := trod_dec hL n e ecs m _ h.2 e2
              exact ⟨ecs, e1, pvs, g1, g2⟩
            by_cases h0 : len = 0
            · subst h0
              exact ⟨[.sl []], one (.sl0 _ _) rfl, r, hr, by rw [hs]; exact ⟨[], rfl, fun row hrow => by cases hrow⟩⟩
            · -- the address is that of a cell
              have cellAt : ∀ (i : Nat) ecs, w.cells? 0 (a.add (i * re.size)) re.size = some ecs → ecs.length = re.size ∧ ∀ j v, ecs[j]? = some v → w.cell? ((a.add (i * re.size)).add j) = some v := by
                intro i ecs he
                unfold World.cells? at he
                rw [if_pos (Nat.zero_le _)] at he
                refine ⟨by simpa using mapM_some_length he, fun j v hv => ?_⟩
                have hj : j < re.size := by have := mapM_some_length he; have := (List.getElem?_eq_some_iff.1 hv).1; simp at *; omega
                have := mapM_some_get he j j (by simp [hj])
                rw [hv] at this
                exact this
              obtain ⟨b, off, spot⟩ := a
              obtain ⟨ecs0, f1, pvs0, f2, _⟩ := key 0 (by omega)
              obtain ⟨f3, f4⟩ := cellAt 0 ecs0 f1
              have hc0 : ∃ v, w.cell? (((⟨b, off, spot⟩ : Addr).add (0 * re.size)).add 0) = some v := ⟨ecs0[0], f4 0 _ (List.getElem?_eq_getElem (by omega))⟩
              have hspot : spot = none := by
                obtain ⟨v, hv⟩ := hc0
                simpa [Addr.add] using World.cell?_spot hv
              subst hspot
              have hbl : b < w.heap.size := by
                obtain ⟨v, hv⟩ := hc0
                simp only [Nat.zero_mul, Addr.add_mk, Nat.add_zero] at hv
                rcases Nat.lt_or_ge b w.heap.size with hlt | hge
                · exact hlt
                · simp [World.cell?, Array.getElem?_eq_none hge] at hv
              have hch : ∀ i : Nat, ∃ p : List PV × List Value, i < len → w.cells? 0 ((⟨b, off, none⟩ : Addr).add (i * re.size)) re.size = some p.2 ∧ Reads w p.1 p.2 ∧ tyP L n e p.1 := by
                intro i
                by_cases hi : i < len
                · obtain ⟨ecs, e1, pvs, e2, e3⟩ := key i hi
                  exact ⟨(pvs, ecs), fun _ => ⟨e1, e2, e3⟩⟩
                · exact ⟨([], []), fun h => absurd h hi⟩
              let g : Nat → List PV × List Value := fun i => Classical.choose (hch i)
              have hg : ∀ i, i < len → w.cells? 0 ((⟨b, off, none⟩ : Addr).add (i * re.size)) re.size = some (g i).2 ∧ Reads w (g i).1 (g i).2 ∧ tyP L n e (g i).1 := fun i hi => Classical.choose_spec (hch i) hi
              have hrow : ∀ (i : Nat) (row : List PV), ((List.range len).map fun i => (g i).1)[i]? = some row → i < len ∧ row = (g i).1 := by
                intro i row hrow
                rw [List.getElem?_map] at hrow
                rcases Nat.lt_or_ge i len with hlt | hge
                · rw [List.getElem?_range hlt] at hrow
                  simp at hrow
                  exact ⟨hlt, hrow.symm⟩
                · rw [List.getElem?_eq_none (by simpa using hge)] at hrow
                  simp at hrow
              have hmem : ∀ row ∈ (List.range len).map fun i => (g i).1, ∃ i, i < len ∧ row = (g i).1 := by
                intro row hrow
                obtain ⟨i, hi, rfl⟩ := List.mem_map.1 hrow
                exact ⟨i, List.mem_range.1 hi, rfl⟩
              have hlen : ((List.range len).map fun i => (g i).1).length = len := by simp
              have hlen' : ∀ i, i < len → (g i).1.length = re.size := fun i hi => by
                rw [(hg i hi).2.1.1]; exact (cellAt i _ (hg i hi).1).1
              have hD : DRep w (fun b => b < w.heap.size) (.sl ((List.range len).map fun i => (g i).1)) (.slice (some ⟨b, off, none⟩) len cap) := by
                have := DRep.sl (w := w) (ok := fun b => b < w.heap.size) ((List.range len).map fun i => (g i).1) b off cap re.size (fun i j => ((g i).2[j]?).getD undef) hbl hsz (by rw [hlen]; exact hlc)
                  (fun row hr => by obtain ⟨i, hi, rfl⟩ := hmem row hr; exact hlen' i hi)
                  (fun i j row c e1 e2 => by
                    obtain ⟨hi, rfl⟩ := hrow i row e1
                    have hj : j < (g i).2.length := by rw [← (hg i hi).2.1.1]; exact (List.getElem?_eq_some_iff.1 e2).1
                    have hv : (g i).2[j]? = some (g i).2[j] := List.getElem?_eq_getElem hj
                    have := (cellAt i _ (hg i hi).1).2 j _ hv
                    rw [Addr.add_mk, Addr.add_mk] at this
                    rw [hv]
                    exact ⟨this, ((hg i hi).2.1.2 j c _ e2 hv).2⟩)
                  (fun i j row c e1 e2 => by
                    obtain ⟨hi, rfl⟩ := hrow i row e1
                    have hj : j < (g i).2.length := by rw [← (hg i hi).2.1.1]; exact (List.getElem?_eq_some_iff.1 e2).1
                    have hv : (g i).2[j]? = some (g i).2[j] := List.getElem?_eq_getElem hj
                    rw [hv]
                    exact ((hg i hi).2.1.2 j c _ e2 hv).1)
                rw [hlen] at this
                exact this
              exact ⟨[.sl ((List.range len).map fun i => (g i).1)], one hD rfl, r, hr, by
                rw [hs]
                exact ⟨_, rfl, fun row hr => by obtain ⟨i, hi, rfl⟩ := hmem row hr; exact (hg i hi).2.2⟩⟩
        · cases h
      · rename_i fs hs
        simp only [Bool.and_eq_true] at h
        obtain ⟨fs', hu, hm⟩ := und_st hfit hs
        obtain ⟨xs, m, _, _, hlen, hxl, hf⟩ := DataW.trod_struct hu ht
        rw [cellsOf_eq hL hr] at hlen
        obtain ⟨parts, g1, g2, g3⟩ := dec_fields hL (cs := cs) (fun T cs fuel x a b => trod_dec hL n T cs fuel x a b) fs 0 (by rw [hlen]; exact h.1) h.2 (fun f hf' => by
          rw [← hm] at hf'
          obtain ⟨fd, hfd, rfl⟩ := List.mem_map.1 hf'
          obtain ⟨i, hi, hie⟩ := List.getElem_of_mem hfd
          have hi' : i < fs'.size := by simpa using hi
          have h1 : fs'[i]? = some fd := by rw [Array.getElem?_eq_getElem hi']; simpa using hie
          have h2 := hf i fd h1
          rw [List.getElem?_eq_getElem (by omega)] at h2
          exact ⟨m, _, h2⟩)
        exact ⟨parts.flatten, by simpa using g1, r, hr, by rw [hs]; exact ⟨parts, rfl, g2, g3⟩⟩
      · cases h
    · cases h

/-- What an argument may be. -/
def argP (L : Lay) (T : TypeId) (c : PV) : Prop := match L T with
  | some r => bif r.sh.agg then ∃ cs, c = .agg cs ∧ tyP L 6 T cs else tyP L 6 T [c]
  | none => False

theorem arg_dec (hL : LOk P L) {base : Nat} {T : TypeId} {v : Value} {d : DataW H} {ps : List MemPlace} (hp : plainT L 6 T = true) (h : DataW.Trod enc P w 0 sp held T v d ps) (hok : Value.okWide P w .any base T v) : ∃ c, DRep w (fun b => b < w.heap.size) c v ∧ argP L T c := by
  obtain ⟨fuel, h⟩ := h
  obtain ⟨pvs, h1, h2⟩ := trod_dec hL 6 T _ fuel _ hp h
  have hp' := hp
  simp only [plainT] at hp
  split at hp
  · rename_i r hr
    have hfit := hL T r hr
    have leaf : r.sh.agg = false → (∃ c, pvs = [c]) → (v.cells.toList.length = 1 → v.cells = #[v]) → ∃ c, DRep w (fun b => b < w.heap.size) c v ∧ argP L T c := by
      rintro ha ⟨c, rfl⟩ hv
      have hc := hv (by rw [← h1.1]; rfl)
      have hd := h1.2 0 c v rfl (by rw [hc]; rfl)
      refine ⟨c, hd.1, ?_⟩
      unfold argP
      rw [hr]
      simp only [ha, cond_false]
      exact h2
    have nagg : (∀ cs, v ≠ .agg cs) → v.cells = #[v] := by
      intro h
      cases v <;> first | rfl | exact absurd rfl (h _)
    have hty : ∃ r', L T = some r' ∧ _ := h2
    obtain ⟨r', hr', hty⟩ := hty
    rw [hr] at hr'
    have hr' := Option.some.inj hr'
    subst hr'
    split at hp
    · rename_i hs
      rw [hs] at hty
      obtain ⟨b, rfl⟩ := hty
      obtain ⟨b', rfl⟩ : ∃ b', v = .bool b' := by
        have := okWide_bool (und_bool hfit hs) hok; exact this
      exact leaf (by rw [hs]; rfl) ⟨_, rfl⟩ (fun _ => rfl)
    · rename_i k hs
      rw [hs] at hty
      obtain ⟨m, rfl⟩ := hty
      obtain ⟨m', rfl⟩ := okWide_int (und_int hfit hs) hok
      exact leaf (by rw [hs]; rfl) ⟨_, rfl⟩ (fun _ => rfl)
    · rename_i hs
      rw [hs] at hty
      obtain ⟨s, rfl⟩ := hty
      obtain ⟨s', rfl⟩ := okWide_string (und_str hfit hs) hok
      exact leaf (by rw [hs]; rfl) ⟨_, rfl⟩ (fun _ => rfl)
    · rename_i e hs
      rw [hs] at hty
      obtain ⟨rows, rfl, _⟩ := hty
      obtain ⟨a, l, c, rfl⟩ := okWide_slice (und_sl hfit hs) hok
      exact leaf (by rw [hs]; rfl) ⟨_, rfl⟩ (fun _ => rfl)
    · rename_i fs hs
      obtain ⟨fs', hu, _⟩ := und_st hfit hs
      obtain ⟨cs, rfl, _⟩ := okWide_struct hu hok
      refine ⟨.agg pvs, ?_, ?_⟩
      · have := DRep.agg (w := w) (ok := fun b => b < w.heap.size) pvs cs.toList h1.1 (fun i c v e1 e2 => (h1.2 i c v e1 e2).1)
        simpa using this
      · unfold argP
        rw [hr]
        simp only [hs, Sh.agg, cond_true]
        exact ⟨pvs, rfl, h2⟩
    · cases hp
  · cases hp

theorem args_dec (hL : LOk P L) {base : Nat} : ∀ (ts : List TypeId) (vs : List Value) (ds : List (DataW H)) (ps : List MemPlace), ts.all (plainT L 6) = true → DataW.TrodAll enc P w 0 sp held ts vs ds ps →
    (∀ (j : Nat) t v, ts[j]? = some t → vs[j]? = some v → Value.okWide P w .any base t v) →
    ∃ pargs : List PV, pargs.length = vs.length ∧ ts.length = vs.length ∧ ds.length = vs.length ∧ (∀ (i : Nat) (c : PV) (v : Value), pargs[i]? = some c → vs[i]? = some v → DRep w (fun b => b < w.heap.size) c v) ∧ ∀ (i : Nat) t c, ts[i]? = some t → pargs[i]? = some c → argP L t c
  | [], vs, ds, ps, _, h, _ => by
    obtain ⟨rfl, rfl, _⟩ := trodAll_nil h
    exact ⟨[], rfl, rfl, rfl, fun i c v e => by simp at e, fun i t c e => by simp at e⟩
  | t :: ts, vs, ds, ps, hp, h, hok => by
    obtain ⟨v, vs', d, ds', p, q, rfl, rfl, rfl, h1, h2⟩ := trodAll_cons h
    simp only [List.all_cons, Bool.and_eq_true] at hp
    obtain ⟨c, g1, g2⟩ := arg_dec hL hp.1 h1 (hok 0 t v rfl rfl)
    obtain ⟨pargs, e1, e2, e3, e4, e5⟩ := args_dec hL ts vs' ds' q hp.2 h2 (fun j t v a b => hok (j + 1) t v (by simpa using a) (by simpa using b))
    refine ⟨c :: pargs, by simp [e1], by simp [e2], by simp [e3], fun i c' v' a b => ?_, fun i t' c' a b => ?_⟩
    · cases i with
      | zero => simp at a b; subst a; subst b; exact g1
      | succ i => exact e4 i c' v' (by simpa using a) (by simpa using b)
    · cases i with
      | zero => simp at a b; subst a; subst b; exact g2
      | succ i => exact e5 i t' c' (by simpa using a) (by simpa using b)

theorem trodAll_below (hl : laidOutB P = true) {W W' : World} (hb : Below W.heap.size W W') : ∀ (ts : List TypeId) (vs : List Value) (ds : List (DataW H)) (ps : List MemPlace), (∀ t ∈ ts, P.readableRec t = true ∧ t < P.types.size) →
    DataW.TrodAll enc P W 0 (fun _ => true) true ts vs ds ps → (∀ x ∈ ps, x.block < W.heap.size) → DataW.TrodAll enc P W' 0 (fun b => decide (b < W.heap.size)) true ts vs ds ps
  | [], vs, ds, ps, _, h, _ => by
    obtain ⟨rfl, rfl, rfl⟩ := trodAll_nil h
    exact trodAll_mk0
  | t :: ts, vs, ds, ps, hr, h, hlt => by
    obtain ⟨v, vs', d, ds', p, q, rfl, rfl, rfl, h1, h2⟩ := trodAll_cons h
    have ht := hr t (by simp)
    exact ⟨p, q, Below.trod hl ht.1 ht.2 h1 hb (fun x hx => hlt x (by simp [hx])), trodAll_below hl hb ts vs' ds' q (fun t ht => hr t (by simp [ht])) h2 (fun x hx => hlt x (by simp [hx])), rfl⟩

/-- A law's step: what its contract says is what its row asks. -/
theorem law_step (hL : LOk P L) (hl : laidOutB P = true) {f : FuncId} {fn : Func} {s : ChangeSpec} {ts : List TypeId} {T : TypeId} (hvars : s.vars = []) (hts : fn.params.toList = ts) (hplain : ts.all (plainT L 6) = true)
    (hread : ts.all (fun t => P.readableRec t && decide (t < P.types.size)) = true) (hres : fn.resultTypes = #[T]) (hT : P.underlying T = some .bool)
    (hspec : ∀ ds : List (DataW H), ds.length = ts.length → (s.fn H ds).results = [.lit (.bool true)] ∧ (s.fn H ds).args = ds ∧ (s.fn H ds).vars = [])
    (law : ∀ pargs : List PV, pargs.length = ts.length → (∀ (i : Nat) t c, ts[i]? = some t → pargs[i]? = some c → argP L t c) → Ret P .shared f pargs (.bool true))
    {W : World} {base : Nat} {args : Array Value} {ds gs : List (DataW H)} {before : List MemPlace} (hval : ∀ (j : Nat) t v, fn.params[j]? = some t → args[j]? = some v → Value.okWide P W .any base t v)
    (hW : DataW.Whole enc P fn.params.toList s.vars false W args.toList ds gs before) :
    Calls P f args W fun e W' => ∃ v, e = .returned v ∧ s.post enc P fn false true false false W args v W' := by
  have hW' := hW
  obtain ⟨p, q, hA, hV, hpq, hfz, hnd⟩ := hW
  rw [hvars] at hV
  obtain ⟨rfl, rfl⟩ := trodVars_none hV
  rw [hts] at hA
  obtain ⟨pargs, e1, e2, e3, e4, e5⟩ := args_dec hL (base := base) ts _ _ _ hplain hA (fun j t v a b => hval j t v (by rw [← hts] at a; simpa using a) (by simpa using b))
  have hret := law pargs (by omega) e5
  have hcall := hret.2 W (fun _ => False) args.toList (fun b hb => hb.elim) (by omega) (fun i c v a b => (e4 i c v a b).weaken fun b hb => ⟨hb, fun h => h⟩)
  have hargs : args.toList.toArray = args := by simp
  rw [hargs] at hcall
  refine hcall.mono ?_
  rintro e W' ⟨v, rfl, hb, hd⟩
  refine ⟨v, rfl, ?_⟩
  have hv : v = .bool true := by cases hd; rfl
  subst hv
  have hlt : ∀ x ∈ p, x.block < W.heap.size := fun x hx => by
    have := hW'.lt x (by rw [hpq]; simp [hx])
    simpa using this
  obtain ⟨s1, s2, s3⟩ := hspec ds (by omega)
  have hgs : ds ++ ([] : List (DataW H)) = ds := List.append_nil ds
  refine ⟨ds, [], before, [], p, [], hW', ?_, ?_, ?_, World.keptBut_mono (fun x hx => hx.elim) (hb.frame (fun _ => False)), fun h => by cases h⟩
  · rw [hgs, s1, hres]
    exact trodAll_mk1 (shut_bool hT true)
  · rw [hgs, s2, hts]
    exact trodAll_below hl hb ts _ _ _ (fun t ht => by
      have := List.all_eq_true.1 hread t ht
      simpa using this) hA hlt
  · rw [hgs, s3, hvars]
    exact rfl
end
end Go.Pv

/- What the laws' arguments are; plain work; orders by name. -/
set_option maxHeartbeats 2000000
namespace Go.Pv
attribute [local irreducible] PWP POps PQuiet PSem XThen XBlock RetPost InlPost
open Go.Proofs

section
variable {L : Lay} {n : Nat} {T : TypeId} {cs : List PV}
theorem tyP_sh {r : LRow} {sh : Sh} (hr : L T = some r) (hs : (L T).map (·.sh) = some sh) : r.sh = sh := by rw [hr] at hs; exact Option.some.inj hs
theorem tyP_int {k : IntKind} (h : tyP L (n + 1) T cs) (hs : (L T).map (·.sh) = some (.int k)) : ∃ m, cs = [.int k m] := by
  obtain ⟨r, hr, h⟩ := h
  rw [tyP_sh hr hs] at h; exact h
theorem tyP_bool (h : tyP L (n + 1) T cs) (hs : (L T).map (·.sh) = some .bool) : ∃ b, cs = [.bool b] := by
  obtain ⟨r, hr, h⟩ := h
  rw [tyP_sh hr hs] at h; exact h
theorem tyP_str (h : tyP L (n + 1) T cs) (hs : (L T).map (·.sh) = some .str) : ∃ s, cs = [.str s] := by
  obtain ⟨r, hr, h⟩ := h
  rw [tyP_sh hr hs] at h; exact h
theorem tyP_sl {e : TypeId} (h : tyP L (n + 1) T cs) (hs : (L T).map (·.sh) = some (.sl e)) : ∃ rows, cs = [.sl rows] ∧ ∀ row ∈ rows, tyP L n e row := by
  obtain ⟨r, hr, h⟩ := h
  rw [tyP_sh hr hs] at h; exact h
theorem tyP_st {fs : List (Nat × TypeId)} (h : tyP L (n + 1) T cs) (hs : (L T).map (·.sh) = some (.st fs)) : ∃ parts : List (List PV), cs = parts.flatten ∧ parts.length = fs.length ∧ ∀ (i : Nat) f p, fs[i]? = some f → parts[i]? = some p → tyP L n f.2 p := by
  obtain ⟨r, hr, h⟩ := h
  rw [tyP_sh hr hs] at h; exact h
end
theorem rows_map {α : Type} {f : α → List PV} : ∀ {rows : List (List PV)}, (∀ row ∈ rows, ∃ x, row = f x) → ∃ l : List α, rows = l.map f
  | [], _ => ⟨[], rfl⟩
  | row :: rows, h => by
    obtain ⟨x, rfl⟩ := h row (by simp)
    obtain ⟨l, rfl⟩ := rows_map (rows := rows) fun r hr => h r (by simp [hr])
    exact ⟨x :: l, rfl⟩

theorem dec_mode {cs : List PV} (h : tyP lay.get 2 126 cs) : ∃ m, cs = eMode m := by
  obtain ⟨parts, rfl, hl, hp⟩ := tyP_st h rfl
  match parts, hl, hp with
  | [p0, p1], _, hp =>
    obtain ⟨a, rfl⟩ := tyP_int (hp 0 _ p0 rfl rfl) rfl
    obtain ⟨b, rfl⟩ := tyP_int (hp 1 _ p1 rfl rfl) rfl
    exact ⟨⟨a, b⟩, rfl⟩
theorem dec_texts {n : Nat} {cs : List PV} (h : tyP lay.get (n + 2) 44 cs) : ∃ l : List Str, cs = [.sl (l.map eS)] := by
  obtain ⟨rows, rfl, hr⟩ := tyP_sl h rfl
  obtain ⟨l, rfl⟩ := rows_map (f := eS) fun row hrow => by
    obtain ⟨s, rfl⟩ := tyP_str (hr row hrow) rfl
    exact ⟨s, rfl⟩
  exact ⟨l, rfl⟩
theorem dec_item {cs : List PV} (h : tyP lay.get 4 57 cs) : ∃ x, cs = eItem x := by
  obtain ⟨parts, rfl, hl, hp⟩ := tyP_st h rfl
  match parts, hl, hp with
  | [p0, p1, p2, p3, p4, p5, p6], _, hp =>
    obtain ⟨a, rfl⟩ := tyP_str (hp 0 _ p0 rfl rfl) rfl
    obtain ⟨b, rfl⟩ := tyP_str (hp 1 _ p1 rfl rfl) rfl
    obtain ⟨rows, rfl, hr⟩ := tyP_sl (hp 2 _ p2 rfl rfl) rfl
    obtain ⟨ms, rfl⟩ := rows_map (f := eMode) fun row hrow => dec_mode (hr row hrow)
    obtain ⟨d, rfl⟩ := tyP_str (hp 3 _ p3 rfl rfl) rfl
    obtain ⟨e, rfl⟩ := tyP_int (hp 4 _ p4 rfl rfl) rfl
    obtain ⟨f, rfl⟩ := tyP_bool (hp 5 _ p5 rfl rfl) rfl
    obtain ⟨g, rfl⟩ := dec_texts (hp 6 _ p6 rfl rfl)
    exact ⟨⟨a, b, ms, d, e, f, g⟩, rfl⟩
theorem dec_trade {cs : List PV} (h : tyP lay.get 4 86 cs) : ∃ x, cs = eTrade x := by
  obtain ⟨parts, rfl, hl, hp⟩ := tyP_st h rfl
  match parts, hl, hp with
  | [p0, p1, p2], _, hp =>
    obtain ⟨a, rfl⟩ := tyP_str (hp 0 _ p0 rfl rfl) rfl
    obtain ⟨b, rfl⟩ := tyP_int (hp 1 _ p1 rfl rfl) rfl
    obtain ⟨c, rfl⟩ := tyP_int (hp 2 _ p2 rfl rfl) rfl
    exact ⟨⟨a, b, c⟩, rfl⟩
theorem dec_space {cs : List PV} (h : tyP lay.get 4 88 cs) : ∃ x, cs = eSpace x := by
  obtain ⟨parts, rfl, hl, hp⟩ := tyP_st h rfl
  match parts, hl, hp with
  | [p0, p1, p2], _, hp =>
    obtain ⟨a, rfl⟩ := tyP_str (hp 0 _ p0 rfl rfl) rfl
    obtain ⟨b, rfl⟩ := tyP_bool (hp 1 _ p1 rfl rfl) rfl
    obtain ⟨c, rfl⟩ := dec_texts (hp 2 _ p2 rfl rfl)
    exact ⟨⟨a, b, c⟩, rfl⟩
theorem dec_excl {cs : List PV} (h : tyP lay.get 4 117 cs) : ∃ x, cs = eExcl x := by
  obtain ⟨parts, rfl, hl, hp⟩ := tyP_st h rfl
  match parts, hl, hp with
  | [p0, p1, p2], _, hp =>
    obtain ⟨a, rfl⟩ := tyP_int (hp 0 _ p0 rfl rfl) rfl
    obtain ⟨b, rfl⟩ := tyP_int (hp 1 _ p1 rfl rfl) rfl
    obtain ⟨c, rfl⟩ := tyP_int (hp 2 _ p2 rfl rfl) rfl
    exact ⟨⟨a, b, c⟩, rfl⟩
theorem dec_out {cs : List PV} (h : tyP lay.get 4 130 cs) : ∃ x, cs = eOut x := by
  obtain ⟨parts, rfl, hl, hp⟩ := tyP_st h rfl
  match parts, hl, hp with
  | [p0, p1], _, hp =>
    obtain ⟨a, rfl⟩ := tyP_int (hp 0 _ p0 rfl rfl) rfl
    obtain ⟨b, rfl⟩ := tyP_int (hp 1 _ p1 rfl rfl) rfl
    exact ⟨⟨a, b⟩, rfl⟩
theorem dec_work {c : PV} (h : argP lay.get 28 c) : ∃ w, c = .agg (eWork w) := by
  obtain ⟨cs, rfl, h⟩ : ∃ cs, c = .agg cs ∧ tyP lay.get 6 28 cs := h
  obtain ⟨parts, rfl, hl, hp⟩ := tyP_st h rfl
  match parts, hl, hp with
  | [p0, p1, p2, p3, p4, p5, p6, p7, p8], _, hp =>
    obtain ⟨r0, rfl, h0⟩ := tyP_sl (hp 0 _ p0 rfl rfl) rfl
    obtain ⟨l0, rfl⟩ := rows_map (f := eItem) fun row hrow => dec_item (h0 row hrow)
    obtain ⟨r1, rfl, h1⟩ := tyP_sl (hp 1 _ p1 rfl rfl) rfl
    obtain ⟨l1, rfl⟩ := rows_map (f := eTrade) fun row hrow => dec_trade (h1 row hrow)
    obtain ⟨r2, rfl, h2⟩ := tyP_sl (hp 2 _ p2 rfl rfl) rfl
    obtain ⟨l2, rfl⟩ := rows_map (f := eSpace) fun row hrow => dec_space (h2 row hrow)
    obtain ⟨r3, rfl, h3⟩ := tyP_sl (hp 3 _ p3 rfl rfl) rfl
    obtain ⟨l3, rfl⟩ := rows_map (f := eExcl) fun row hrow => dec_excl (h3 row hrow)
    obtain ⟨r4, rfl, h4⟩ := tyP_sl (hp 4 _ p4 rfl rfl) rfl
    obtain ⟨l4, rfl⟩ := rows_map (f := eOut) fun row hrow => dec_out (h4 row hrow)
    obtain ⟨a, rfl⟩ := tyP_int (hp 5 _ p5 rfl rfl) rfl
    obtain ⟨b, rfl⟩ := tyP_int (hp 6 _ p6 rfl rfl) rfl
    obtain ⟨c, rfl⟩ := tyP_int (hp 7 _ p7 rfl rfl) rfl
    obtain ⟨d, rfl⟩ := tyP_int (hp 8 _ p8 rfl rfl) rfl
    exact ⟨⟨l0, l1, l2, l3, l4, a, b, c, d⟩, rfl⟩

/-! ### Names in an order -/
theorem nameAt_ret (w : SWork) {i : Nat} {x : SItem} (hx : w.items[i]? = some x) : Ret Try.prog .shared 59 [I i, .dref (eWork w) 0] (.str x.name) := by
  refine Ret.of_pwp layOk mixed Go.Proofs.Try.func59 rfl (by decide) rfl rfl ?_
  repeat (first|refine pq_end rfl ?_|(refine zs rfl ?_ ?_;·repeat' constructor)|(refine zq rfl ?_ ?_;·repeat' constructor)|refine zw rfl ?_|refine zx rfl ?_|refine zb rfl ?_)
  (first|refine zsq rfl (q_idxm rfl rfl rfl rfl rfl (by omega) hx rfl) ?_|refine zqq rfl (q_idxm rfl rfl rfl rfl rfl (by omega) hx rfl) ?_)
  repeat (first|refine pq_end rfl ?_|(refine zs rfl ?_ ?_;·repeat' constructor)|(refine zq rfl ?_ ?_;·repeat' constructor)|refine zw rfl ?_|refine zx rfl ?_|refine zb rfl ?_)
  exact end1 rfl rfl rfl trivial rfl
theorem namesN_ret (w : SWork) (l : List Int) (hl : InW w l) (hw : l.length ≤ 1000000) : Ret Try.prog .fresh 57 [.sl (l.map eI), .clo 59 [.dref (eWork w) 0]] (.sl ((l.map (nameAt w)).map eS)) := by
  have hrows : ∀ (k : Nat) x, l[k]? = some x → ((l.take (k + 1)).map (nameAt w)).map eS = ((l.take k).map (nameAt w)).map eS ++ [eS (nameAt w x)] := fun k x hx => by rw [take_snoc hx, List.map_append, List.map_append]; rfl
  refine Ret.of_pwp layOk mixed Go.Proofs.Try.func57 rfl (by decide) rfl rfl ?_
  ((repeat (first | refine ps_nil ?_ | refine pq_nil ?_ | refine x_norm ?_ | refine pw_seq ?_)); refine pw_region ?_)
  refine ps_v rfl trivial ?_
  ((repeat (first | refine ps_nil ?_ | refine pq_nil ?_ | refine x_norm ?_ | refine pw_seq ?_)); refine pw_region ?_)
  (first | refine ps_run (o_nilm 9 1 0 rfl rfl ?_) | refine ps_run (o_nila 9 1 0 rfl rfl ?_))
  repeat (first|refine pq_end rfl ?_|(refine zs rfl ?_ ?_;·repeat' constructor)|(refine zq rfl ?_ ?_;·repeat' constructor)|refine zw rfl ?_|refine zx rfl ?_|refine zb rfl ?_)
  refine pw_loop (fun k => k ≤ l.length) (fun k => [(1, .clo 59 [.dref (eWork w) 0]), (5, .als 5 (k + 1) 0 (((l.take k).map (nameAt w)).map eS).length), (8, .sl (l.map eI)), (9, I l.length), (10, I k)]) (fun k => [(5, k + 1, ⟨9, 1, ((l.take k).map (nameAt w)).map eS, 0⟩)]) (fun k => l.length - k) 0 (Nat.zero_le _) ⟨rfl, rfl, rfl, ?_, rfl, rfl, trivial⟩ ?_
  · show I ((l.map eI).length) = _
    simp
  intro k s hk
  repeat (first|refine pq_end rfl ?_|(refine zs rfl ?_ ?_;·repeat' constructor)|(refine zq rfl ?_ ?_;·repeat' constructor)|refine zw rfl ?_|refine zx rfl ?_|refine zb rfl ?_)
  refine pw_cond rfl (fun h => ?_) (fun h => ?_)
  · have hlt : k < l.length := by simpa using h
    obtain ⟨y, hy⟩ := get_lt hlt
    clear h
    obtain ⟨i, x, rfl, hx⟩ := hl y (List.mem_of_getElem? hy)
    have hnx : nameAt w i = x.name := nameAt_at hx
    repeat (first|refine pq_end rfl ?_|(refine zs rfl ?_ ?_;·repeat' constructor)|(refine zq rfl ?_ ?_;·repeat' constructor)|refine zw rfl ?_|refine zx rfl ?_|refine zb rfl ?_)
    (first|refine zsq rfl (q_idxm rfl rfl rfl rfl rfl (by omega) hy rfl) ?_|refine zqq rfl (q_idxm rfl rfl rfl rfl rfl (by omega) hy rfl) ?_)
    repeat (first|refine pq_end rfl ?_|(refine zs rfl ?_ ?_;·repeat' constructor)|(refine zq rfl ?_ ?_;·repeat' constructor)|refine zw rfl ?_|refine zx rfl ?_|refine zb rfl ?_)
    (first|refine zsq rfl (q_callP rfl (nameAt_ret w hx) rfl (by repeat' constructor) rfl rfl) ?_|refine zqq rfl (q_callP rfl (nameAt_ret w hx) rfl (by repeat' constructor) rfl rfl) ?_)
    repeat (first|refine pq_end rfl ?_|(refine zs rfl ?_ ?_;·repeat' constructor)|(refine zq rfl ?_ ?_;·repeat' constructor)|refine zw rfl ?_|refine zx rfl ?_|refine zb rfl ?_)
    refine ps_run (o_slit 0 rfl rfl rfl rfl rfl rfl rfl rfl rfl rfl rfl (by repeat' constructor) rfl ?_)
    repeat (first|refine pq_end rfl ?_|(refine zs rfl ?_ ?_;·repeat' constructor)|(refine zq rfl ?_ ?_;·repeat' constructor)|refine zw rfl ?_|refine zx rfl ?_|refine zb rfl ?_)
    refine ps_run (o_app 0 rfl rfl rfl rfl rfl rfl rfl rfl rfl rfl rfl (by repeat' constructor) (by intro row hr; first | (simp at hr; subst hr; rfl) | simp at hr) rfl rfl (by simp; omega) (by simp; omega) ?_)
    repeat (first|refine pq_end rfl ?_|(refine zs rfl ?_ ?_;·repeat' constructor)|(refine zq rfl ?_ ?_;·repeat' constructor)|refine zw rfl ?_|refine zx rfl ?_|refine zb rfl ?_)
    refine ⟨k + 1, hlt, by omega, rfl, ?_, rfl, rfl, ?_, ?_, trivial⟩
    · rw [hrows k _ hy, hnx]; rfl
    · exact i64_next (by omega) (by omega)
    · rw [hrows k _ hy, hnx]; rfl
  · have hge : k = l.length := by have := of_decide_eq_false h; omega
    repeat (first|refine pq_end rfl ?_|(refine zs rfl ?_ ?_;·repeat' constructor)|(refine zq rfl ?_ ?_;·repeat' constructor)|refine zw rfl ?_|refine zx rfl ?_|refine zb rfl ?_)
    exact end1f rfl rfl rfl ⟨rfl, rfl, rfl⟩ (by rw [hge, List.take_length])
theorem ord_len (f : Nat) (b : List (List Int)) (out : List Int) : (orderF f b out).length ≤ out.length + f := by
  induction f generalizing out with
  | zero => simp [orderF]
  | succ f ih =>
    unfold orderF
    split
    · omega
    · have := ih (out ++ [nextO b out])
      simp at this
      omega
theorem ordS_len (w : SWork) : (ordS w).length ≤ w.items.length := by
  have := ord_len (bef w).length (bef w) []
  simpa [ordS, bef] using this
def orderR (w : SWork) : PV := if workE w = 0 then .tup [.sl (((ordS w).map (nameAt w)).map eS), I 0] else .tup [.nil, I (workE w)]
theorem order_ret (w : SWork) (hw : Sane w) : Ret Try.prog .shared 19 [.agg (eWork w)] (orderR w) := by
  have h1 := hw.items
  have hol := ordS_len w
  refine Ret.of_pwp layOk mixed Go.Proofs.Try.func19 rfl (by decide) rfl rfl ?_
  repeat (first|refine pq_end rfl ?_|(refine zs rfl ?_ ?_;·repeat' constructor)|(refine zq rfl ?_ ?_;·repeat' constructor)|refine zw rfl ?_|refine zx rfl ?_|refine zb rfl ?_)
  (first|refine zsq rfl (q_callP rfl (checkWork_ret w hw) rfl (by repeat' constructor) rfl rfl) ?_|refine zqq rfl (q_callP rfl (checkWork_ret w hw) rfl (by repeat' constructor) rfl rfl) ?_)
  repeat (first|refine pq_end rfl ?_|(refine zs rfl ?_ ?_;·repeat' constructor)|(refine zq rfl ?_ ?_;·repeat' constructor)|refine zw rfl ?_|refine zx rfl ?_|refine zb rfl ?_)
  refine pw_cond rfl (fun h => ?_) (fun h => ?_)
  · have hne : ¬ workE w = 0 := by simpa using h
    repeat (first|refine pq_end rfl ?_|(refine zs rfl ?_ ?_;·repeat' constructor)|(refine zq rfl ?_ ?_;·repeat' constructor)|refine zw rfl ?_|refine zx rfl ?_|refine zb rfl ?_)
    exact end2 rfl rfl rfl rfl rfl trivial trivial (by rw [orderR, if_neg hne])
  have hz : workE w = 0 := by simpa using h
  have hin := (refOrd_eq (good_of (workE_items hz))).2
  clear h
  repeat (first|refine pq_end rfl ?_|(refine zs rfl ?_ ?_;·repeat' constructor)|(refine zq rfl ?_ ?_;·repeat' constructor)|refine zw rfl ?_|refine zx rfl ?_|refine zb rfl ?_)
  (first|refine zsq rfl (q_call rfl (ordered_ret w h1 hw.after) rfl (by repeat' constructor) rfl) ?_|refine zqq rfl (q_call rfl (ordered_ret w h1 hw.after) rfl (by repeat' constructor) rfl) ?_)
  repeat (first|refine pq_end rfl ?_|(refine zs rfl ?_ ?_;·repeat' constructor)|(refine zq rfl ?_ ?_;·repeat' constructor)|refine zw rfl ?_|refine zx rfl ?_|refine zb rfl ?_)
  (first|refine zsq rfl (q_callF rfl (namesN_ret w (ordS w) hin (by omega)) rfl (by repeat' constructor) rfl) ?_|refine zqq rfl (q_callF rfl (namesN_ret w (ordS w) hin (by omega)) rfl (by repeat' constructor) rfl) ?_)
  repeat (first|refine pq_end rfl ?_|(refine zs rfl ?_ ?_;·repeat' constructor)|(refine zq rfl ?_ ?_;·repeat' constructor)|refine zw rfl ?_|refine zx rfl ?_|refine zb rfl ?_)
  exact end2 rfl rfl rfl rfl rfl trivial trivial (by rw [orderR, if_pos hz])

/-! ### Two lists of texts -/
theorem texts2_ret (a b : List Str) (hw : a.length ≤ 1000000) : Ret Try.prog .shared 21 [.sl (a.map eS), .sl (b.map eS)] (.bool (decide (a = b))) := by
  refine Ret.of_pwp layOk mixed Go.Proofs.Try.func21 rfl (by decide) rfl rfl ?_
  repeat (first|refine pq_end rfl ?_|(refine zs rfl ?_ ?_;·repeat' constructor)|(refine zq rfl ?_ ?_;·repeat' constructor)|refine zw rfl ?_|refine zx rfl ?_|refine zb rfl ?_)
  refine pw_cond rfl (fun h => ?_) (fun h => ?_)
  · have hne : ¬ a = b := by rintro rfl; simp at h
    repeat (first|refine pq_end rfl ?_|(refine zs rfl ?_ ?_;·repeat' constructor)|(refine zq rfl ?_ ?_;·repeat' constructor)|refine zw rfl ?_|refine zx rfl ?_|refine zb rfl ?_)
    exact end1b rfl rfl (by rw [decide_eq_false hne])
  have hlen : a.length = b.length := by simp at h; omega
  clear h
  repeat (first|refine pq_end rfl ?_|(refine zs rfl ?_ ?_;·repeat' constructor)|(refine zq rfl ?_ ?_;·repeat' constructor)|refine zw rfl ?_|refine zx rfl ?_|refine zb rfl ?_)
  refine pw_loop (fun k => k ≤ a.length ∧ a.take k = b.take k) (fun k => [(0, .sl (a.map eS)), (1, .sl (b.map eS)), (5, I k)]) (fun _ => []) (fun k => a.length - k) 0 ⟨Nat.zero_le _, rfl⟩ ⟨rfl, rfl, rfl, trivial⟩ ?_
  rintro k s ⟨hk, hab⟩
  repeat (first|refine pq_end rfl ?_|(refine zs rfl ?_ ?_;·repeat' constructor)|(refine zq rfl ?_ ?_;·repeat' constructor)|refine zw rfl ?_|refine zx rfl ?_|refine zb rfl ?_)
  refine pw_cond rfl (fun h => ?_) (fun h => ?_)
  · have hlt : k < a.length := by simpa using h
    obtain ⟨x, hx⟩ := get_lt hlt
    obtain ⟨y, hy⟩ := get_lt (show k < b.length by omega)
    clear h
    repeat (first|refine pq_end rfl ?_|(refine zs rfl ?_ ?_;·repeat' constructor)|(refine zq rfl ?_ ?_;·repeat' constructor)|refine zw rfl ?_|refine zx rfl ?_|refine zb rfl ?_)
    refine pw_draw 9 [17, 18, 19, 20, 21, 22, 23, 24, 25] (by decide +kernel) ?_
    repeat (first|refine pq_end rfl ?_|(refine zs rfl ?_ ?_;·repeat' constructor)|(refine zq rfl ?_ ?_;·repeat' constructor)|refine zw rfl ?_|refine zx rfl ?_|refine zb rfl ?_)
    (first|refine zsq rfl (q_idxm rfl rfl rfl rfl rfl (by omega) hx rfl) ?_|refine zqq rfl (q_idxm rfl rfl rfl rfl rfl (by omega) hx rfl) ?_)
    repeat (first|refine pq_end rfl ?_|(refine zs rfl ?_ ?_;·repeat' constructor)|(refine zq rfl ?_ ?_;·repeat' constructor)|refine zw rfl ?_|refine zx rfl ?_|refine zb rfl ?_)
    (first|refine zsq rfl (q_idxm rfl rfl rfl rfl rfl (by omega) hy rfl) ?_|refine zqq rfl (q_idxm rfl rfl rfl rfl rfl (by omega) hy rfl) ?_)
    repeat (first|refine pq_end rfl ?_|(refine zs rfl ?_ ?_;·repeat' constructor)|(refine zq rfl ?_ ?_;·repeat' constructor)|refine zw rfl ?_|refine zx rfl ?_|refine zb rfl ?_)
    refine pw_cond rfl (fun h => ?_) (fun h => ?_)
    · have hne : ¬ a = b := by rintro rfl; rw [hx] at hy; cases hy; simp at h
      repeat (first|refine pq_end rfl ?_|(refine zs rfl ?_ ?_;·repeat' constructor)|(refine zq rfl ?_ ?_;·repeat' constructor)|refine zw rfl ?_|refine zx rfl ?_|refine zb rfl ?_)
      exact end1b rfl rfl (by rw [decide_eq_false hne])
    · have he : x = y := by simpa using h
      subst he
      repeat (first|refine pq_end rfl ?_|(refine zs rfl ?_ ?_;·repeat' constructor)|(refine zq rfl ?_ ?_;·repeat' constructor)|refine zw rfl ?_|refine zx rfl ?_|refine zb rfl ?_)
      refine ⟨k + 1, ⟨hlt, by rw [take_snoc hx, take_snoc hy, hab]⟩, by omega, rfl, rfl, ?_, trivial⟩
      exact i64_next (by omega) (by omega)
  · have hge : k = a.length := by simp at h; omega
    have he : a = b := by
      rw [hge, List.take_length, hlen, List.take_length] at hab
      exact hab
    repeat (first|refine pq_end rfl ?_|(refine zs rfl ?_ ?_;·repeat' constructor)|(refine zq rfl ?_ ?_;·repeat' constructor)|refine zw rfl ?_|refine zx rfl ?_|refine zb rfl ?_)
    exact end1b rfl rfl (by rw [decide_eq_true he])
end Go.Pv

/- The reference's least days; two lists of numbers. -/
set_option maxHeartbeats 2000000
namespace Go.Pv
attribute [local irreducible] PWP POps PQuiet PSem XThen XBlock RetPost InlPost
open Go.Proofs

theorem leastF_first (x : SItem) {m : SMode} (h : x.modes[0]? = some m) : (x.modes.take 1).foldl leastF (modeAt x 0).days = (modeAt x 0).days := by
  have : modeAt x 0 = m := by rw [modeAt]; show (x.modes[0]?).getD _ = m; rw [h]; rfl
  rw [take_snoc h, this]
  show leastF m.days m = m.days
  unfold leastF imin
  split <;> rfl
theorem least_ref (x : SItem) (h1 : 1 ≤ x.modes.length) (h2 : x.modes.length ≤ 100000) : Ret Try.prog .shared 40 [.agg (eItem x)] (I (leastP x)) := by
  have hm0 : x.modes[0]? = some (modeAt x 0) := by rw [modeAt]; show _ = some ((x.modes[0]?).getD _); rw [List.getElem?_eq_getElem (by omega)]; rfl
  have hml : (x.modes.map eMode).length = x.modes.length := by simp
  refine Ret.of_pwp layOk mixed Go.Proofs.Try.func40 rfl (by decide) rfl rfl ?_
  repeat (first|refine pq_end rfl ?_|(refine zs rfl ?_ ?_;·repeat' constructor)|(refine zq rfl ?_ ?_;·repeat' constructor)|refine zw rfl ?_|refine zx rfl ?_|refine zb rfl ?_)
  (first|refine zsq rfl (q_idxm (n := (((0:Nat):Int) : Int)) rfl rfl rfl rfl rfl (by omega) hm0 rfl) ?_|refine zqq rfl (q_idxm (n := (((0:Nat):Int) : Int)) rfl rfl rfl rfl rfl (by omega) hm0 rfl) ?_)
  repeat (first|refine pq_end rfl ?_|(refine zs rfl ?_ ?_;·repeat' constructor)|(refine zq rfl ?_ ?_;·repeat' constructor)|refine zw rfl ?_|refine zx rfl ?_|refine zb rfl ?_)
  refine pw_loop (fun k => 1 ≤ k ∧ k ≤ x.modes.length) (fun k => [(1, .ptr 1 1 0 0), (3, I ((x.modes.take k).foldl leastF (modeAt x 0).days)), (4, I k)]) (fun _ => [(1, 1, ⟨57, 7, [eItem x], 2⟩)]) (fun k => x.modes.length - k) 1 ⟨Nat.le_refl _, h1⟩ ⟨rfl, ?_, rfl, rfl, trivial⟩ ?_
  · rw [leastF_first x hm0]; rfl
  rintro k s ⟨hk1, hk⟩
  repeat (first|refine pq_end rfl ?_|(refine zs rfl ?_ ?_;·repeat' constructor)|(refine zq rfl ?_ ?_;·repeat' constructor)|refine zw rfl ?_|refine zx rfl ?_|refine zb rfl ?_)
  refine pw_cond rfl (fun h => ?_) (fun h => ?_)
  · have hlt : k < x.modes.length := by have := of_decide_eq_true h; omega
    obtain ⟨m, hmk⟩ := get_lt hlt
    clear h
    repeat (first|refine pq_end rfl ?_|(refine zs rfl ?_ ?_;·repeat' constructor)|(refine zq rfl ?_ ?_;·repeat' constructor)|refine zw rfl ?_|refine zx rfl ?_|refine zb rfl ?_)
    (first|refine zsq rfl (q_idxm rfl rfl rfl rfl rfl (by omega) hmk rfl) ?_|refine zqq rfl (q_idxm rfl rfl rfl rfl rfl (by omega) hmk rfl) ?_)
    repeat (first|refine pq_end rfl ?_|(refine zs rfl ?_ ?_;·repeat' constructor)|(refine zq rfl ?_ ?_;·repeat' constructor)|refine zw rfl ?_|refine zx rfl ?_|refine zb rfl ?_)
    refine ⟨k + 1, ⟨by omega, hlt⟩, by omega, rfl, ?_, i64_next (by omega) (by omega), rfl, trivial⟩
    rw [take_snoc hmk, List.foldl_append]; rfl
  · have hge : k = x.modes.length := by have := of_decide_eq_false h; omega
    subst hge
    rw [List.take_length]
    repeat (first|refine pq_end rfl ?_|(refine zs rfl ?_ ?_;·repeat' constructor)|(refine zq rfl ?_ ?_;·repeat' constructor)|refine zw rfl ?_|refine zx rfl ?_|refine zb rfl ?_)
    exact end1i rfl rfl rfl
theorem ints2_ret (a b : List Int) (hw : a.length ≤ 1000000) : Ret Try.prog .shared 37 [.sl (a.map eI), .sl (b.map eI)] (.bool (decide (a = b))) := by
  refine Ret.of_pwp layOk mixed Go.Proofs.Try.func37 rfl (by decide) rfl rfl ?_
  repeat (first|refine pq_end rfl ?_|(refine zs rfl ?_ ?_;·repeat' constructor)|(refine zq rfl ?_ ?_;·repeat' constructor)|refine zw rfl ?_|refine zx rfl ?_|refine zb rfl ?_)
  refine pw_cond rfl (fun h => ?_) (fun h => ?_)
  · have hne : ¬ a = b := by rintro rfl; simp at h
    repeat (first|refine pq_end rfl ?_|(refine zs rfl ?_ ?_;·repeat' constructor)|(refine zq rfl ?_ ?_;·repeat' constructor)|refine zw rfl ?_|refine zx rfl ?_|refine zb rfl ?_)
    exact end1b rfl rfl (by rw [decide_eq_false hne])
  have hlen : a.length = b.length := by simp at h; omega
  clear h
  repeat (first|refine pq_end rfl ?_|(refine zs rfl ?_ ?_;·repeat' constructor)|(refine zq rfl ?_ ?_;·repeat' constructor)|refine zw rfl ?_|refine zx rfl ?_|refine zb rfl ?_)
  refine pw_loop (fun k => k ≤ a.length ∧ a.take k = b.take k) (fun k => [(0, .sl (a.map eI)), (1, .sl (b.map eI)), (5, I k)]) (fun _ => []) (fun k => a.length - k) 0 ⟨Nat.zero_le _, rfl⟩ ⟨rfl, rfl, rfl, trivial⟩ ?_
  rintro k s ⟨hk, hab⟩
  repeat (first|refine pq_end rfl ?_|(refine zs rfl ?_ ?_;·repeat' constructor)|(refine zq rfl ?_ ?_;·repeat' constructor)|refine zw rfl ?_|refine zx rfl ?_|refine zb rfl ?_)
  refine pw_cond rfl (fun h => ?_) (fun h => ?_)
  · have hlt : k < a.length := by simpa using h
    obtain ⟨x, hx⟩ := get_lt hlt
    obtain ⟨y, hy⟩ := get_lt (show k < b.length by omega)
    clear h
    repeat (first|refine pq_end rfl ?_|(refine zs rfl ?_ ?_;·repeat' constructor)|(refine zq rfl ?_ ?_;·repeat' constructor)|refine zw rfl ?_|refine zx rfl ?_|refine zb rfl ?_)
    refine pw_draw 9 [17, 18, 19, 20, 21, 22, 23, 24, 25] (by decide +kernel) ?_
    repeat (first|refine pq_end rfl ?_|(refine zs rfl ?_ ?_;·repeat' constructor)|(refine zq rfl ?_ ?_;·repeat' constructor)|refine zw rfl ?_|refine zx rfl ?_|refine zb rfl ?_)
    (first|refine zsq rfl (q_idxm rfl rfl rfl rfl rfl (by omega) hx rfl) ?_|refine zqq rfl (q_idxm rfl rfl rfl rfl rfl (by omega) hx rfl) ?_)
    repeat (first|refine pq_end rfl ?_|(refine zs rfl ?_ ?_;·repeat' constructor)|(refine zq rfl ?_ ?_;·repeat' constructor)|refine zw rfl ?_|refine zx rfl ?_|refine zb rfl ?_)
    (first|refine zsq rfl (q_idxm rfl rfl rfl rfl rfl (by omega) hy rfl) ?_|refine zqq rfl (q_idxm rfl rfl rfl rfl rfl (by omega) hy rfl) ?_)
    repeat (first|refine pq_end rfl ?_|(refine zs rfl ?_ ?_;·repeat' constructor)|(refine zq rfl ?_ ?_;·repeat' constructor)|refine zw rfl ?_|refine zx rfl ?_|refine zb rfl ?_)
    refine pw_cond rfl (fun h => ?_) (fun h => ?_)
    · have hne : ¬ a = b := by rintro rfl; rw [hx] at hy; cases hy; simp at h
      repeat (first|refine pq_end rfl ?_|(refine zs rfl ?_ ?_;·repeat' constructor)|(refine zq rfl ?_ ?_;·repeat' constructor)|refine zw rfl ?_|refine zx rfl ?_|refine zb rfl ?_)
      exact end1b rfl rfl (by rw [decide_eq_false hne])
    · have he : x = y := by simpa using h
      subst he
      repeat (first|refine pq_end rfl ?_|(refine zs rfl ?_ ?_;·repeat' constructor)|(refine zq rfl ?_ ?_;·repeat' constructor)|refine zw rfl ?_|refine zx rfl ?_|refine zb rfl ?_)
      refine ⟨k + 1, ⟨hlt, by rw [take_snoc hx, take_snoc hy, hab]⟩, by omega, rfl, rfl, ?_, trivial⟩
      exact i64_next (by omega) (by omega)
  · have hge : k = a.length := by simp at h; omega
    have he : a = b := by
      rw [hge, List.take_length, hlen, List.take_length] at hab
      exact hab
    repeat (first|refine pq_end rfl ?_|(refine zs rfl ?_ ?_;·repeat' constructor)|(refine zq rfl ?_ ?_;·repeat' constructor)|refine zw rfl ?_|refine zx rfl ?_|refine zb rfl ?_)
    exact end1b rfl rfl (by rw [decide_eq_true he])
end Go.Pv

/- Exclusions: the reference's, and the program's over names. -/
set_option maxHeartbeats 2000000
namespace Go.Pv
attribute [local irreducible] PWP POps PQuiet PSem XThen XBlock RetPost InlPost
open Go.Proofs

theorem space_uniq {w : SWork} (h : workE w = 0) (i : Nat) (x : SSpace) (hx : w.spaces[i]? = some x) : idx w.spaces (·.name == x.name) = i := by
  unfold workE at h
  obtain ⟨_, h⟩ := ite_self_zero h
  obtain ⟨h2, _⟩ := ite_self_zero h
  unfold roomE at h2
  obtain ⟨r1, _⟩ := ite_self_zero h2
  unfold spacesE at r1
  obtain ⟨_, r1⟩ := ite_zero' r1 (by omega)
  have := fstE_zero r1 i x hx
  obtain ⟨_, g2⟩ := ite_zero this (by omega)
  exact (ite_zero g2 (by omega)).1
theorem idx_get {α : Type} {l : List α} {p : α → Bool} (h : l.any p = true) : 0 ≤ idx l p ∧ ∃ x, l[(idx l p).toNat]? = some x ∧ p x = true := by
  obtain ⟨x, hx, hp⟩ := List.any_eq_true.1 h
  unfold idx
  cases hf : l.findIdx? p with
  | none => rw [List.findIdx?_eq_none_iff] at hf; simp [hf x hx] at hp
  | some i =>
    rw [List.findIdx?_eq_some_iff_getElem] at hf
    obtain ⟨hi, h1, _⟩ := hf
    exact ⟨Int.natCast_nonneg _, l[i], by simp [hi], h1⟩
/-- The space of that name. -/
structure SpaceAt (w : SWork) (a : Str) (s : SSpace) : Prop where
  nonneg : 0 ≤ idx w.spaces (·.name == a)
  at' : w.spaces[(idx w.spaces (·.name == a)).toNat]? = some s
  name : s.name = a
theorem spaceAt_of {w : SWork} {a : Str} (h : noSpace w a = false) : ∃ s, SpaceAt w a s := by
  unfold noSpace at h
  have h2 : w.spaces.any (fun s => s.name == a) = true := by
    rw [List.any_map] at h
    simpa [Function.comp_def] using h
  obtain ⟨h0, s, h1, h3⟩ := idx_get h2
  exact ⟨s, h0, h1, by simpa using h3⟩
/-- Near, as the reference says it, is near, as the program does. -/
theorem nearS_any {w : SWork} (hz : workE w = 0) {a b : Str} {sa sb : SSpace} (ha : SpaceAt w a sa) (hb : SpaceAt w b sb) : w.spaces.any (nearS a b) = (sa.next.any (· == b) || sb.next.any (· == a)) := by
  have uniq : ∀ (c : Str) (sc : SSpace), SpaceAt w c sc → ∀ s ∈ w.spaces, s.name = c → s = sc := fun c sc hc s hs hn => by
    obtain ⟨i, hi, rfl⟩ := List.getElem_of_mem hs
    have h1 := space_uniq hz i _ (List.getElem?_eq_getElem hi)
    rw [hn] at h1
    have h2 := hc.at'
    rw [h1, Int.toNat_natCast, List.getElem?_eq_getElem hi] at h2
    exact Option.some.inj h2
  rw [Bool.eq_iff_iff, List.any_eq_true]
  constructor
  · rintro ⟨s, hs, h⟩
    unfold nearS at h
    rw [Bool.or_eq_true, Bool.and_eq_true, Bool.and_eq_true, decide_eq_true_eq, decide_eq_true_eq] at h
    rw [Bool.or_eq_true]
    rcases h with ⟨h1, h2⟩ | ⟨h1, h2⟩
    · rw [uniq a sa ha s hs h1] at h2; exact .inl h2
    · rw [uniq b sb hb s hs h1] at h2; exact .inr h2
  · intro h
    rw [Bool.or_eq_true] at h
    rcases h with h | h
    · exact ⟨sa, List.mem_of_getElem? ha.at', by simp only [nearS]; rw [decide_eq_true ha.name, h]; rfl⟩
    · exact ⟨sb, List.mem_of_getElem? hb.at', by simp only [nearS]; rw [decide_eq_true hb.name, h]; simp⟩

theorem near_ref (w : SWork) (hw : Sane w) (hz : workE w = 0) (hn : ∀ s ∈ w.spaces, s.next.length ≤ 100000) {a b : Str} {sa sb : SSpace} (ha : SpaceAt w a sa) (hb : SpaceAt w b sb) :
    Ret Try.prog .shared 76 [.agg (eWork w), .str a, .str b] (.bool (decide (nearP w a b ≤ 1))) := by
  have h3 := hw.spaces
  have ha0 := ha.nonneg
  have hb0 := hb.nonneg
  have hna := hn _ (List.mem_of_getElem? ha.at')
  have hnb := hn _ (List.mem_of_getElem? hb.at')
  have hnn := nearS_any hz ha hb
  refine Ret.of_pwp layOk mixed Go.Proofs.Try.func76 rfl (by decide) rfl rfl ?_
  repeat (first|refine pq_end rfl ?_|(refine zs rfl ?_ ?_;·repeat' constructor)|(refine zq rfl ?_ ?_;·repeat' constructor)|refine zw rfl ?_|refine zx rfl ?_|refine zb rfl ?_)
  refine pw_draw 28 [7, 8, 9, 10, 11, 12, 13, 14, 15, 16, 17, 18, 19, 20, 21, 22, 23, 24, 25, 26, 27, 28, 29, 30, 31, 32, 33, 6] (by decide +kernel) ?_
  repeat (first|refine pq_end rfl ?_|(refine zs rfl ?_ ?_;·repeat' constructor)|(refine zq rfl ?_ ?_;·repeat' constructor)|refine zw rfl ?_|refine zx rfl ?_|refine zb rfl ?_)
  (first | refine ps_split rfl rfl (fun h => ?_) (fun h => ?_) | refine pq_split rfl rfl (fun h => ?_) (fun h => ?_))
  · have hab := of_decide_eq_true h
    clear h
    repeat (first|refine pq_end rfl ?_|(refine zs rfl ?_ ?_;·repeat' constructor)|(refine zq rfl ?_ ?_;·repeat' constructor)|refine zw rfl ?_|refine zx rfl ?_|refine zb rfl ?_)
    exact end1b rfl rfl (by simp [nearP, hab])
  · have hab := of_decide_eq_false h
    clear h
    repeat (first|refine pq_end rfl ?_|(refine zs rfl ?_ ?_;·repeat' constructor)|(refine zq rfl ?_ ?_;·repeat' constructor)|refine zw rfl ?_|refine zx rfl ?_|refine zb rfl ?_)
    (first|refine zsq rfl (q_callP rfl (spaceOf_ret w a (by omega)) rfl (by repeat' constructor) rfl rfl) ?_|refine zqq rfl (q_callP rfl (spaceOf_ret w a (by omega)) rfl (by repeat' constructor) rfl rfl) ?_)
    repeat (first|refine pq_end rfl ?_|(refine zs rfl ?_ ?_;·repeat' constructor)|(refine zq rfl ?_ ?_;·repeat' constructor)|refine zw rfl ?_|refine zx rfl ?_|refine zb rfl ?_)
    (first|refine zsq rfl (q_idxm rfl rfl rfl rfl rfl (by omega) ha.at' rfl) ?_|refine zqq rfl (q_idxm rfl rfl rfl rfl rfl (by omega) ha.at' rfl) ?_)
    repeat (first|refine pq_end rfl ?_|(refine zs rfl ?_ ?_;·repeat' constructor)|(refine zq rfl ?_ ?_;·repeat' constructor)|refine zw rfl ?_|refine zx rfl ?_|refine zb rfl ?_)
    (first|refine zsq rfl (q_callP rfl (among_ret sa.next b (by omega)) rfl (by repeat' constructor) rfl rfl) ?_|refine zqq rfl (q_callP rfl (among_ret sa.next b (by omega)) rfl (by repeat' constructor) rfl rfl) ?_)
    repeat (first|refine pq_end rfl ?_|(refine zs rfl ?_ ?_;·repeat' constructor)|(refine zq rfl ?_ ?_;·repeat' constructor)|refine zw rfl ?_|refine zx rfl ?_|refine zb rfl ?_)
    (first | refine ps_split rfl rfl (fun h => ?_) (fun h => ?_) | refine pq_split rfl rfl (fun h => ?_) (fun h => ?_))
    · repeat (first|refine pq_end rfl ?_|(refine zs rfl ?_ ?_;·repeat' constructor)|(refine zq rfl ?_ ?_;·repeat' constructor)|refine zw rfl ?_|refine zx rfl ?_|refine zb rfl ?_)
      refine end1b rfl rfl ?_
      rw [nearP, if_neg hab, hnn, show sa.next.any (· == b) = true from h]; rfl
    · repeat (first|refine pq_end rfl ?_|(refine zs rfl ?_ ?_;·repeat' constructor)|(refine zq rfl ?_ ?_;·repeat' constructor)|refine zw rfl ?_|refine zx rfl ?_|refine zb rfl ?_)
      (first|refine zsq rfl (q_callP rfl (spaceOf_ret w b (by omega)) rfl (by repeat' constructor) rfl rfl) ?_|refine zqq rfl (q_callP rfl (spaceOf_ret w b (by omega)) rfl (by repeat' constructor) rfl rfl) ?_)
      repeat (first|refine pq_end rfl ?_|(refine zs rfl ?_ ?_;·repeat' constructor)|(refine zq rfl ?_ ?_;·repeat' constructor)|refine zw rfl ?_|refine zx rfl ?_|refine zb rfl ?_)
      (first|refine zsq rfl (q_idxm rfl rfl rfl rfl rfl (by omega) hb.at' rfl) ?_|refine zqq rfl (q_idxm rfl rfl rfl rfl rfl (by omega) hb.at' rfl) ?_)
      repeat (first|refine pq_end rfl ?_|(refine zs rfl ?_ ?_;·repeat' constructor)|(refine zq rfl ?_ ?_;·repeat' constructor)|refine zw rfl ?_|refine zx rfl ?_|refine zb rfl ?_)
      (first|refine zsq rfl (q_callP rfl (among_ret sb.next a (by omega)) rfl (by repeat' constructor) rfl rfl) ?_|refine zqq rfl (q_callP rfl (among_ret sb.next a (by omega)) rfl (by repeat' constructor) rfl rfl) ?_)
      repeat (first|refine pq_end rfl ?_|(refine zs rfl ?_ ?_;·repeat' constructor)|(refine zq rfl ?_ ?_;·repeat' constructor)|refine zw rfl ?_|refine zx rfl ?_|refine zb rfl ?_)
      refine end1b rfl rfl ?_
      rw [nearP, if_neg hab, hnn, show sa.next.any (· == b) = false from h, Bool.false_or]
      cases sb.next.any (· == a) <;> rfl
end Go.Pv

/- Which items exclude each other: the reference's answer. -/
set_option maxHeartbeats 2000000
namespace Go.Pv
attribute [local irreducible] PWP POps PQuiet PSem XThen XBlock RetPost InlPost
open Go.Proofs

theorem nearP_02 (w : SWork) (a b : Str) : (nearP w a b = 0 ∧ a = b) ∨ ((nearP w a b = 1 ∨ nearP w a b = 2) ∧ a ≠ b) := by
  unfold nearP
  split
  · exact .inl ⟨rfl, ‹_›⟩
  · split
    · exact .inr ⟨.inl rfl, ‹_›⟩
    · exact .inr ⟨.inr rfl, ‹_›⟩
set_option maxRecDepth 20000 in
theorem excl_ref (w : SWork) (hw : Sane w) (hv : Well w) (hz : workE w = 0) (x y : SItem) (hx : x ∈ w.items) (hy : y ∈ w.items) : Ret Try.prog .shared 25 [.agg (eWork w), .agg (eItem x), .agg (eItem y)] (.bool (exclP w x y)) := by
  have h4 := hw.excls
  have hml : ((w.excls.map eExcl).length : Int) = w.excls.length := by simp
  have hix := hv.item x hx
  have hiy := hv.item y hy
  refine Ret.of_pwp layOk mixed Go.Proofs.Try.func25 rfl (by decide) rfl rfl ?_
  repeat (first|refine pq_end rfl ?_|(refine zs rfl ?_ ?_;·repeat' constructor)|(refine zq rfl ?_ ?_;·repeat' constructor)|refine zw rfl ?_|refine zx rfl ?_|refine zb rfl ?_)
  (first | refine ps_split rfl rfl (fun h => ?_) (fun h => ?_) | refine pq_split rfl rfl (fun h => ?_) (fun h => ?_))
  · have h1 := of_decide_eq_true h
    clear h
    repeat (first|refine pq_end rfl ?_|(refine zs rfl ?_ ?_;·repeat' constructor)|(refine zq rfl ?_ ?_;·repeat' constructor)|refine zw rfl ?_|refine zx rfl ?_|refine zb rfl ?_)
    exact end1b rfl rfl (by simp [exclP, h1])
  have h1 := of_decide_eq_false h
  clear h
  repeat (first|refine pq_end rfl ?_|(refine zs rfl ?_ ?_;·repeat' constructor)|(refine zq rfl ?_ ?_;·repeat' constructor)|refine zw rfl ?_|refine zx rfl ?_|refine zb rfl ?_)
  (first | refine ps_split rfl rfl (fun h => ?_) (fun h => ?_) | refine pq_split rfl rfl (fun h => ?_) (fun h => ?_))
  · have h2 := of_decide_eq_true h
    clear h
    repeat (first|refine pq_end rfl ?_|(refine zs rfl ?_ ?_;·repeat' constructor)|(refine zq rfl ?_ ?_;·repeat' constructor)|refine zw rfl ?_|refine zx rfl ?_|refine zb rfl ?_)
    exact end1b rfl rfl (by simp [exclP, h2])
  have h2 := of_decide_eq_false h
  clear h
  repeat (first|refine pq_end rfl ?_|(refine zs rfl ?_ ?_;·repeat' constructor)|(refine zq rfl ?_ ?_;·repeat' constructor)|refine zw rfl ?_|refine zx rfl ?_|refine zb rfl ?_)
  refine pw_cond rfl (fun h => ?_) (fun h => ?_)
  · have h3 := of_decide_eq_true h
    clear h
    repeat (first|refine pq_end rfl ?_|(refine zs rfl ?_ ?_;·repeat' constructor)|(refine zq rfl ?_ ?_;·repeat' constructor)|refine zw rfl ?_|refine zx rfl ?_|refine zb rfl ?_)
    exact end1b rfl rfl (by simp [exclP, h3])
  have h3 := of_decide_eq_false h
  clear h
  have hP : exclP w x y = w.excls.any (exclB w x y) := by simp [exclP, h1, h2, h3]
  obtain ⟨sx, hsx⟩ := spaceAt_of (hix.space (hix.kspace (by omega)))
  obtain ⟨sy, hsy⟩ := spaceAt_of (hiy.space (hiy.kspace (by omega)))
  repeat (first|refine pq_end rfl ?_|(refine zs rfl ?_ ?_;·repeat' constructor)|(refine zq rfl ?_ ?_;·repeat' constructor)|refine zw rfl ?_|refine zx rfl ?_|refine zb rfl ?_)
  refine pw_loop (Clear w.excls (exclB w x y)) (fun k => [(3, .ptr 3 1 0 0), (4, .ptr 4 1 0 0), (5, .ptr 5 1 0 0), (7, I k)]) (fun _ => [(3, 1, ⟨28, 9, [eWork w], 2⟩), (4, 1, ⟨57, 7, [eItem x], 2⟩), (5, 1, ⟨57, 7, [eItem y], 2⟩)])
    (fun k => w.excls.length - k) 0 .zero ⟨rfl, rfl, rfl, rfl, rfl, rfl, rfl, trivial⟩ ?_
  intro k s hk
  repeat (first|refine pq_end rfl ?_|(refine zs rfl ?_ ?_;·repeat' constructor)|(refine zq rfl ?_ ?_;·repeat' constructor)|refine zw rfl ?_|refine zx rfl ?_|refine zb rfl ?_)
  refine pw_cond rfl (fun h => ?_) (fun h => ?_)
  · have hlt : k < w.excls.length := by simpa using h
    obtain ⟨e, he⟩ := get_lt hlt
    clear h
    have heo := hv.excl e (List.mem_of_getElem? he)
    have hnp := nearP_02 w x.space y.space
    repeat (first|refine pq_end rfl ?_|(refine zs rfl ?_ ?_;·repeat' constructor)|(refine zq rfl ?_ ?_;·repeat' constructor)|refine zw rfl ?_|refine zx rfl ?_|refine zb rfl ?_)
    (first|refine zsq rfl (q_idxm rfl rfl rfl rfl rfl (by omega) he rfl) ?_|refine zqq rfl (q_idxm rfl rfl rfl rfl rfl (by omega) he rfl) ?_)
    repeat (first|refine pq_end rfl ?_|(refine zs rfl ?_ ?_;·repeat' constructor)|(refine zq rfl ?_ ?_;·repeat' constructor)|refine zw rfl ?_|refine zx rfl ?_|refine zb rfl ?_)
    refine ps_cut 100 [(3, .ptr 3 1 0 0), (4, .ptr 4 1 0 0), (5, .ptr 5 1 0 0), (7, I k), (8, .ptr 8 ((s.own 8).1 + 1) 0 0), (62, .bool (!exclK x y e))] [(3, 1, ⟨28, 9, [eWork w], 2⟩), (4, 1, ⟨57, 7, [eItem x], 2⟩), (5, 1, ⟨57, 7, [eItem y], 2⟩), (8, (s.own 8).1 + 1, ⟨117, 3, [eExcl e], 2⟩)] ?_ ?_
    · repeat' (first|refine pq_end rfl ?_|(refine zs rfl ?_ ?_;·repeat' constructor)|(refine zq rfl ?_ ?_;·repeat' constructor)|refine zw rfl ?_|refine zx rfl ?_|refine zb rfl ?_|refine ps_split rfl rfl (fun h => ?_) (fun h => ?_)|refine pq_split rfl rfl (fun h => ?_) (fun h => ?_))
      all_goals exact ⟨rfl, rfl, rfl, rfl, rfl, (congrArg PV.bool (by simp_all [exclK])), rfl, rfl, rfl, rfl, trivial⟩
    intro s2
    repeat (first|refine pq_end rfl ?_|(refine zs rfl ?_ ?_;·repeat' constructor)|(refine zq rfl ?_ ?_;·repeat' constructor)|refine zw rfl ?_|refine zx rfl ?_|refine zb rfl ?_)
    refine pw_cond rfl (fun h => ?_) (fun h => ?_)
    · have hK : exclK x y e = false := by simpa using h
      repeat (first|refine pq_end rfl ?_|(refine zs rfl ?_ ?_;·repeat' constructor)|(refine zq rfl ?_ ?_;·repeat' constructor)|refine zw rfl ?_|refine zx rfl ?_|refine zb rfl ?_)
      exact ⟨k + 1, hk.succ he (by simp [exclB, hK]), by omega, rfl, rfl, rfl, i64_next (by omega) (by omega), rfl, rfl, rfl, trivial⟩
    · have hK : exclK x y e = true := by simpa using h
      clear h
      repeat (first|refine pq_end rfl ?_|(refine zs rfl ?_ ?_;·repeat' constructor)|(refine zq rfl ?_ ?_;·repeat' constructor)|refine zw rfl ?_|refine zx rfl ?_|refine zb rfl ?_)
      refine ps_cut 100 [(3, .ptr 3 1 0 0), (4, .ptr 4 1 0 0), (5, .ptr 5 1 0 0), (7, I k), (85, .bool (decide (nearP w x.space y.space ≤ e.reach)))] [(3, 1, ⟨28, 9, [eWork w], 2⟩), (4, 1, ⟨57, 7, [eItem x], 2⟩), (5, 1, ⟨57, 7, [eItem y], 2⟩)] ?_ ?_
      · (first | refine ps_split rfl rfl (fun h => ?_) (fun h => ?_) | refine pq_split rfl rfl (fun h => ?_) (fun h => ?_))
        · have g1 := of_decide_eq_true h
          clear h
          repeat (first|refine pq_end rfl ?_|(refine zs rfl ?_ ?_;·repeat' constructor)|(refine zq rfl ?_ ?_;·repeat' constructor)|refine zw rfl ?_|refine zx rfl ?_|refine zb rfl ?_)
          exact ⟨rfl, rfl, rfl, rfl, (congrArg PV.bool (by symm; rw [decide_eq_true_eq]; omega)), rfl, rfl, rfl, trivial⟩
        have g1 := of_decide_eq_false h
        clear h
        repeat (first|refine pq_end rfl ?_|(refine zs rfl ?_ ?_;·repeat' constructor)|(refine zq rfl ?_ ?_;·repeat' constructor)|refine zw rfl ?_|refine zx rfl ?_|refine zb rfl ?_)
        (first | refine ps_split rfl rfl (fun h => ?_) (fun h => ?_) | refine pq_split rfl rfl (fun h => ?_) (fun h => ?_))
        · have g2 := of_decide_eq_true h
          clear h
          repeat (first|refine pq_end rfl ?_|(refine zs rfl ?_ ?_;·repeat' constructor)|(refine zq rfl ?_ ?_;·repeat' constructor)|refine zw rfl ?_|refine zx rfl ?_|refine zb rfl ?_)
          exact ⟨rfl, rfl, rfl, rfl, (congrArg PV.bool (by symm; rw [decide_eq_true_eq]; exact hnp.elim (fun h => by omega) fun h => absurd g2 h.2)), rfl, rfl, rfl, trivial⟩
        have g2 := of_decide_eq_false h
        clear h
        repeat (first|refine pq_end rfl ?_|(refine zs rfl ?_ ?_;·repeat' constructor)|(refine zq rfl ?_ ?_;·repeat' constructor)|refine zw rfl ?_|refine zx rfl ?_|refine zb rfl ?_)
        (first | refine ps_split rfl rfl (fun h => ?_) (fun h => ?_) | refine pq_split rfl rfl (fun h => ?_) (fun h => ?_))
        · have g3 := of_decide_eq_true h
          clear h
          repeat (first|refine pq_end rfl ?_|(refine zs rfl ?_ ?_;·repeat' constructor)|(refine zq rfl ?_ ?_;·repeat' constructor)|refine zw rfl ?_|refine zx rfl ?_|refine zb rfl ?_)
          (first|refine zsq rfl (q_callP rfl (near_ref w hw hz hw.next hsx hsy) rfl (by repeat' constructor) rfl rfl) ?_|refine zqq rfl (q_callP rfl (near_ref w hw hz hw.next hsx hsy) rfl (by repeat' constructor) rfl rfl) ?_)
          repeat (first|refine pq_end rfl ?_|(refine zs rfl ?_ ?_;·repeat' constructor)|(refine zq rfl ?_ ?_;·repeat' constructor)|refine zw rfl ?_|refine zx rfl ?_|refine zb rfl ?_)
          exact ⟨rfl, rfl, rfl, rfl, (congrArg PV.bool (by rw [g3])), rfl, rfl, rfl, trivial⟩
        · have g3 := of_decide_eq_false h
          clear h
          repeat (first|refine pq_end rfl ?_|(refine zs rfl ?_ ?_;·repeat' constructor)|(refine zq rfl ?_ ?_;·repeat' constructor)|refine zw rfl ?_|refine zx rfl ?_|refine zb rfl ?_)
          exact ⟨rfl, rfl, rfl, rfl, (congrArg PV.bool (by symm; rw [decide_eq_false_iff_not]; exact hnp.elim (fun h => absurd h.2 g2) fun h => by omega)), rfl, rfl, rfl, trivial⟩
      intro s3
      repeat (first|refine pq_end rfl ?_|(refine zs rfl ?_ ?_;·repeat' constructor)|(refine zq rfl ?_ ?_;·repeat' constructor)|refine zw rfl ?_|refine zx rfl ?_|refine zb rfl ?_)
      refine pw_cond rfl (fun h => ?_) (fun h => ?_)
      · have hB : exclB w x y e = true := by rw [exclB, hK]; exact h
        repeat (first|refine pq_end rfl ?_|(refine zs rfl ?_ ?_;·repeat' constructor)|(refine zq rfl ?_ ?_;·repeat' constructor)|refine zw rfl ?_|refine zx rfl ?_|refine zb rfl ?_)
        exact end1b rfl rfl (by rw [hP, any_of he hB])
      · have hB : exclB w x y e = false := by rw [exclB, hK]; exact h
        repeat (first|refine pq_end rfl ?_|(refine zs rfl ?_ ?_;·repeat' constructor)|(refine zq rfl ?_ ?_;·repeat' constructor)|refine zw rfl ?_|refine zx rfl ?_|refine zb rfl ?_)
        exact ⟨k + 1, hk.succ he hB, by omega, rfl, rfl, rfl, i64_next (by omega) (by omega), rfl, rfl, rfl, trivial⟩
  · have hge : ¬ k < w.excls.length := by simpa using h
    repeat (first|refine pq_end rfl ?_|(refine zs rfl ?_ ?_;·repeat' constructor)|(refine zq rfl ?_ ?_;·repeat' constructor)|refine zw rfl ?_|refine zx rfl ?_|refine zb rfl ?_)
    exact end1b rfl rfl (by rw [hP, hk.any hge])
end Go.Pv

/- The reference's clashes, outages and days. -/
set_option maxHeartbeats 2000000
namespace Go.Pv
attribute [local irreducible] PWP POps PQuiet PSem XThen XBlock RetPost InlPost
open Go.Proofs

def meetR (a b : SSlot) (m n : SMode) : Bool := decide (a.day < b.day + n.days) && decide (b.day < a.day + m.days)
theorem together_ref (w : SWork) (hw : Sane w) (a b : SSlot) {x y : SItem} {m n : SMode} (ha : SlotAt w a x m) (hb : SlotAt w b y n) : Ret Try.prog .shared 96 [.agg (eWork w), .agg (eSlot a), .agg (eSlot b)] (.bool (meetR a b m n)) := by
  refine Ret.of_pwp layOk mixed Go.Proofs.Try.func96 rfl (by decide) rfl rfl ?_
  repeat (first|refine pq_end rfl ?_|(refine zs rfl ?_ ?_;·repeat' constructor)|(refine zq rfl ?_ ?_;·repeat' constructor)|refine zw rfl ?_|refine zx rfl ?_|refine zb rfl ?_)
  refine pw_draw 15 [7, 8, 9, 10, 11, 12, 13, 14, 15, 16, 17, 18, 19, 20, 6] (by decide +kernel) ?_
  repeat (first|refine pq_end rfl ?_|(refine zs rfl ?_ ?_;·repeat' constructor)|(refine zq rfl ?_ ?_;·repeat' constructor)|refine zw rfl ?_|refine zx rfl ?_|refine zb rfl ?_)
  (first|refine zsq rfl (q_callP rfl (end_ref w hw b hb) rfl (by repeat' constructor) rfl rfl) ?_|refine zqq rfl (q_callP rfl (end_ref w hw b hb) rfl (by repeat' constructor) rfl rfl) ?_)
  repeat (first|refine pq_end rfl ?_|(refine zs rfl ?_ ?_;·repeat' constructor)|(refine zq rfl ?_ ?_;·repeat' constructor)|refine zw rfl ?_|refine zx rfl ?_|refine zb rfl ?_)
  (first | refine ps_split rfl rfl (fun h => ?_) (fun h => ?_) | refine pq_split rfl rfl (fun h => ?_) (fun h => ?_))
  · repeat (first|refine pq_end rfl ?_|(refine zs rfl ?_ ?_;·repeat' constructor)|(refine zq rfl ?_ ?_;·repeat' constructor)|refine zw rfl ?_|refine zx rfl ?_|refine zb rfl ?_)
    (first|refine zsq rfl (q_callP rfl (end_ref w hw a ha) rfl (by repeat' constructor) rfl rfl) ?_|refine zqq rfl (q_callP rfl (end_ref w hw a ha) rfl (by repeat' constructor) rfl rfl) ?_)
    repeat (first|refine pq_end rfl ?_|(refine zs rfl ?_ ?_;·repeat' constructor)|(refine zq rfl ?_ ?_;·repeat' constructor)|refine zw rfl ?_|refine zx rfl ?_|refine zb rfl ?_)
    exact end1b rfl rfl (by rw [meetR, show decide (a.day < b.day + n.days) = true from h, Bool.true_and])
  · repeat (first|refine pq_end rfl ?_|(refine zs rfl ?_ ?_;·repeat' constructor)|(refine zq rfl ?_ ?_;·repeat' constructor)|refine zw rfl ?_|refine zx rfl ?_|refine zb rfl ?_)
    exact end1b rfl rfl (by rw [meetR, show decide (a.day < b.day + n.days) = false from h, Bool.false_and])
theorem clash_ref (w : SWork) (hw : Sane w) (hv : Well w) (hz : workE w = 0) (a b : SSlot) {x y : SItem} {m n : SMode} (ha : SlotAt w a x m) (hb : SlotAt w b y n) : Ret Try.prog .shared 55 [.agg (eWork w), .agg (eSlot a), .agg (eSlot b)] (.bool (meetR a b m n && apartP w x y)) := by
  have hx := List.mem_of_getElem? ha.item
  have hy := List.mem_of_getElem? hb.item
  refine Ret.of_pwp layOk mixed Go.Proofs.Try.func55 rfl (by decide) rfl rfl ?_
  repeat (first|refine pq_end rfl ?_|(refine zs rfl ?_ ?_;·repeat' constructor)|(refine zq rfl ?_ ?_;·repeat' constructor)|refine zw rfl ?_|refine zx rfl ?_|refine zb rfl ?_)
  refine pw_draw2 6 2 [9, 10, 11, 12, 13, 14, 7, 8] [] (by decide +kernel) rfl ?_
  repeat (first|refine pq_end rfl ?_|(refine zs rfl ?_ ?_;·repeat' constructor)|(refine zq rfl ?_ ?_;·repeat' constructor)|refine zw rfl ?_|refine zx rfl ?_|refine zb rfl ?_)
  (first|refine zsq rfl (q_call rfl (item_ref w hw a ha) rfl (by repeat' constructor) rfl) ?_|refine zqq rfl (q_call rfl (item_ref w hw a ha) rfl (by repeat' constructor) rfl) ?_)
  repeat (first|refine pq_end rfl ?_|(refine zs rfl ?_ ?_;·repeat' constructor)|(refine zq rfl ?_ ?_;·repeat' constructor)|refine zw rfl ?_|refine zx rfl ?_|refine zb rfl ?_)
  (first|refine zsq rfl (q_call rfl (item_ref w hw b hb) rfl (by repeat' constructor) rfl) ?_|refine zqq rfl (q_call rfl (item_ref w hw b hb) rfl (by repeat' constructor) rfl) ?_)
  repeat (first|refine pq_end rfl ?_|(refine zs rfl ?_ ?_;·repeat' constructor)|(refine zq rfl ?_ ?_;·repeat' constructor)|refine zw rfl ?_|refine zx rfl ?_|refine zb rfl ?_)
  (first|refine zsq rfl (q_callP rfl (together_ref w hw a b ha hb) rfl (by repeat' constructor) rfl rfl) ?_|refine zqq rfl (q_callP rfl (together_ref w hw a b ha hb) rfl (by repeat' constructor) rfl rfl) ?_)
  repeat (first|refine pq_end rfl ?_|(refine zs rfl ?_ ?_;·repeat' constructor)|(refine zq rfl ?_ ?_;·repeat' constructor)|refine zw rfl ?_|refine zx rfl ?_|refine zb rfl ?_)
  have hX := excl_ref w hw hv hz x y hx hy
  unfold apartP
  generalize exclP w x y = v2 at hX ⊢
  generalize meetR a b m n = v1
  cases v1
  · repeat (first|refine pq_end rfl ?_|(refine zs rfl ?_ ?_;·repeat' constructor)|(refine zq rfl ?_ ?_;·repeat' constructor)|refine zw rfl ?_|refine zx rfl ?_|refine zb rfl ?_)
    exact end1b rfl rfl rfl
  repeat (first|refine pq_end rfl ?_|(refine zs rfl ?_ ?_;·repeat' constructor)|(refine zq rfl ?_ ?_;·repeat' constructor)|refine zw rfl ?_|refine zx rfl ?_|refine zb rfl ?_)
  (first | refine ps_split rfl rfl (fun h => ?_) (fun h => ?_) | refine pq_split rfl rfl (fun h => ?_) (fun h => ?_))
  · have g1 : x.crane = true := h
    clear h
    repeat (first|refine pq_end rfl ?_|(refine zs rfl ?_ ?_;·repeat' constructor)|(refine zq rfl ?_ ?_;·repeat' constructor)|refine zw rfl ?_|refine zx rfl ?_|refine zb rfl ?_)
    (first | refine ps_split rfl rfl (fun h => ?_) (fun h => ?_) | refine pq_split rfl rfl (fun h => ?_) (fun h => ?_))
    · have g2 : y.crane = true := h
      clear h
      repeat (first|refine pq_end rfl ?_|(refine zs rfl ?_ ?_;·repeat' constructor)|(refine zq rfl ?_ ?_;·repeat' constructor)|refine zw rfl ?_|refine zx rfl ?_|refine zb rfl ?_)
      exact end1b rfl rfl (by rw [g1, g2]; rfl)
    · have g2 : y.crane = false := h
      clear h
      repeat (first|refine pq_end rfl ?_|(refine zs rfl ?_ ?_;·repeat' constructor)|(refine zq rfl ?_ ?_;·repeat' constructor)|refine zw rfl ?_|refine zx rfl ?_|refine zb rfl ?_)
      (first|refine zsq rfl (q_callP rfl (hX) rfl (by repeat' constructor) rfl rfl) ?_|refine zqq rfl (q_callP rfl (hX) rfl (by repeat' constructor) rfl rfl) ?_)
      repeat (first|refine pq_end rfl ?_|(refine zs rfl ?_ ?_;·repeat' constructor)|(refine zq rfl ?_ ?_;·repeat' constructor)|refine zw rfl ?_|refine zx rfl ?_|refine zb rfl ?_)
      exact end1b rfl rfl (by rw [g1, g2]; rfl)
  · have g1 : x.crane = false := h
    clear h
    repeat (first|refine pq_end rfl ?_|(refine zs rfl ?_ ?_;·repeat' constructor)|(refine zq rfl ?_ ?_;·repeat' constructor)|refine zw rfl ?_|refine zx rfl ?_|refine zb rfl ?_)
    (first|refine zsq rfl (q_callP rfl (hX) rfl (by repeat' constructor) rfl rfl) ?_|refine zqq rfl (q_callP rfl (hX) rfl (by repeat' constructor) rfl rfl) ?_)
    repeat (first|refine pq_end rfl ?_|(refine zs rfl ?_ ?_;·repeat' constructor)|(refine zq rfl ?_ ?_;·repeat' constructor)|refine zw rfl ?_|refine zx rfl ?_|refine zb rfl ?_)
    exact end1b rfl rfl (by rw [g1]; rfl)
theorem out_ref (w : SWork) (hw : Sane w) (hv : Well w) (s : SSlot) {x : SItem} {m : SMode} (h : SlotAt w s x m) : Ret Try.prog .shared 56 [.agg (eWork w), .agg (eSlot s)] (.bool (x.crane && w.outs.any fun o => decide (s.day < o.to) && decide (o.frm < s.day + m.days))) := by
  have h5 := hw.outs
  have hml : ((w.outs.map eOut).length : Int) = w.outs.length := by simp
  refine Ret.of_pwp layOk mixed Go.Proofs.Try.func56 rfl (by decide) rfl rfl ?_
  repeat (first|refine pq_end rfl ?_|(refine zs rfl ?_ ?_;·repeat' constructor)|(refine zq rfl ?_ ?_;·repeat' constructor)|refine zw rfl ?_|refine zx rfl ?_|refine zb rfl ?_)
  (first|refine zsq rfl (q_call rfl (item_ref w hw s h) rfl (by repeat' constructor) rfl) ?_|refine zqq rfl (q_call rfl (item_ref w hw s h) rfl (by repeat' constructor) rfl) ?_)
  repeat (first|refine pq_end rfl ?_|(refine zs rfl ?_ ?_;·repeat' constructor)|(refine zq rfl ?_ ?_;·repeat' constructor)|refine zw rfl ?_|refine zx rfl ?_|refine zb rfl ?_)
  refine pw_cond rfl (fun h => ?_) (fun h => ?_)
  · have hc : x.crane = false := by simpa using h
    repeat (first|refine pq_end rfl ?_|(refine zs rfl ?_ ?_;·repeat' constructor)|(refine zq rfl ?_ ?_;·repeat' constructor)|refine zw rfl ?_|refine zx rfl ?_|refine zb rfl ?_)
    exact end1b rfl rfl (by rw [hc]; rfl)
  have hc : x.crane = true := by simpa using h
  rw [hc, Bool.true_and]
  clear h
  repeat (first|refine pq_end rfl ?_|(refine zs rfl ?_ ?_;·repeat' constructor)|(refine zq rfl ?_ ?_;·repeat' constructor)|refine zw rfl ?_|refine zx rfl ?_|refine zb rfl ?_)
  refine pw_loop (Clear w.outs fun o => decide (s.day < o.to) && decide (o.frm < s.day + m.days)) (fun k => [(2, .ptr 2 1 0 0), (3, .ptr 3 1 0 0), (5, I k)]) (fun _ => [(2, 1, ⟨28, 9, [eWork w], 2⟩), (3, 1, ⟨82, 3, [eSlot s], 2⟩)])
    (fun k => w.outs.length - k) 0 .zero ⟨rfl, rfl, rfl, rfl, rfl, trivial⟩ ?_
  intro k s2 hk
  repeat (first|refine pq_end rfl ?_|(refine zs rfl ?_ ?_;·repeat' constructor)|(refine zq rfl ?_ ?_;·repeat' constructor)|refine zw rfl ?_|refine zx rfl ?_|refine zb rfl ?_)
  refine pw_cond rfl (fun h => ?_) (fun h => ?_)
  · have hlt : k < w.outs.length := by simpa using h
    obtain ⟨o, ho⟩ := get_lt hlt
    clear h
    repeat (first|refine pq_end rfl ?_|(refine zs rfl ?_ ?_;·repeat' constructor)|(refine zq rfl ?_ ?_;·repeat' constructor)|refine zw rfl ?_|refine zx rfl ?_|refine zb rfl ?_)
    refine pw_draw 21 [18, 19, 20, 21, 22, 23, 24, 25, 26, 27, 28, 29, 30, 31, 32, 33, 34, 35, 36, 37, 38] (by decide +kernel) ?_
    repeat (first|refine pq_end rfl ?_|(refine zs rfl ?_ ?_;·repeat' constructor)|(refine zq rfl ?_ ?_;·repeat' constructor)|refine zw rfl ?_|refine zx rfl ?_|refine zb rfl ?_)
    (first|refine zsq rfl (q_idxm rfl rfl rfl rfl rfl (by omega) ho rfl) ?_|refine zqq rfl (q_idxm rfl rfl rfl rfl rfl (by omega) ho rfl) ?_)
    repeat (first|refine pq_end rfl ?_|(refine zs rfl ?_ ?_;·repeat' constructor)|(refine zq rfl ?_ ?_;·repeat' constructor)|refine zw rfl ?_|refine zx rfl ?_|refine zb rfl ?_)
    (first | refine ps_split rfl rfl (fun h => ?_) (fun h => ?_) | refine pq_split rfl rfl (fun h => ?_) (fun h => ?_))
    · have g1 : decide (s.day < o.to) = true := h
      clear h
      repeat (first|refine pq_end rfl ?_|(refine zs rfl ?_ ?_;·repeat' constructor)|(refine zq rfl ?_ ?_;·repeat' constructor)|refine zw rfl ?_|refine zx rfl ?_|refine zb rfl ?_)
      (first|refine zsq rfl (q_idxm rfl rfl rfl rfl rfl (by omega) ho rfl) ?_|refine zqq rfl (q_idxm rfl rfl rfl rfl rfl (by omega) ho rfl) ?_)
      repeat (first|refine pq_end rfl ?_|(refine zs rfl ?_ ?_;·repeat' constructor)|(refine zq rfl ?_ ?_;·repeat' constructor)|refine zw rfl ?_|refine zx rfl ?_|refine zb rfl ?_)
      (first|refine zsq rfl (q_callP rfl (end_ref w hw s ‹_›) rfl (by repeat' constructor) rfl rfl) ?_|refine zqq rfl (q_callP rfl (end_ref w hw s ‹_›) rfl (by repeat' constructor) rfl rfl) ?_)
      repeat (first|refine pq_end rfl ?_|(refine zs rfl ?_ ?_;·repeat' constructor)|(refine zq rfl ?_ ?_;·repeat' constructor)|refine zw rfl ?_|refine zx rfl ?_|refine zb rfl ?_)
      refine pw_cond rfl (fun h => ?_) (fun h => ?_)
      · have g2 : decide (o.frm < s.day + m.days) = true := h
        repeat (first|refine pq_end rfl ?_|(refine zs rfl ?_ ?_;·repeat' constructor)|(refine zq rfl ?_ ?_;·repeat' constructor)|refine zw rfl ?_|refine zx rfl ?_|refine zb rfl ?_)
        exact end1b rfl rfl (by rw [any_of ho (by rw [g1, g2]; rfl)])
      · have g2 : decide (o.frm < s.day + m.days) = false := h
        repeat (first|refine pq_end rfl ?_|(refine zs rfl ?_ ?_;·repeat' constructor)|(refine zq rfl ?_ ?_;·repeat' constructor)|refine zw rfl ?_|refine zx rfl ?_|refine zb rfl ?_)
        exact ⟨k + 1, hk.succ ho (by rw [g1, g2]; rfl), by omega, rfl, rfl, i64_next (by omega) (by omega), rfl, rfl, trivial⟩
    · have g1 : decide (s.day < o.to) = false := h
      clear h
      repeat (first|refine pq_end rfl ?_|(refine zs rfl ?_ ?_;·repeat' constructor)|(refine zq rfl ?_ ?_;·repeat' constructor)|refine zw rfl ?_|refine zx rfl ?_|refine zb rfl ?_)
      exact ⟨k + 1, hk.succ ho (by rw [g1]; rfl), by omega, rfl, rfl, i64_next (by omega) (by omega), rfl, rfl, trivial⟩
  · have hge : ¬ k < w.outs.length := by simpa using h
    repeat (first|refine pq_end rfl ?_|(refine zs rfl ?_ ?_;·repeat' constructor)|(refine zq rfl ?_ ?_;·repeat' constructor)|refine zw rfl ?_|refine zx rfl ?_|refine zb rfl ?_)
    exact end1b rfl rfl (by rw [hk.any hge])
end Go.Pv

/- The reference's list of slots in the order of the items. -/
set_option maxHeartbeats 2000000
namespace Go.Pv
attribute [local irreducible] PWP POps PQuiet PSem XThen XBlock RetPost InlPost
open Go.Proofs

def sortOf (s : List SSlot) (x : SItem) : List SSlot := s.filter (·.item == x.name)
def sortK (w : SWork) (s : List SSlot) (k : Nat) : List SSlot := (w.items.take k).flatMap (sortOf s)
def sortS (w : SWork) (s : List SSlot) : List SSlot := w.items.flatMap (sortOf s)
def sortJ (w : SWork) (s : List SSlot) (k : Nat) (x : SItem) (j : Nat) : List SSlot := sortK w s k ++ sortOf (s.take j) x
theorem sortOf_len (s : List SSlot) (x : SItem) : (sortOf s x).length ≤ s.length := List.length_filter_le _ _
theorem sortK_len (w : SWork) (s : List SSlot) (k : Nat) (hk : k ≤ w.items.length) : (sortK w s k).length ≤ k * s.length := by
  have := flatMap_len (sortOf_len s) (w.items.take k)
  rw [List.length_take, Nat.min_eq_left hk] at this
  exact this

theorem sorted_ref (w : SWork) (hn : w.items.length ≤ 1000) (s : List SSlot) (hs : s.length ≤ 1000) : Ret Try.prog .shared 51 [.agg (eWork w), .sl (s.map eSlot)] (.sl ((sortS w s).map eSlot)) := by
  have hml : ((w.items.map eItem).length : Int) = w.items.length := by simp
  have hsl : ((s.map eSlot).length : Int) = s.length := by simp
  have hall : sortK w s w.items.length = sortS w s := by rw [sortK, List.take_length]; rfl
  refine Ret.of_pwp layOk mixed Go.Proofs.Try.func51 rfl (by decide) rfl rfl ?_
  ((repeat (first | refine ps_nil ?_ | refine pq_nil ?_ | refine x_norm ?_ | refine pw_seq ?_)); refine pw_region ?_)
  refine ps_run (o_box rfl rfl rfl (by repeat' constructor) rfl ?_)
  refine ps_v rfl trivial ?_
  ((repeat (first | refine ps_nil ?_ | refine pq_nil ?_ | refine x_norm ?_ | refine pw_seq ?_)); refine pw_region ?_)
  (first | refine ps_run (o_nilm 82 3 0 rfl rfl ?_) | refine ps_run (o_nila 82 3 0 rfl rfl ?_))
  repeat (first|refine pq_end rfl ?_|(refine zs rfl ?_ ?_;·repeat' constructor)|(refine zq rfl ?_ ?_;·repeat' constructor)|refine zw rfl ?_|refine zx rfl ?_|refine zb rfl ?_)
  refine pw_loop (fun k => k ≤ w.items.length) (fun k => [(1, .sl (s.map eSlot)), (2, .ptr 2 1 0 0), (5, .als 5 (1 + (sortK w s k).length) 0 ((sortK w s k).map eSlot).length), (6, I k)])
    (fun k => [(2, 1, ⟨28, 9, [eWork w], 2⟩), (5, 1 + (sortK w s k).length, ⟨82, 3, (sortK w s k).map eSlot, 0⟩)]) (fun k => w.items.length - k) 0 (Nat.zero_le _) ⟨rfl, rfl, rfl, rfl, rfl, rfl, trivial⟩ ?_
  intro k s1 hk
  repeat (first|refine pq_end rfl ?_|(refine zs rfl ?_ ?_;·repeat' constructor)|(refine zq rfl ?_ ?_;·repeat' constructor)|refine zw rfl ?_|refine zx rfl ?_|refine zb rfl ?_)
  refine pw_cond rfl (fun h => ?_) (fun h => ?_)
  · have hlt : k < w.items.length := by simpa using h
    clear h
    obtain ⟨x, hx⟩ := get_lt hlt
    have e0 : sortJ w s k x 0 = sortK w s k := by simp [sortJ, sortOf]
    have hsucc : sortK w s (k + 1) = sortJ w s k x s.length := by rw [sortJ, List.take_length, sortK, take_snoc hx, List.flatMap_append]; simp [sortK]
    have hkl := sortK_len w s k hk
    have hkb : k * s.length ≤ 1000 * 1000 := Nat.mul_le_mul (by omega) hs
    repeat (first|refine pq_end rfl ?_|(refine zs rfl ?_ ?_;·repeat' constructor)|(refine zq rfl ?_ ?_;·repeat' constructor)|refine zw rfl ?_|refine zx rfl ?_|refine zb rfl ?_)
    refine pw_loop (fun j => j ≤ s.length) (fun j => [(1, .sl (s.map eSlot)), (2, .ptr 2 1 0 0), (5, .als 5 (1 + (sortJ w s k x j).length) 0 ((sortJ w s k x j).map eSlot).length), (6, I k), (7, I j)])
      (fun j => [(2, 1, ⟨28, 9, [eWork w], 2⟩), (5, 1 + (sortJ w s k x j).length, ⟨82, 3, (sortJ w s k x j).map eSlot, 0⟩)]) (fun j => s.length - j) 0 (Nat.zero_le _) ⟨rfl, rfl, ?_, rfl, rfl, rfl, ?_, trivial⟩ ?_
    · rw [e0]; rfl
    · rw [e0]; rfl
    intro j s2 hj
    repeat (first|refine pq_end rfl ?_|(refine zs rfl ?_ ?_;·repeat' constructor)|(refine zq rfl ?_ ?_;·repeat' constructor)|refine zw rfl ?_|refine zx rfl ?_|refine zb rfl ?_)
    refine pw_cond rfl (fun h => ?_) (fun h => ?_)
    · have hlt' : j < s.length := by simpa using h
      clear h
      obtain ⟨sl, hsl'⟩ := get_lt hlt'
      have hb : (sortJ w s k x j).length ≤ 2000000 := by
        have h1 := sortOf_len (s.take j) x
        rw [List.length_take] at h1
        rw [sortJ, List.length_append]; omega
      have hstep : sortJ w s k x (j + 1) = sortJ w s k x j ++ (if sl.item = x.name then [sl] else []) := by
        rw [sortJ, take_snoc hsl', sortOf, List.filter_append, sortJ, List.append_assoc, sortOf]
        by_cases he : sl.item = x.name
        · simp [he]
        · simp [he]
      repeat (first|refine pq_end rfl ?_|(refine zs rfl ?_ ?_;·repeat' constructor)|(refine zq rfl ?_ ?_;·repeat' constructor)|refine zw rfl ?_|refine zx rfl ?_|refine zb rfl ?_)
      refine pw_draw 12 [21, 22, 23, 24, 25, 26, 27, 28, 29, 30, 31, 32] (by decide +kernel) ?_
      repeat (first|refine pq_end rfl ?_|(refine zs rfl ?_ ?_;·repeat' constructor)|(refine zq rfl ?_ ?_;·repeat' constructor)|refine zw rfl ?_|refine zx rfl ?_|refine zb rfl ?_)
      (first|refine zsq rfl (q_idxm rfl rfl rfl rfl rfl (by omega) hsl' rfl) ?_|refine zqq rfl (q_idxm rfl rfl rfl rfl rfl (by omega) hsl' rfl) ?_)
      repeat (first|refine pq_end rfl ?_|(refine zs rfl ?_ ?_;·repeat' constructor)|(refine zq rfl ?_ ?_;·repeat' constructor)|refine zw rfl ?_|refine zx rfl ?_|refine zb rfl ?_)
      (first|refine zsq rfl (q_idxm rfl rfl rfl rfl rfl (by omega) hx rfl) ?_|refine zqq rfl (q_idxm rfl rfl rfl rfl rfl (by omega) hx rfl) ?_)
      repeat (first|refine pq_end rfl ?_|(refine zs rfl ?_ ?_;·repeat' constructor)|(refine zq rfl ?_ ?_;·repeat' constructor)|refine zw rfl ?_|refine zx rfl ?_|refine zb rfl ?_)
      refine pw_cond rfl (fun h => ?_) (fun h => ?_)
      · have he : sl.item = x.name := of_decide_eq_true h
        clear h
        rw [if_pos he] at hstep
        repeat (first|refine pq_end rfl ?_|(refine zs rfl ?_ ?_;·repeat' constructor)|(refine zq rfl ?_ ?_;·repeat' constructor)|refine zw rfl ?_|refine zx rfl ?_|refine zb rfl ?_)
        (first|refine zsq rfl (q_idxm rfl rfl rfl rfl rfl (by omega) hsl' rfl) ?_|refine zqq rfl (q_idxm rfl rfl rfl rfl rfl (by omega) hsl' rfl) ?_)
        repeat (first|refine pq_end rfl ?_|(refine zs rfl ?_ ?_;·repeat' constructor)|(refine zq rfl ?_ ?_;·repeat' constructor)|refine zw rfl ?_|refine zx rfl ?_|refine zb rfl ?_)
        (first|refine zsq rfl (q_slit rfl rfl rfl rfl rfl rfl rfl rfl rfl rfl (by repeat' constructor) rfl) ?_|refine zqq rfl (q_slit rfl rfl rfl rfl rfl rfl rfl rfl rfl rfl (by repeat' constructor) rfl) ?_)
        repeat (first|refine pq_end rfl ?_|(refine zs rfl ?_ ?_;·repeat' constructor)|(refine zq rfl ?_ ?_;·repeat' constructor)|refine zw rfl ?_|refine zx rfl ?_|refine zb rfl ?_)
        refine ps_run (o_app 0 rfl rfl rfl rfl rfl rfl rfl rfl rfl rfl rfl (by repeat' constructor) (by intro row hr; first | (simp at hr; subst hr; rfl) | simp at hr) rfl rfl (by simp; omega) (by simp; omega) ?_)
        repeat (first|refine pq_end rfl ?_|(refine zs rfl ?_ ?_;·repeat' constructor)|(refine zq rfl ?_ ?_;·repeat' constructor)|refine zw rfl ?_|refine zx rfl ?_|refine zb rfl ?_)
        refine ⟨j + 1, hlt', by omega, rfl, rfl, ?_, rfl, ?_, rfl, ?_, trivial⟩
        · rw [hstep]; exact als_snoc eSlot 5 1 (sortJ w s k x j) sl
        · exact i64_next (by omega) (by omega)
        · rw [hstep]; exact cont_snoc eSlot 1 82 3 0 (sortJ w s k x j) sl
      · have he : ¬ sl.item = x.name := of_decide_eq_false h
        clear h
        rw [if_neg he, List.append_nil] at hstep
        repeat (first|refine pq_end rfl ?_|(refine zs rfl ?_ ?_;·repeat' constructor)|(refine zq rfl ?_ ?_;·repeat' constructor)|refine zw rfl ?_|refine zx rfl ?_|refine zb rfl ?_)
        refine ⟨j + 1, hlt', by omega, rfl, rfl, ?_, rfl, ?_, rfl, ?_, trivial⟩
        · rw [hstep]; rfl
        · exact i64_next (by omega) (by omega)
        · rw [hstep]; rfl
    · have hge : j = s.length := by have := of_decide_eq_false h; omega
      subst hge
      clear h
      rw [← hsucc]
      repeat (first|refine pq_end rfl ?_|(refine zs rfl ?_ ?_;·repeat' constructor)|(refine zq rfl ?_ ?_;·repeat' constructor)|refine zw rfl ?_|refine zx rfl ?_|refine zb rfl ?_)
      exact ⟨k + 1, hlt, by omega, rfl, rfl, rfl, i64_next (by omega) (by omega), rfl, rfl, trivial⟩
  · have hge : k = w.items.length := by have := of_decide_eq_false h; omega
    subst hge
    clear h
    rw [hall]
    repeat (first|refine pq_end rfl ?_|(refine zs rfl ?_ ?_;·repeat' constructor)|(refine zq rfl ?_ ?_;·repeat' constructor)|refine zw rfl ?_|refine zx rfl ?_|refine zb rfl ?_)
    exact end1 rfl rfl rfl ⟨rfl, rfl, rfl⟩ rfl
end Go.Pv

/- The slots in the order of the items, and the reference's days. -/
set_option maxHeartbeats 2000000
namespace Go.Pv
attribute [local irreducible] PWP POps PQuiet PSem XThen XBlock RetPost InlPost
open Go.Proofs

def slOf (q : SItem × SPl) : SSlot := ⟨q.1.name, q.2.mode, q.2.day⟩
def srt (w : SWork) (l : List SPl) : List SSlot := (prs w l).map slOf
theorem srt_at {w : SWork} {l : List SPl} {k : Nat} {x : SItem} {p : SPl} (hx : w.items[k]? = some x) (hp : l[k]? = some p) : (srt w l)[k]? = some ⟨x.name, p.mode, p.day⟩ := by
  rw [srt, List.getElem?_map, prs_at hx hp]; rfl
theorem srt_len {w : SWork} {l : List SPl} (h : Plan w l) : (srt w l).length = w.items.length := by simp [srt, prs, h.len]
theorem slotAt_of {w : SWork} {l : List SPl} (hv : Well w) (hf : Full w l) {k : Nat} {x : SItem} {p : SPl} (hx : w.items[k]? = some x) (hp : l[k]? = some p) : SlotAt w ⟨x.name, p.mode, p.day⟩ x (modeAt x p.mode) := by
  have hok := hf.at_ hx hp
  have hu := hv.good.uniq k x hx
  exact ⟨by show 0 ≤ idx w.items (·.name == x.name); omega, by show w.items[(idx w.items (·.name == x.name)).toNat]? = _; rw [hu, Int.toNat_natCast]; exact hx, hok.lo, hok.mode, hok.day, hok.days⟩

theorem filter_nodup : ∀ (s : List SSlot) (n : Str) (a : SSlot), (s.map (·.item)).Nodup → s.find? (·.item == n) = some a → s.filter (·.item == n) = [a]
  | [], _, _, _, h => by simp at h
  | b :: t, n, a, hn, h => by
    rw [List.map_cons, List.nodup_cons] at hn
    by_cases hb : b.item = n
    · have hba : b = a := by simpa [List.find?_cons, hb] using h
      rw [List.filter_cons, if_pos (by simp [hb]), ← hba]
      congr 1
      rw [List.filter_eq_nil_iff]
      intro c hc hcn
      exact hn.1 (List.mem_map.2 ⟨c, hc, by rw [hb]; simpa using hcn⟩)
    · have hbn : (b.item == n) = false := by simp [hb]
      rw [List.find?_cons, hbn] at h
      rw [List.filter_cons, hbn]
      exact filter_nodup t n a hn.2 h
theorem slots_nodup {w : SWork} {s : List SSlot} (h : slotsE w s = 0) : (s.map (·.item)).Nodup := by
  have hat := fun k sl => slot_of (k := k) (sl := sl) h
  rw [List.nodup_iff_pairwise_ne, List.pairwise_iff_getElem]
  intro i j hi hj hij he
  simp only [List.getElem_map] at he
  have hi' : i < s.length := by simpa using hi
  have hj' : j < s.length := by simpa using hj
  have := (hat j _ (List.getElem?_eq_getElem hj')).2.1
  rw [List.any_eq_false] at this
  refine this s[i] ?_ (by simp [he])
  rw [List.mem_take_iff_getElem]
  exact ⟨i, by omega, rfl⟩
theorem flatMap_one {α β : Type} {f : α → List β} {g : α → β} : ∀ {l : List α}, (∀ x ∈ l, f x = [g x]) → l.flatMap f = l.map g
  | [], _ => rfl
  | a :: l, h => by
    rw [List.flatMap_cons, List.map_cons, h a (by simp), flatMap_one fun x hx => h x (by simp [hx])]; rfl
theorem zip_self {α β γ : Type} (g : α → β) (f : α × β → γ) : ∀ l : List α, (l.zip (l.map g)).map f = l.map fun x => f (x, g x)
  | [] => rfl
  | a :: l => by simp [zip_self g f l]
theorem slE_parts {w : SWork} {s : List SSlot} (h : slE w s = 0) : workE w = 0 ∧ slotsE w s = 0 := by
  unfold slE at h
  by_cases hz : workE w = 0
  · rw [if_pos hz] at h; exact ⟨hz, h⟩
  · rw [if_neg hz] at h; exact absurd h hz
theorem sorted_eq {w : SWork} {s : List SSlot} (h : slE w s = 0) : sortS w s = srt w (placed w s) := by
  obtain ⟨hv, hf⟩ := full_of h
  have hn := slots_nodup (slE_parts h).2
  rw [srt, prs, placed, zip_self, sortS]
  refine flatMap_one fun x hx => ?_
  obtain ⟨i, hi, rfl⟩ := List.getElem_of_mem hx
  have hp : (placed w s)[i]? = some (pl s w.items[i].name) := by rw [placed, List.getElem?_map, List.getElem?_eq_getElem hi]; rfl
  have hon := hf.on i _ hp
  rw [sortOf]
  cases hfd : s.find? (·.item == w.items[i].name) with
  | none => rw [pl, hfd] at hon; cases hon
  | some a =>
    rw [filter_nodup s _ a hn hfd]
    have ha : a.item = w.items[i].name := by simpa using List.find?_some hfd
    show [a] = [slOf (w.items[i], pl s w.items[i].name)]
    rw [pl, hfd, slOf]
    show [a] = [⟨w.items[i].name, a.mode, a.day⟩]
    rw [← ha]

/-! ### Pairs of items and slots, in any order -/
def qS (q : List (SItem × SPl)) : List SSlot := q.map slOf
structure QOk (w : SWork) (q : List (SItem × SPl)) : Prop where
  len : q.length ≤ 4000
  at_ : ∀ (k : Nat) x p, q[k]? = some (x, p) → x ∈ w.items ∧ PlOk x p ∧ p.on = true
theorem qS_at {q : List (SItem × SPl)} {k : Nat} {x : SItem} {p : SPl} (h : q[k]? = some (x, p)) : (qS q)[k]? = some ⟨x.name, p.mode, p.day⟩ := by
  rw [qS, List.getElem?_map, h]; rfl
theorem qS_len (q : List (SItem × SPl)) : (qS q).length = q.length := by simp [qS]
theorem slotAt_it {w : SWork} (hv : Well w) {x : SItem} {p : SPl} (hx : x ∈ w.items) (hok : PlOk x p) : SlotAt w ⟨x.name, p.mode, p.day⟩ x (modeAt x p.mode) := by
  obtain ⟨k, hk, rfl⟩ := List.getElem_of_mem hx
  have hu := hv.good.uniq k _ (List.getElem?_eq_getElem hk)
  exact ⟨by show 0 ≤ idx w.items (·.name == w.items[k].name); omega, by show w.items[(idx w.items (·.name == w.items[k].name)).toNat]? = _; rw [hu, Int.toNat_natCast, List.getElem?_eq_getElem hk], hok.lo, hok.mode, hok.day, hok.days⟩
theorem QOk.slotAt {w : SWork} {q : List (SItem × SPl)} (h : QOk w q) (hv : Well w) {k : Nat} {x : SItem} {p : SPl} (hk : q[k]? = some (x, p)) : SlotAt w ⟨x.name, p.mode, p.day⟩ x (modeAt x p.mode) :=
  slotAt_it hv (h.at_ k x p hk).1 (h.at_ k x p hk).2.1
def durQ (q : List (SItem × SPl)) : Int := q.foldl durF 0
theorem durQ_bound {w : SWork} {q : List (SItem × SPl)} (h : QOk w q) (k : Nat) : 0 ≤ (q.take k).foldl durF 0 ∧ (q.take k).foldl durF 0 ≤ 460 := by
  induction k with
  | zero => simp
  | succ k ih =>
    cases hq : q[k]? with
    | none => rw [List.take_of_length_le (by have := List.getElem?_eq_none_iff.1 hq; omega)] at ih ⊢; exact ih
    | some a =>
      obtain ⟨x, p⟩ := a
      rw [take_snoc hq, List.foldl_append]
      generalize List.foldl durF 0 (q.take k) = n at ih ⊢
      show 0 ≤ durF _ _ ∧ durF _ _ ≤ 460
      obtain ⟨_, hok, hon⟩ := h.at_ k x p hq
      have h1 := hok.day
      have h2 := hok.days
      have := imax_bound (N := 460) ih.1 ih.2 (show 0 ≤ endP x p by unfold endP; omega) (show endP x p ≤ 460 by unfold endP; omega)
      unfold durF
      simpa [hon] using this
theorem durQ_bd {w : SWork} {q : List (SItem × SPl)} (h : QOk w q) : 0 ≤ durQ q ∧ durQ q ≤ 460 := by
  have := durQ_bound h q.length
  rwa [List.take_length] at this
theorem QOk.of_full {w : SWork} {l : List SPl} (hv : Well w) (hf : Full w l) : QOk w (prs w l) := by
  refine ⟨?_, fun k x p h => ?_⟩
  · have := hv.n40
    simp only [prs, List.length_zip]
    omega
  · rw [prs, List.getElem?_zip_eq_some] at h
    exact ⟨List.mem_of_getElem? h.1, hf.at_ h.1 h.2, hf.on k p h.2⟩
theorem qS_prs (w : SWork) (l : List SPl) : qS (prs w l) = srt w l := rfl

theorem days_ref (w : SWork) (hw : Sane w) (hv : Well w) (q : List (SItem × SPl)) (hq : QOk w q) : Ret Try.prog .shared 95 [.agg (eWork w), .sl ((qS q).map eSlot)] (I (durQ q)) := by
  have hn := hq.len
  have hsl := qS_len q
  have hml : (((qS q).map eSlot).length : Int) = q.length := by simp [hsl]
  refine Ret.of_pwp layOk mixed Go.Proofs.Try.func95 rfl (by decide) rfl rfl ?_
  repeat (first|refine pq_end rfl ?_|(refine zs rfl ?_ ?_;·repeat' constructor)|(refine zq rfl ?_ ?_;·repeat' constructor)|refine zw rfl ?_|refine zx rfl ?_|refine zb rfl ?_)
  refine pw_loop (fun k => k ≤ q.length) (fun k => [(1, .sl ((qS q).map eSlot)), (2, .ptr 2 1 0 0), (5, I ((q.take k).foldl durF 0)), (6, I k)]) (fun _ => [(2, 1, ⟨28, 9, [eWork w], 2⟩)]) (fun k => q.length - k) 0 (Nat.zero_le _) ⟨rfl, rfl, rfl, rfl, rfl, trivial⟩ ?_
  intro k s hk
  repeat (first|refine pq_end rfl ?_|(refine zs rfl ?_ ?_;·repeat' constructor)|(refine zq rfl ?_ ?_;·repeat' constructor)|refine zw rfl ?_|refine zx rfl ?_|refine zb rfl ?_)
  refine pw_cond rfl (fun h => ?_) (fun h => ?_)
  · have hlt : k < q.length := by have := of_decide_eq_true h; omega
    obtain ⟨⟨x, p⟩, hp⟩ := get_lt hlt
    clear h
    have hb := durQ_bound hq k
    have hs := take_snoc hp
    obtain ⟨_, hok, hon⟩ := hq.at_ k x p hp
    have hsk := qS_at hp
    repeat (first|refine pq_end rfl ?_|(refine zs rfl ?_ ?_;·repeat' constructor)|(refine zq rfl ?_ ?_;·repeat' constructor)|refine zw rfl ?_|refine zx rfl ?_|refine zb rfl ?_)
    refine pw_draw 8 [13, 14, 15, 16, 17, 18, 19, 20] (by decide +kernel) ?_
    repeat (first|refine pq_end rfl ?_|(refine zs rfl ?_ ?_;·repeat' constructor)|(refine zq rfl ?_ ?_;·repeat' constructor)|refine zw rfl ?_|refine zx rfl ?_|refine zb rfl ?_)
    (first|refine zsq rfl (q_idxm rfl rfl rfl rfl rfl (by omega) hsk rfl) ?_|refine zqq rfl (q_idxm rfl rfl rfl rfl rfl (by omega) hsk rfl) ?_)
    repeat (first|refine pq_end rfl ?_|(refine zs rfl ?_ ?_;·repeat' constructor)|(refine zq rfl ?_ ?_;·repeat' constructor)|refine zw rfl ?_|refine zx rfl ?_|refine zb rfl ?_)
    (first|refine zsq rfl (q_callP rfl (end_ref w hw _ (hq.slotAt hv hp)) rfl (by repeat' constructor) rfl rfl) ?_|refine zqq rfl (q_callP rfl (end_ref w hw _ (hq.slotAt hv hp)) rfl (by repeat' constructor) rfl rfl) ?_)
    repeat (first|refine pq_end rfl ?_|(refine zs rfl ?_ ?_;·repeat' constructor)|(refine zq rfl ?_ ?_;·repeat' constructor)|refine zw rfl ?_|refine zx rfl ?_|refine zb rfl ?_)
    refine ⟨k + 1, hlt, by omega, rfl, rfl, ?_, ?_, rfl, trivial⟩
    · rw [hs, List.foldl_append]
      show _ = I (durF _ _)
      rw [durF, hon, if_pos rfl, imax]
      rfl
    · exact i64_next (by omega) (by omega)
  · have hge : k = q.length := by have := of_decide_eq_false h; omega
    subst hge
    repeat (first|refine pq_end rfl ?_|(refine zs rfl ?_ ?_;·repeat' constructor)|(refine zq rfl ?_ ?_;·repeat' constructor)|refine zw rfl ?_|refine zx rfl ?_|refine zb rfl ?_)
    refine end1i rfl rfl ?_
    rw [List.take_length]
    rfl
end Go.Pv

/- People by days: the reference's list and the program's map say the same. -/
set_option maxHeartbeats 2000000
namespace Go.Pv
attribute [local irreducible] PWP POps PQuiet PSem XThen XBlock RetPost InlPost
open Go.Proofs

theorem le_imax {a b : Int} : a ≤ imax a b ∧ b ≤ imax a b := by unfold imax; split <;> omega
theorem imax_le {a b B : Int} : imax a b ≤ B ↔ a ≤ B ∧ b ≤ B := by unfold imax; split <;> omega
theorem fold_le {α : Type} (f : α → Int) : ∀ (l : List α) (s B : Int), l.foldl (fun n x => imax n (f x)) s ≤ B ↔ s ≤ B ∧ ∀ x ∈ l, f x ≤ B
  | [], s, B => by simp
  | a :: l, s, B => by
    rw [List.foldl_cons, fold_le f l, imax_le]
    constructor
    · rintro ⟨⟨h1, h2⟩, h3⟩
      exact ⟨h1, fun x hx => by rcases List.mem_cons.1 hx with rfl | hx; · exact h2
                                · exact h3 x hx⟩
    · rintro ⟨h1, h2⟩
      exact ⟨⟨h1, h2 a (by simp)⟩, fun x hx => h2 x (by simp [hx])⟩
theorem durF_ge : ∀ (l : List (SItem × SPl)) (n : Int), n ≤ l.foldl durF n ∧ ∀ q ∈ l, q.2.on = true → endP q.1 q.2 ≤ l.foldl durF n
  | [], n => by simp
  | a :: l, n => by
    rw [List.foldl_cons]
    have ih := durF_ge l (durF n a)
    have h0 : n ≤ durF n a := by unfold durF; split
                                 · exact le_imax.1
                                 · exact Int.le_refl _
    refine ⟨Int.le_trans h0 ih.1, fun q hq hon => ?_⟩
    rcases List.mem_cons.1 hq with rfl | hq
    · refine Int.le_trans ?_ ih.1
      rw [durF, if_pos hon]; exact le_imax.2
    · exact ih.2 q hq hon
theorem end_le {w : SWork} {l : List SPl} (hf : Full w l) {k : Nat} {x : SItem} {p : SPl} (hx : w.items[k]? = some x) (hp : l[k]? = some p) : endP x p ≤ durP w l :=
  (durF_ge (prs w l) 0).2 (x, p) (List.mem_of_getElem? (prs_at hx hp)) (hf.on k p hp)

def bumpL (a : List Int) (d : Nat) (c : Int) : List Int := a.set d (a.getD d 0 + c)
def spanL (a : List Int) (d : Nat) (c : Int) (j : Nat) : List Int := (List.range j).foldl (fun a i => bumpL a (d + i) c) a
theorem spanL_succ (a : List Int) (d : Nat) (c : Int) (j : Nat) : spanL a d c (j + 1) = bumpL (spanL a d c j) (d + j) c := by
  rw [spanL, List.range_succ, List.foldl_append]; rfl
theorem spanL_len (a : List Int) (d : Nat) (c : Int) (j : Nat) : (spanL a d c j).length = a.length := by
  induction j with
  | zero => rfl
  | succ j ih => rw [spanL_succ, bumpL, List.length_set, ih]
def loadF (t : Str) (a : List Int) (q : SItem × SPl) : List Int := if q.1.trade = t then spanL a q.2.day.toNat (modeAt q.1 q.2.mode).crew (modeAt q.1 q.2.mode).days.toNat else a
def loadK (w : SWork) (l : List SPl) (t : Str) (k : Nat) : List Int := ((prs w l).take k).foldl (loadF t) (List.replicate (durP w l).toNat 0)
def loadA (w : SWork) (l : List SPl) (t : Str) : List Int := (prs w l).foldl (loadF t) (List.replicate (durP w l).toNat 0)
theorem loadF_len (t : Str) (a : List Int) (q : SItem × SPl) : (loadF t a q).length = a.length := by
  unfold loadF; split
  · exact spanL_len _ _ _ _
  · rfl
theorem loadK_succ {w : SWork} {l : List SPl} {t : Str} {k : Nat} {x : SItem} {p : SPl} (hx : w.items[k]? = some x) (hp : l[k]? = some p) : loadK w l t (k + 1) = loadF t (loadK w l t k) (x, p) := by
  rw [loadK, take_snoc (prs_at hx hp), List.foldl_append]; rfl
theorem loadK_len (w : SWork) (l : List SPl) (t : Str) (k : Nat) : (loadK w l t k).length = (durP w l).toNat := by
  unfold loadK
  generalize (prs w l).take k = q
  have : ∀ (q : List (SItem × SPl)) (a : List Int), (q.foldl (loadF t) a).length = a.length := by
    intro q
    induction q with
    | nil => intro a; rfl
    | cons b q ih => intro a; rw [List.foldl_cons, ih, loadF_len]
  rw [this, List.length_replicate]

/-- A map of days and a list of days that say the same. -/
structure Same (m : List (Int × Int)) (a : List Int) : Prop where
  nodup : (m.map (·.1)).Nodup
  keys : ∀ e ∈ m, 0 ≤ e.1 ∧ e.1 < a.length
  get : ∀ d : Nat, d < a.length → aget m d = a.getD d 0
theorem aget_put (m : List (Int × Int)) (k v j : Int) : aget (aput k v m) j = if k = j then v else aget m j := by
  induction m with
  | nil => simp [aput, aget]
  | cons e m ih =>
    obtain ⟨d, c⟩ := e
    unfold aput
    by_cases hd : d = k
    · rw [if_pos hd]
      subst hd
      unfold aget
      by_cases hj : d = j
      · rw [if_pos hj, if_pos hj]
      · rw [if_neg hj, if_neg hj, if_neg hj]
    · rw [if_neg hd]
      unfold aget
      by_cases hj : d = j
      · rw [if_pos hj, if_pos hj, if_neg (by omega)]
      · rw [if_neg hj, if_neg hj, ih]
theorem aput_keys (m : List (Int × Int)) (k v : Int) : ∀ x, x ∈ (aput k v m).map (·.1) → x = k ∨ x ∈ m.map (·.1) := by
  induction m with
  | nil => intro x hx; simp [aput] at hx; exact .inl hx
  | cons e m ih =>
    obtain ⟨d, c⟩ := e
    intro x hx
    unfold aput at hx
    by_cases hd : d = k
    · rw [if_pos hd] at hx
      exact .inr hx
    · rw [if_neg hd, List.map_cons, List.mem_cons] at hx
      rcases hx with rfl | hx
      · exact .inr (by simp)
      · rcases ih x hx with h | h
        · exact .inl h
        · exact .inr (by rw [List.map_cons, List.mem_cons]; exact .inr h)
theorem aput_nodup (m : List (Int × Int)) (k v : Int) (h : (m.map (·.1)).Nodup) : ((aput k v m).map (·.1)).Nodup := by
  induction m with
  | nil => simp [aput]
  | cons e m ih =>
    obtain ⟨d, c⟩ := e
    rw [List.map_cons, List.nodup_cons] at h
    unfold aput
    by_cases hd : d = k
    · rw [if_pos hd, List.map_cons, List.nodup_cons]; exact h
    · rw [if_neg hd, List.map_cons, List.nodup_cons]
      refine ⟨fun hx => ?_, ih h.2⟩
      rcases aput_keys m k v d hx with h1 | h1
      · exact hd h1
      · exact h.1 h1
theorem Same.add {m : List (Int × Int)} {a : List Int} (h : Same m a) {d : Nat} (hd : d < a.length) (c : Int) : Same (addM m d c) (bumpL a d c) := by
  refine ⟨aput_nodup _ _ _ h.nodup, fun e he => ?_, fun j hj => ?_⟩
  · rw [bumpL, List.length_set]
    rcases aput_keys m d _ e.1 (List.mem_map.2 ⟨e, he, rfl⟩) with h1 | h1
    · omega
    · obtain ⟨e', he', hk⟩ := List.mem_map.1 h1
      have := h.keys e' he'
      omega
  · rw [bumpL, List.length_set] at hj
    rw [addM, aget_put, bumpL, List.getD_eq_getElem?_getD]
    by_cases hjd : (d : Int) = j
    · have : d = j := by omega
      subst this
      rw [if_pos rfl, List.getElem?_set_self hd, h.get d hd]; rfl
    · rw [if_neg hjd, List.getElem?_set_ne (by omega), h.get j hj, List.getD_eq_getElem?_getD]
theorem Same.span {m : List (Int × Int)} {a : List Int} (h : Same m a) {d : Nat} (c : Int) : ∀ j : Nat, d + j ≤ a.length → Same (pplJ m d c j) (spanL a d c j)
  | 0, _ => h
  | j + 1, hj => by
    have ih := Same.span h (d := d) c j (by omega)
    rw [pplJ_succ, spanL_succ]
    have := ih.add (d := d + j) (by rw [spanL_len]; omega) c
    rw [Int.natCast_add] at this
    exact this
theorem same_K {w : SWork} {l : List SPl} (hf : Full w l) (t : Str) (k : Nat) (hk : k ≤ w.items.length) : Same (peopleK w l t k) (loadK w l t k) := by
  induction k with
  | zero =>
    refine ⟨by simp [peopleK], fun e he => by simp [peopleK] at he, fun d hd => ?_⟩
    have h0 : loadK w l t 0 = List.replicate (durP w l).toNat 0 := rfl
    rw [h0, List.getD_eq_getElem?_getD, List.getElem?_replicate]
    show (0 : Int) = _
    split <;> rfl
  | succ k ih =>
    have ih := ih (by omega)
    have hl := hf.len
    obtain ⟨x, hx⟩ := get_lt (show k < w.items.length by omega)
    obtain ⟨p, hp⟩ := get_lt (show k < l.length by omega)
    have hon := hf.on k p hp
    have hok := hf.at_ hx hp
    have h1 := hok.day
    have h2 := hok.days
    have he := end_le hf hx hp
    rw [peopleK_succ hx hp, loadK_succ hx hp]
    unfold peopleF loadF
    show Same (if p.on && decide (x.trade = t) then _ else _) (if x.trade = t then _ else _)
    rw [hon, Bool.true_and]
    by_cases ht : x.trade = t
    · rw [if_pos (decide_eq_true ht), if_pos ht]
      have := ih.span (d := p.day.toNat) (modeAt x p.mode).crew (modeAt x p.mode).days.toNat (by rw [loadK_len]; unfold endP at he; omega)
      rw [Int.toNat_of_nonneg h1.1] at this
      exact this
    · rw [if_neg (by simpa using ht), if_neg ht]
      exact ih
theorem prs_len {w : SWork} {l : List SPl} (h : Plan w l) : (prs w l).length = w.items.length := by simp [prs, h.len]
theorem same_A {w : SWork} {l : List SPl} (hf : Full w l) (t : Str) : Same (peopleP w l t) (loadA w l t) := by
  have := same_K hf t w.items.length (Nat.le_refl _)
  rwa [peopleK, loadK, List.take_of_length_le (by rw [prs_len hf.toPlan]; omega)] at this
theorem aget_mem (m : List (Int × Int)) (k : Int) : aget m k = 0 ∨ ∃ e ∈ m, e.2 = aget m k := by
  induction m with
  | nil => exact .inl rfl
  | cons e m ih =>
    obtain ⟨d, c⟩ := e
    unfold aget
    split
    · exact .inr ⟨(d, c), by simp, rfl⟩
    · rcases ih with h | ⟨e, he, h⟩
      · exact .inl h
      · exact .inr ⟨e, by simp [he], h⟩
theorem aget_of (m : List (Int × Int)) (hn : (m.map (·.1)).Nodup) : ∀ e ∈ m, aget m e.1 = e.2 := by
  induction m with
  | nil => intro e he; cases he
  | cons a m ih =>
    obtain ⟨d, c⟩ := a
    rw [List.map_cons, List.nodup_cons] at hn
    intro e he
    unfold aget
    rcases List.mem_cons.1 he with rfl | he
    · rw [if_pos rfl]
    · rw [if_neg fun h => hn.1 (List.mem_map.2 ⟨e, he, h.symm⟩)]
      exact ih hn.2 e he
theorem most_eq {m : List (Int × Int)} {a : List Int} (h : Same m a) : mostP m = a.foldl imax 0 := by
  have h1 : ∀ B, mostP m ≤ B ↔ 0 ≤ B ∧ ∀ e ∈ m, e.2 ≤ B := fun B => fold_le (fun e : Int × Int => e.2) m 0 B
  have h2 : ∀ B, a.foldl imax 0 ≤ B ↔ 0 ≤ B ∧ ∀ x ∈ a, x ≤ B := fun B => fold_le (fun x : Int => x) a 0 B
  have h3 : ∀ B : Int, (∀ e ∈ m, e.2 ≤ B) ∧ 0 ≤ B ↔ (∀ x ∈ a, x ≤ B) ∧ 0 ≤ B := fun B => by
    constructor
    · rintro ⟨g1, g2⟩
      refine ⟨fun x hx => ?_, g2⟩
      obtain ⟨d, hd, rfl⟩ := List.getElem_of_mem hx
      have := h.get d hd
      rw [List.getD_eq_getElem?_getD, List.getElem?_eq_getElem hd] at this
      rcases aget_mem m d with g3 | ⟨e, he, g3⟩
      · rw [g3] at this
        show a[d] ≤ B
        have h0 : (0 : Int) = a[d] := this
        omega
      · have := g1 e he
        have h0 : aget m d = a[d] := ‹aget m d = _›
        omega
    · rintro ⟨g1, g2⟩
      refine ⟨fun e he => ?_, g2⟩
      have hk := h.keys e he
      have hg := h.get e.1.toNat (by omega)
      rw [Int.toNat_of_nonneg hk.1, aget_of m h.nodup e he, List.getD_eq_getElem?_getD, List.getElem?_eq_getElem (by omega)] at hg
      have := g1 _ (List.getElem_mem (show e.1.toNat < a.length by omega))
      have h0 : e.2 = a[e.1.toNat]'(by omega) := hg
      omega
  apply Int.le_antisymm
  · rw [h1, and_comm, h3, and_comm, ← h2]; exact Int.le_refl _
  · rw [h2, and_comm, ← h3, and_comm, ← h1]; exact Int.le_refl _
end Go.Pv

/- The reference's load of a trade, for slots in any order. -/
set_option maxHeartbeats 2000000
namespace Go.Pv
attribute [local irreducible] PWP POps PQuiet PSem XThen XBlock RetPost InlPost
open Go.Proofs

def BndL (a : List Int) (B : Int) : Prop := ∀ v ∈ a, 0 ≤ v ∧ v ≤ B
theorem BndL.get {a : List Int} {B : Int} (h : BndL a B) {d : Nat} (hd : d < a.length) : 0 ≤ a.getD d 0 ∧ a.getD d 0 ≤ B := by
  rw [List.getD_eq_getElem?_getD, List.getElem?_eq_getElem hd]
  exact h _ (List.getElem_mem hd)
theorem BndL.mono {a : List Int} {B B' : Int} (h : BndL a B) (hB : B ≤ B') : BndL a B' := fun v hv => ⟨(h v hv).1, Int.le_trans (h v hv).2 hB⟩
theorem BndL.bump {a : List Int} {B : Int} (h : BndL a B) {d : Nat} (hd : d < a.length) {c : Int} (hc : 0 ≤ c ∧ c ≤ 1000) : BndL (bumpL a d c) (B + 1000) := by
  intro v hv
  have := h.get hd
  rcases List.mem_or_eq_of_mem_set hv with h1 | rfl
  · have := h v h1; omega
  · omega
theorem BndL.span {a : List Int} {B : Int} (h : BndL a B) {d : Nat} {c : Int} (hc : 0 ≤ c ∧ c ≤ 1000) : ∀ j : Nat, d + j ≤ a.length → BndL (spanL a d c j) (B + 1000 * j)
  | 0, _ => by
    have : spanL a d c 0 = a := rfl
    rw [this]
    exact h.mono (by omega)
  | j + 1, hj => by
    have ih := BndL.span h (d := d) hc j (by omega)
    rw [spanL_succ]
    exact (ih.bump (d := d + j) (by rw [spanL_len]; omega) hc).mono (by omega)
def loadQK (q : List (SItem × SPl)) (t : Str) (k : Nat) : List Int := (q.take k).foldl (loadF t) (List.replicate (durQ q).toNat 0)
def loadQ (q : List (SItem × SPl)) (t : Str) : List Int := q.foldl (loadF t) (List.replicate (durQ q).toNat 0)
theorem loadQK_all (q : List (SItem × SPl)) (t : Str) : loadQK q t q.length = loadQ q t := by rw [loadQK, List.take_length]; rfl
theorem loadQ_prs (w : SWork) (l : List SPl) (t : Str) : loadQ (prs w l) t = loadA w l t := rfl
theorem loadQK_succ {q : List (SItem × SPl)} {t : Str} {k : Nat} {x : SItem} {p : SPl} (hk : q[k]? = some (x, p)) : loadQK q t (k + 1) = loadF t (loadQK q t k) (x, p) := by
  rw [loadQK, take_snoc hk, List.foldl_append]; rfl
theorem loadFold_len (t : Str) (q : List (SItem × SPl)) (a : List Int) : (q.foldl (loadF t) a).length = a.length := by
  induction q generalizing a with
  | nil => rfl
  | cons b q ih => rw [List.foldl_cons, ih, loadF_len]
theorem loadQK_len (q : List (SItem × SPl)) (t : Str) (k : Nat) : (loadQK q t k).length = (durQ q).toNat := by
  rw [loadQK, loadFold_len, List.length_replicate]
theorem loadQ_len (q : List (SItem × SPl)) (t : Str) : (loadQ q t).length = (durQ q).toNat := by
  rw [loadQ, loadFold_len, List.length_replicate]
theorem endQ_le {w : SWork} {q : List (SItem × SPl)} (h : QOk w q) {k : Nat} {x : SItem} {p : SPl} (hk : q[k]? = some (x, p)) : endP x p ≤ durQ q :=
  (durF_ge q 0).2 (x, p) (List.mem_of_getElem? hk) (h.at_ k x p hk).2.2
theorem loadQK_bound {w : SWork} {q : List (SItem × SPl)} (h : QOk w q) (t : Str) (k : Nat) (hk : k ≤ q.length) : BndL (loadQK q t k) (60000 * k) := by
  induction k with
  | zero =>
    intro v hv
    have h0 : loadQK q t 0 = List.replicate (durQ q).toNat 0 := rfl
    rw [h0] at hv
    have := List.eq_of_mem_replicate hv
    omega
  | succ k ih =>
    have ih := ih (by omega)
    obtain ⟨⟨x, p⟩, hq⟩ := get_lt (show k < q.length by omega)
    obtain ⟨_, hok, _⟩ := h.at_ k x p hq
    have h1 := hok.day
    have h2 := hok.days
    have he := endQ_le h hq
    unfold endP at he
    rw [loadQK_succ hq]
    unfold loadF
    split
    · exact (ih.span (d := p.day.toNat) hok.crew (modeAt x p.mode).days.toNat (by rw [loadQK_len]; omega)).mono (by omega)
    · exact ih.mono (by omega)

set_option maxRecDepth 20000 in
theorem load_ref (w : SWork) (hw : Sane w) (hv : Well w) (q : List (SItem × SPl)) (hq : QOk w q) (t : Str) : Ret Try.prog .shared 54 [.agg (eWork w), .sl ((qS q).map eSlot), .str t] (.sl ((loadQ q t).map eI)) := by
  have hn := hq.len
  have hsl := qS_len q
  have hdb := durQ_bd hq
  have hml : (((qS q).map eSlot).length : Int) = q.length := by simp [hsl]
  have hall := loadQK_all q t
  refine Ret.of_pwp layOk mixed Go.Proofs.Try.func54 rfl (by decide) rfl rfl ?_
  repeat (first|refine pq_end rfl ?_|(refine zs rfl ?_ ?_;·repeat' constructor)|(refine zq rfl ?_ ?_;·repeat' constructor)|refine zw rfl ?_|refine zx rfl ?_|refine zb rfl ?_)
  (first|refine zsq rfl (q_callP rfl (days_ref w hw hv q hq) rfl (by repeat' constructor) rfl rfl) ?_|refine zqq rfl (q_callP rfl (days_ref w hw hv q hq) rfl (by repeat' constructor) rfl rfl) ?_)
  repeat (first|refine pq_end rfl ?_|(refine zs rfl ?_ ?_;·repeat' constructor)|(refine zq rfl ?_ ?_;·repeat' constructor)|refine zw rfl ?_|refine zx rfl ?_|refine zb rfl ?_)
  refine ps_run (o_make rfl rfl rfl rfl rfl rfl rfl rfl (by omega) (by show ((8 : Nat) : Int) * _ ≤ _; omega) (by omega) ?_)
  repeat (first|refine pq_end rfl ?_|(refine zs rfl ?_ ?_;·repeat' constructor)|(refine zq rfl ?_ ?_;·repeat' constructor)|refine zw rfl ?_|refine zx rfl ?_|refine zb rfl ?_)
  refine pw_loop (fun k => k ≤ q.length) (fun k => [(1, .sl ((qS q).map eSlot)), (2, .str t), (3, .ptr 3 1 0 0), (7, .als 13 1 0 (durQ q).toNat), (8, I k)])
    (fun k => [(3, 1, ⟨28, 9, [eWork w], 2⟩), (13, 1, ⟨3, 1, (loadQK q t k).map eI, 0⟩)]) (fun k => q.length - k) 0 (Nat.zero_le _) ⟨rfl, rfl, rfl, ?_, rfl, rfl, ?_, trivial⟩ ?_
  · show PV.als 13 1 0 (List.replicate (durQ q).toNat [I 0]).length = _
    rw [List.length_replicate]
  · show (1, some (Cont.mk 3 1 (List.replicate (durQ q).toNat [I 0]) 0)) = (1, some (Cont.mk 3 1 ((List.replicate (durQ q).toNat 0).map eI) 0))
    rw [List.map_replicate]; rfl
  intro k s hk
  repeat (first|refine pq_end rfl ?_|(refine zs rfl ?_ ?_;·repeat' constructor)|(refine zq rfl ?_ ?_;·repeat' constructor)|refine zw rfl ?_|refine zx rfl ?_|refine zb rfl ?_)
  refine pw_cond rfl (fun h => ?_) (fun h => ?_)
  · have hlt : k < q.length := by have := of_decide_eq_true h; omega
    obtain ⟨⟨x, p⟩, hp⟩ := get_lt hlt
    clear h
    have hsk := qS_at hp
    have hsa := hq.slotAt hv hp
    obtain ⟨_, hok, _⟩ := hq.at_ k x p hp
    have h1 := hok.day
    have h2 := hok.days
    have h3 := hok.crew
    have hle := endQ_le hq hp
    have hbm := loadQK_bound hq t k hk
    have hKl := loadQK_len q t k
    unfold endP at hle
    repeat (first|refine pq_end rfl ?_|(refine zs rfl ?_ ?_;·repeat' constructor)|(refine zq rfl ?_ ?_;·repeat' constructor)|refine zw rfl ?_|refine zx rfl ?_|refine zb rfl ?_)
    refine pw_draw 9 [20, 21, 22, 23, 24, 25, 26, 27, 28] (by decide +kernel) ?_
    repeat (first|refine pq_end rfl ?_|(refine zs rfl ?_ ?_;·repeat' constructor)|(refine zq rfl ?_ ?_;·repeat' constructor)|refine zw rfl ?_|refine zx rfl ?_|refine zb rfl ?_)
    (first|refine zsq rfl (q_idxm rfl rfl rfl rfl rfl (by omega) hsk rfl) ?_|refine zqq rfl (q_idxm rfl rfl rfl rfl rfl (by omega) hsk rfl) ?_)
    repeat (first|refine pq_end rfl ?_|(refine zs rfl ?_ ?_;·repeat' constructor)|(refine zq rfl ?_ ?_;·repeat' constructor)|refine zw rfl ?_|refine zx rfl ?_|refine zb rfl ?_)
    (first|refine zsq rfl (q_call rfl (item_ref w hw _ hsa) rfl (by repeat' constructor) rfl) ?_|refine zqq rfl (q_call rfl (item_ref w hw _ hsa) rfl (by repeat' constructor) rfl) ?_)
    repeat (first|refine pq_end rfl ?_|(refine zs rfl ?_ ?_;·repeat' constructor)|(refine zq rfl ?_ ?_;·repeat' constructor)|refine zw rfl ?_|refine zx rfl ?_|refine zb rfl ?_)
    refine pw_cond rfl (fun h => ?_) (fun h => ?_)
    · have ht : ¬ x.trade = t := by simpa using h
      clear h
      repeat (first|refine pq_end rfl ?_|(refine zs rfl ?_ ?_;·repeat' constructor)|(refine zq rfl ?_ ?_;·repeat' constructor)|refine zw rfl ?_|refine zx rfl ?_|refine zb rfl ?_)
      refine ⟨k + 1, hlt, by omega, rfl, rfl, rfl, rfl, i64_next (by omega) (by omega), rfl, ?_, trivial⟩
      rw [loadQK_succ hp, loadF, if_neg ht]; rfl
    · have ht : x.trade = t := by simpa using h
      clear h
      repeat (first|refine pq_end rfl ?_|(refine zs rfl ?_ ?_;·repeat' constructor)|(refine zq rfl ?_ ?_;·repeat' constructor)|refine zw rfl ?_|refine zx rfl ?_|refine zb rfl ?_)
      (first|refine zsq rfl (q_idxm rfl rfl rfl rfl rfl (by omega) hsk rfl) ?_|refine zqq rfl (q_idxm rfl rfl rfl rfl rfl (by omega) hsk rfl) ?_)
      repeat (first|refine pq_end rfl ?_|(refine zs rfl ?_ ?_;·repeat' constructor)|(refine zq rfl ?_ ?_;·repeat' constructor)|refine zw rfl ?_|refine zx rfl ?_|refine zb rfl ?_)
      refine pw_loop (fun j => j ≤ (modeAt x p.mode).days.toNat) (fun j => [(1, .sl ((qS q).map eSlot)), (2, .str t), (3, .ptr 3 1 0 0), (7, .als 13 1 0 (durQ q).toNat), (8, I k), (9, I (p.day + j))])
        (fun j => [(3, 1, ⟨28, 9, [eWork w], 2⟩), (13, 1, ⟨3, 1, (spanL (loadQK q t k) p.day.toNat (modeAt x p.mode).crew j).map eI, 0⟩)]) (fun j => (modeAt x p.mode).days.toNat - j) 0 (Nat.zero_le _) ⟨rfl, rfl, rfl, rfl, rfl, ?_, rfl, rfl, trivial⟩ ?_
      · show I p.day = I (p.day + ((0 : Nat) : Int))
        congr 1
        omega
      intro j s2 hj
      have hbj := hbm.span (d := p.day.toNat) h3 j (by omega)
      have hlj := spanL_len (loadQK q t k) p.day.toNat (modeAt x p.mode).crew j
      repeat (first|refine pq_end rfl ?_|(refine zs rfl ?_ ?_;·repeat' constructor)|(refine zq rfl ?_ ?_;·repeat' constructor)|refine zw rfl ?_|refine zx rfl ?_|refine zb rfl ?_)
      refine pw_draw 8 [34, 35, 36, 37, 38, 39, 40, 41] (by decide +kernel) ?_
      repeat (first|refine pq_end rfl ?_|(refine zs rfl ?_ ?_;·repeat' constructor)|(refine zq rfl ?_ ?_;·repeat' constructor)|refine zw rfl ?_|refine zx rfl ?_|refine zb rfl ?_)
      (first|refine zsq rfl (q_idxm rfl rfl rfl rfl rfl (by omega) hsk rfl) ?_|refine zqq rfl (q_idxm rfl rfl rfl rfl rfl (by omega) hsk rfl) ?_)
      repeat (first|refine pq_end rfl ?_|(refine zs rfl ?_ ?_;·repeat' constructor)|(refine zq rfl ?_ ?_;·repeat' constructor)|refine zw rfl ?_|refine zx rfl ?_|refine zb rfl ?_)
      (first|refine zsq rfl (q_callP rfl (end_ref w hw _ hsa) rfl (by repeat' constructor) rfl rfl) ?_|refine zqq rfl (q_callP rfl (end_ref w hw _ hsa) rfl (by repeat' constructor) rfl rfl) ?_)
      repeat (first|refine pq_end rfl ?_|(refine zs rfl ?_ ?_;·repeat' constructor)|(refine zq rfl ?_ ?_;·repeat' constructor)|refine zw rfl ?_|refine zx rfl ?_|refine zb rfl ?_)
      refine pw_cond rfl (fun h => ?_) (fun h => ?_)
      · have hlj' : p.day + (j : Int) < p.day + (modeAt x p.mode).days := of_decide_eq_true h
        clear h
        have hd : p.day.toNat + j < (spanL (loadQK q t k) p.day.toNat (modeAt x p.mode).crew j).length := by omega
        have hvb := hbj.get hd
        have hsucc := spanL_succ (loadQK q t k) p.day.toNat (modeAt x p.mode).crew j
        generalize hA : spanL (loadQK q t k) p.day.toNat (modeAt x p.mode).crew j = A at *
        have hdn : (p.day + (j : Int)).toNat = p.day.toNat + j := by omega
        have hrow : (A.map eI)[0 + (p.day + (j : Int)).toNat]? = some (eI (A.getD (p.day.toNat + j) 0)) := by
          rw [Nat.zero_add, hdn, List.getElem?_map, List.getD_eq_getElem?_getD, List.getElem?_eq_getElem hd]; rfl
        rw [bumpL] at hsucc
        generalize hV : A.getD (p.day.toNat + j) 0 = v at *
        repeat (first|refine pq_end rfl ?_|(refine zs rfl ?_ ?_;·repeat' constructor)|(refine zq rfl ?_ ?_;·repeat' constructor)|refine zw rfl ?_|refine zx rfl ?_|refine zb rfl ?_)
        refine pw_draw 15 [44, 45, 46, 47, 48, 49, 50, 51, 52, 53, 54, 55, 56, 57, 58] (by decide +kernel) ?_
        repeat (first|refine pq_end rfl ?_|(refine zs rfl ?_ ?_;·repeat' constructor)|(refine zq rfl ?_ ?_;·repeat' constructor)|refine zw rfl ?_|refine zx rfl ?_|refine zb rfl ?_)
        refine zqq rfl (q_idxA rfl rfl rfl rfl rfl rfl rfl (by omega) (by omega)) ?_
        repeat (first|refine pq_end rfl ?_|(refine zs rfl ?_ ?_;·repeat' constructor)|(refine zq rfl ?_ ?_;·repeat' constructor)|refine zw rfl ?_|refine zx rfl ?_|refine zb rfl ?_)
        refine zqq rfl (q_ldp rfl rfl rfl hrow rfl) ?_
        repeat (first|refine pq_end rfl ?_|(refine zs rfl ?_ ?_;·repeat' constructor)|(refine zq rfl ?_ ?_;·repeat' constructor)|refine zw rfl ?_|refine zx rfl ?_|refine zb rfl ?_)
        (first|refine zsq rfl (q_idxm rfl rfl rfl rfl rfl (by omega) hsk rfl) ?_|refine zqq rfl (q_idxm rfl rfl rfl rfl rfl (by omega) hsk rfl) ?_)
        repeat (first|refine pq_end rfl ?_|(refine zs rfl ?_ ?_;·repeat' constructor)|(refine zq rfl ?_ ?_;·repeat' constructor)|refine zw rfl ?_|refine zx rfl ?_|refine zb rfl ?_)
        (first|refine zsq rfl (q_call rfl (mode_ref w hw _ hsa) rfl (by repeat' constructor) rfl) ?_|refine zqq rfl (q_call rfl (mode_ref w hw _ hsa) rfl (by repeat' constructor) rfl) ?_)
        repeat (first|refine pq_end rfl ?_|(refine zs rfl ?_ ?_;·repeat' constructor)|(refine zq rfl ?_ ?_;·repeat' constructor)|refine zw rfl ?_|refine zx rfl ?_|refine zb rfl ?_)
        refine zqq rfl (q_idxA rfl rfl rfl rfl rfl rfl rfl (by omega) (by omega)) ?_
        repeat (first|refine pq_end rfl ?_|(refine zs rfl ?_ ?_;·repeat' constructor)|(refine zq rfl ?_ ?_;·repeat' constructor)|refine zw rfl ?_|refine zx rfl ?_|refine zb rfl ?_)
        refine ps_run0 (o_store (kd' := 0) rfl rfl rfl hrow rfl rfl (by repeat' constructor) rfl rfl rfl rfl ?_)
        repeat (first|refine pq_end rfl ?_|(refine zs rfl ?_ ?_;·repeat' constructor)|(refine zq rfl ?_ ?_;·repeat' constructor)|refine zw rfl ?_|refine zx rfl ?_|refine zb rfl ?_)
        refine ⟨j + 1, by omega, by omega, rfl, rfl, rfl, rfl, rfl, ?_, rfl, ?_, trivial⟩
        · show PV.int .i64 (IntKind.i64.wrap (p.day + (j : Int) + 1)) = I (p.day + ((j + 1 : Nat) : Int))
          rw [wrap_i64 (by omega) (by omega)]
          congr 1
          omega
        · rw [hsucc, List.map_set]
          show (1, some (Cont.mk 3 1 ((A.map eI).set (0 + (p.day + (j : Int)).toNat) [I (IntKind.i64.wrap (v + (modeAt x p.mode).crew))]) 0)) = _
          rw [Nat.zero_add, hdn, wrap_i64 (by omega) (by omega)]
          rfl
      · have hge : j = (modeAt x p.mode).days.toNat := by have : ¬ p.day + (j : Int) < p.day + (modeAt x p.mode).days := of_decide_eq_false h
                                                          omega
        subst hge
        clear h
        repeat (first|refine pq_end rfl ?_|(refine zs rfl ?_ ?_;·repeat' constructor)|(refine zq rfl ?_ ?_;·repeat' constructor)|refine zw rfl ?_|refine zx rfl ?_|refine zb rfl ?_)
        refine ⟨k + 1, hlt, by omega, rfl, rfl, rfl, rfl, i64_next (by omega) (by omega), rfl, ?_, trivial⟩
        rw [loadQK_succ hp, loadF, if_pos ht]; rfl
  · have hge : k = q.length := by have := of_decide_eq_false h; omega
    subst hge
    clear h
    rw [hall, show (durQ q).toNat = ((loadQ q t).map eI).length by rw [List.length_map, loadQ_len]]
    repeat (first|refine pq_end rfl ?_|(refine zs rfl ?_ ?_;·repeat' constructor)|(refine zq rfl ?_ ?_;·repeat' constructor)|refine zw rfl ?_|refine zx rfl ?_|refine zb rfl ?_)
    exact end1 rfl rfl rfl ⟨rfl, rfl, rfl⟩ rfl
end Go.Pv

/- The longest chains from each item. -/
set_option maxHeartbeats 2000000
namespace Go.Pv
attribute [local irreducible] PWP POps PQuiet PSem XThen XBlock RetPost InlPost RetPostO
open Go.Proofs

theorem flat_eI (l : List Int) : (l.map eI).all (·.all PV.flat1) = true := by
  induction l with
  | nil => rfl
  | cons a l ih => rw [List.map_cons, List.all_cons, ih]; rfl

theorem ordered_own (w : SWork) (h1 : w.items.length ≤ 100000) (h2 : ∀ x ∈ w.items, x.after.length ≤ 100000) : RetO Try.prog 58 [.agg (eWork w)] 3 1 ((ordS w).map eI) := by
  have hbl : (bef w).length = w.items.length := by simp [bef]
  have hbe : ∀ l ∈ bef w, l.length ≤ 1000000 := fun l hl => by
    obtain ⟨x, hx, rfl⟩ := List.mem_map.1 hl
    have := h2 x hx
    simp [aft]; omega
  have hml : ((bef w).map eL).length = w.items.length := by rw [List.length_map, hbl]
  refine RetO.of_pwp layOk mixed Go.Proofs.Try.func58 rfl (by decide) rfl rfl ?_
  repeat (first|refine pq_end rfl ?_|(refine zs rfl ?_ ?_;·repeat' constructor)|(refine zq rfl ?_ ?_;·repeat' constructor)|refine zw rfl ?_|refine zx rfl ?_|refine zb rfl ?_)
  (first|refine zsq rfl (q_call rfl (before_ret w h1 h2) rfl (by repeat' constructor) rfl) ?_|refine zqq rfl (q_call rfl (before_ret w h1 h2) rfl (by repeat' constructor) rfl) ?_)
  repeat (first|refine pq_end rfl ?_|(refine zs rfl ?_ ?_;·repeat' constructor)|(refine zq rfl ?_ ?_;·repeat' constructor)|refine zw rfl ?_|refine zx rfl ?_|refine zb rfl ?_)
  refine pw_ghost (Ghost.nilcell (k := 42) (k0 := 4) (i := 0) (j := 0) 3 1 0 rfl rfl rfl rfl (row := [.nil]) rfl rfl rfl) ?_
  refine pw_loop (fun out : List Int => out.length ≤ w.items.length ∧ ordS w = orderF ((bef w).length - out.length) (bef w) out) (fun _ => [(1, .ptr 1 1 0 0), (3, .sl ((bef w).map eL)), (4, .ptr 4 1 0 0)])
    (fun out => [(1, 1, ⟨28, 9, [eWork w], 2⟩), (4, 1, ⟨72, 1, [[.als 42 (1 + out.length) 0 (out.map eI).length]], 2⟩), (42, 1 + out.length, ⟨3, 1, out.map eI, 0⟩)]) (fun out => w.items.length - out.length) [] ⟨by simp, rfl⟩ ⟨rfl, rfl, rfl, rfl, rfl, rfl, trivial⟩ ?_
  rintro out s ⟨hol, hos⟩
  have hoe : (out.map eI).length = out.length := by simp
  repeat (first|refine pq_end rfl ?_|(refine zs rfl ?_ ?_;·repeat' constructor)|(refine zq rfl ?_ ?_;·repeat' constructor)|refine zw rfl ?_|refine zx rfl ?_|refine zb rfl ?_)
  refine pw_cond rfl (fun h => ?_) (fun h => ?_)
  · have hlt : out.length < w.items.length := by have := of_decide_eq_true h; omega
    clear h
    repeat (first|refine pq_end rfl ?_|(refine zs rfl ?_ ?_;·repeat' constructor)|(refine zq rfl ?_ ?_;·repeat' constructor)|refine zw rfl ?_|refine zx rfl ?_|refine zb rfl ?_)
    (first|refine zsq rfl (q_callP rfl (indexFL_ret (bef w) 99 [.sl (out.map eI)] (readyB out) (by omega) (fun l hl => ord1_ret out (by omega) l (hbe l hl))) rfl (by repeat' constructor) rfl rfl) ?_|refine zqq rfl (q_callP rfl (indexFL_ret (bef w) 99 [.sl (out.map eI)] (readyB out) (by omega) (fun l hl => ord1_ret out (by omega) l (hbe l hl))) rfl (by repeat' constructor) rfl rfl) ?_)
    repeat (first|refine pq_end rfl ?_|(refine zs rfl ?_ ?_;·repeat' constructor)|(refine zq rfl ?_ ?_;·repeat' constructor)|refine zw rfl ?_|refine zx rfl ?_|refine zb rfl ?_)
    refine pw_loop (fun nx : Int => NextAt (bef w) out nx) (fun nx => [(1, .ptr 1 1 0 0), (3, .sl ((bef w).map eL)), (4, .ptr 4 1 0 0), (5, I nx)])
      (fun _ => [(1, 1, ⟨28, 9, [eWork w], 2⟩), (4, 1, ⟨72, 1, [[.als 42 (1 + out.length) 0 (out.map eI).length]], 2⟩), (42, 1 + out.length, ⟨3, 1, out.map eI, 0⟩)]) (fun nx => if nx < 0 then 0 else ((bef w).length - nx).toNat + 1) _ (.start _ _) ⟨rfl, rfl, rfl, rfl, rfl, rfl, rfl, trivial⟩ ?_
    intro nx s' hnx
    have hb := hnx.lt
    repeat (first|refine pq_end rfl ?_|(refine zs rfl ?_ ?_;·repeat' constructor)|(refine zq rfl ?_ ?_;·repeat' constructor)|refine zw rfl ?_|refine zx rfl ?_|refine zb rfl ?_)
    (first | refine ps_split rfl rfl (fun h => ?_) (fun h => ?_) | refine pq_split rfl rfl (fun h => ?_) (fun h => ?_))
    · have h0 := of_decide_eq_true h
      repeat (first|refine pq_end rfl ?_|(refine zs rfl ?_ ?_;·repeat' constructor)|(refine zq rfl ?_ ?_;·repeat' constructor)|refine zw rfl ?_|refine zx rfl ?_|refine zb rfl ?_)
      (first|refine zsq rfl (q_callP rfl (containsI_ret out nx (by omega)) rfl (by repeat' constructor) rfl rfl) ?_|refine zqq rfl (q_callP rfl (containsI_ret out nx (by omega)) rfl (by repeat' constructor) rfl rfl) ?_)
      repeat (first|refine pq_end rfl ?_|(refine zs rfl ?_ ?_;·repeat' constructor)|(refine zq rfl ?_ ?_;·repeat' constructor)|refine zw rfl ?_|refine zx rfl ?_|refine zb rfl ?_)
      refine pw_cond rfl (fun h => ?_) (fun h => ?_)
      · have hin := h
        clear h
        obtain ⟨i, rfl⟩ : ∃ i : Nat, nx = i := ⟨nx.toNat, by omega⟩
        have hw1 : IntKind.i64.wrap ((i : Int) + 1) = (i + 1 : Nat) := by rw [wrap_i64 (by omega) (by omega)]; omega
        have hst := hnx.step hin
        have hrl := (NextAt.start ((bef w).drop (i + 1)) out).lt
        rw [List.length_drop] at hrl
        repeat (first|refine pq_end rfl ?_|(refine zs rfl ?_ ?_;·repeat' constructor)|(refine zq rfl ?_ ?_;·repeat' constructor)|refine zw rfl ?_|refine zx rfl ?_|refine zb rfl ?_)
        rw [hw1]
        refine ps_q (q_slcm rfl rfl rfl rfl rfl (by omega) (by omega) (fun _ => rfl)) ?_
        rw [Int.toNat_natCast]
        repeat (first|refine pq_end rfl ?_|(refine zs rfl ?_ ?_;·repeat' constructor)|(refine zq rfl ?_ ?_;·repeat' constructor)|refine zw rfl ?_|refine zx rfl ?_|refine zb rfl ?_)
        (first|refine zsq rfl (q_callP rfl (indexFL_ret ((bef w).drop (i + 1)) 103 [.sl (out.map eI)] (readyB out) (by rw [List.length_drop]; omega) (fun l hl => ord2_ret out (by omega) l (hbe l (List.mem_of_mem_drop hl)))) rfl (by repeat' constructor) rfl rfl) ?_|refine zqq rfl (q_callP rfl (indexFL_ret ((bef w).drop (i + 1)) 103 [.sl (out.map eI)] (readyB out) (by rw [List.length_drop]; omega) (fun l hl => ord2_ret out (by omega) l (hbe l (List.mem_of_mem_drop hl)))) rfl (by repeat' constructor) rfl rfl) ?_)
        repeat (first|refine pq_end rfl ?_|(refine zs rfl ?_ ?_;·repeat' constructor)|(refine zq rfl ?_ ?_;·repeat' constructor)|refine zw rfl ?_|refine zx rfl ?_|refine zb rfl ?_)
        refine pw_cond rfl (fun h => ?_) (fun h => ?_)
        · have hneg := of_decide_eq_true h
          rw [if_pos hneg] at hst
          repeat (first|refine pq_end rfl ?_|(refine zs rfl ?_ ?_;·repeat' constructor)|(refine zq rfl ?_ ?_;·repeat' constructor)|refine zw rfl ?_|refine zx rfl ?_|refine zb rfl ?_)
          refine ⟨-1, hst, by rw [if_pos (by omega), if_neg (by omega)]; omega, rfl, rfl, rfl, rfl, rfl, rfl, rfl, trivial⟩
        · have hneg := of_decide_eq_false h
          rw [if_neg hneg] at hst
          have hlt2 := hst.lt
          repeat (first|refine pq_end rfl ?_|(refine zs rfl ?_ ?_;·repeat' constructor)|(refine zq rfl ?_ ?_;·repeat' constructor)|refine zw rfl ?_|refine zx rfl ?_|refine zb rfl ?_)
          refine ⟨_, hst, by rw [if_neg (by omega), if_neg (by omega)]; omega, rfl, rfl, rfl, ?_, rfl, rfl, rfl, trivial⟩
          show PV.int .i64 (IntKind.i64.wrap (_ + IntKind.i64.wrap (1 + _))) = _
          rw [wrap_i64 (n := 1 + _) (by omega) (by omega), wrap_i64 (by omega) (by omega)]
      · have hnin := h
        clear h
        have hnext := hnx.done (.inr hnin)
        have hol2 : (out ++ [nx]).length = out.length + 1 := by simp
        have hoapp : (out ++ [nx]).map eI = out.map eI ++ [eI nx] := by rw [List.map_append]; rfl
        repeat (first|refine pq_end rfl ?_|(refine zs rfl ?_ ?_;·repeat' constructor)|(refine zq rfl ?_ ?_;·repeat' constructor)|refine zw rfl ?_|refine zx rfl ?_|refine zb rfl ?_)
        refine pw_cond rfl (fun h => ?_) (fun h => ?_)
        · have := of_decide_eq_true h; omega
        repeat (first|refine pq_end rfl ?_|(refine zs rfl ?_ ?_;·repeat' constructor)|(refine zq rfl ?_ ?_;·repeat' constructor)|refine zw rfl ?_|refine zx rfl ?_|refine zb rfl ?_)
        refine ps_run (o_slit 0 rfl rfl rfl rfl rfl rfl rfl rfl rfl rfl rfl (by repeat' constructor) rfl ?_)
        repeat (first|refine pq_end rfl ?_|(refine zs rfl ?_ ?_;·repeat' constructor)|(refine zq rfl ?_ ?_;·repeat' constructor)|refine zw rfl ?_|refine zx rfl ?_|refine zb rfl ?_)
        refine ps_run (o_app 0 rfl rfl rfl rfl rfl rfl rfl rfl rfl rfl rfl (by repeat' constructor) (by intro row hr; first | (simp at hr; subst hr; rfl) | simp at hr) rfl rfl (by simp; omega) (by simp; omega) ?_)
        repeat (first|refine pq_end rfl ?_|(refine zs rfl ?_ ?_;·repeat' constructor)|(refine zq rfl ?_ ?_;·repeat' constructor)|refine zw rfl ?_|refine zx rfl ?_|refine zb rfl ?_)
        refine ⟨out ++ [nx], ⟨by simp; omega, ?_⟩, by simp; omega, rfl, rfl, rfl, rfl, ?_, ?_, trivial⟩
        · rw [hos, show (bef w).length - out.length = ((bef w).length - (out ++ [nx]).length) + 1 by simp; omega, orderF, hnext, if_neg (by omega)]
        · show (1, some (Cont.mk 72 1 [[PV.als 42 (1 + out.length + 1) 0 (out.map eI ++ [eI nx]).length]] 2)) = _
          rw [hoapp, hol2]; rfl
        · show (1 + out.length + 1, some (Cont.mk 3 1 (out.map eI ++ [eI nx]) 0)) = _
          rw [hoapp, hol2]; rfl
    · have h0 := of_decide_eq_false h
      have hnext := hnx.done (.inl (by omega))
      repeat (first|refine pq_end rfl ?_|(refine zs rfl ?_ ?_;·repeat' constructor)|(refine zq rfl ?_ ?_;·repeat' constructor)|refine zw rfl ?_|refine zx rfl ?_|refine zb rfl ?_)
      refine pw_cond rfl (fun h => ?_) (fun h => ?_)
      · repeat (first|refine pq_end rfl ?_|(refine zs rfl ?_ ?_;·repeat' constructor)|(refine zq rfl ?_ ?_;·repeat' constructor)|refine zw rfl ?_|refine zx rfl ?_|refine zb rfl ?_)
        exact endO rfl rfl rfl rfl (flat_eI _) (by rw [hos, show (bef w).length - out.length = ((bef w).length - out.length - 1) + 1 by omega, orderF, hnext, if_pos (by omega)])
      · have := of_decide_eq_false h; omega
  · have hge : (bef w).length - out.length = 0 := by have := of_decide_eq_false h; omega
    repeat (first|refine pq_end rfl ?_|(refine zs rfl ?_ ?_;·repeat' constructor)|(refine zq rfl ?_ ?_;·repeat' constructor)|refine zw rfl ?_|refine zx rfl ?_|refine zb rfl ?_)
    exact endO rfl rfl rfl rfl (flat_eI _) (by rw [hos, hge]; rfl)
/-! ### A list turned round in place -/
/-- After 'i' swaps. -/
def RevAt (l : List Int) (q : Nat × List Int) : Prop :=
  q.2.length = l.length ∧ q.1 ≤ l.length ∧ ∀ p, p < l.length → q.2[p]? = if p < q.1 ∨ l.length < p + 1 + q.1 then l[l.length - 1 - p]? else l[p]?
theorem RevAt.zero (l : List Int) : RevAt l (0, l) := ⟨rfl, Nat.zero_le _, fun p hp => by rw [if_neg (by omega)]⟩
theorem RevAt.done {l r : List Int} {i : Nat} (h : RevAt l (i, r)) (hi : l.length ≤ 2 * i + 1) : r = l.reverse := by
  obtain ⟨h1, h2, h3⟩ := h
  apply List.ext_getElem?
  intro p
  rcases Nat.lt_or_ge p l.length with hp | hp
  · have := h3 p hp
    simp only at this
    rw [this, List.getElem?_reverse hp]
    split
    · rfl
    · congr 1; omega
  · rw [List.getElem?_eq_none (by simp only at h1; omega), List.getElem?_eq_none (by simp; omega)]
theorem RevAt.step {l r : List Int} {i : Nat} {x y : Int} (h : RevAt l (i, r)) (hi : 2 * i + 1 < l.length) (hx : r[i]? = some x) (hy : r[l.length - 1 - i]? = some y) : RevAt l (i + 1, (r.set i y).set (l.length - 1 - i) x) := by
  obtain ⟨h1, h2, h3⟩ := h
  simp only at h1 h2 h3
  refine ⟨by simpa using h1, by show i + 1 ≤ _; omega, fun p hp => ?_⟩
  show ((r.set i y).set (l.length - 1 - i) x)[p]? = if p < i + 1 ∨ l.length < p + 1 + (i + 1) then _ else _
  have ex := h3 i (by omega)
  have ey := h3 (l.length - 1 - i) (by omega)
  rw [hx, if_neg (by omega)] at ex
  rw [hy, if_neg (by omega)] at ey
  by_cases hp1 : p = l.length - 1 - i
  · subst hp1
    rw [List.getElem?_set_self (by simp; omega), if_pos (by omega), ex]
    congr 1; omega
  · rw [List.getElem?_set_ne (Ne.symm hp1)]
    by_cases hp2 : p = i
    · subst hp2
      rw [List.getElem?_set_self (by omega), if_pos (by omega), ey]
    · rw [List.getElem?_set_ne (Ne.symm hp2), h3 p hp]
      by_cases hc : p < i ∨ l.length < p + 1 + i
      · rw [if_pos hc, if_pos (by omega)]
      · rw [if_neg hc, if_neg (by omega)]

theorem inl_end0 {L : Lay} {fn : Func} {K : St → PV → Prop} {s : St} (h : fn.results.toList = []) (hk : K s (.tup [])) : InlPost L fn K .normal s := by
  unfold InlPost
  exact ⟨[], True, by rw [h]; rfl, trivial, hk⟩

set_option maxRecDepth 20000 in
theorem reverse18 {K : St → Prop} {s : St} {d : Nat} {x : Operand} {tys : Array TypeId} {ty : TypeId} {pos : String} {af : Array Edge} (w : SWork) (R : List (List PV)) (l : List Int) (hl : l.length ≤ 1000000) (hx : s.ev x = .als 18 1 0 (l.map eI).length) (ho : FitO s [(1, 1, ⟨28, 9, [eWork w], 2⟩), (16, 1, ⟨3, 1, R, 0⟩), (18, 1, ⟨3, 1, l.map eI, 0⟩)])
    (hK : ∀ s1 : St, K (({ reg := s.reg, own := (s1.over [] [(1, 1, ⟨28, 9, [eWork w], 2⟩), (16, 1, ⟨3, 1, R, 0⟩), (18, 1, ⟨3, 1, l.reverse.map eI, 0⟩)]).own } : St).putR d (.tup []))) :
    Sm Try.prog lay.get s ⟨some d, .call ⟨.value (.func 124), #[x], tys⟩, ty, pos, af, none⟩ K := by
  have hsub : ∀ (r : List Int), ((r.map eI).length : Int) = r.length := fun r => by simp
  refine sm_inline layOk rfl rfl Try.func124 rfl (by decide) rfl rfl ?_
  have hargs : (([x] : List Operand).map s.ev ++ ([] : List PV)) = [.als 18 1 0 (l.map eI).length] := by simp [hx]
  show PWP _ _ _ _ (callSt s (([x] : List Operand).map s.ev ++ []))
  rw [hargs]
  rw [show callSt s [.als 18 1 0 (l.map eI).length] = callSt (s.over [] [(1, 1, ⟨28, 9, [eWork w], 2⟩), (16, 1, ⟨3, 1, R, 0⟩), (18, 1, ⟨3, 1, l.map eI, 0⟩)]) [.als 18 1 0 (l.map eI).length] by rw [Fit.over (l := []) ho]]
  repeat (first|refine pq_end rfl ?_|(refine zs rfl ?_ ?_;·repeat' constructor)|(refine zq rfl ?_ ?_;·repeat' constructor)|refine zw rfl ?_|refine zx rfl ?_|refine zb rfl ?_)
  refine pw_loop (RevAt l) (fun q => [(0, .als 18 1 0 (l.map eI).length), (2, I q.1), (3, I ((l.length : Int) - 1 - q.1))]) (fun q => [(1, 1, ⟨28, 9, [eWork w], 2⟩), (16, 1, ⟨3, 1, R, 0⟩), (18, 1, ⟨3, 1, q.2.map eI, 0⟩)]) (fun q => l.length - q.1) (0, l) (.zero l) ⟨rfl, rfl, ?_, rfl, rfl, rfl, trivial⟩ ?_
  · show PV.int .i64 (IntKind.i64.wrap (((l.map eI).length : Int) - 1)) = _
    rw [wrap_i64 (by rw [hsub]; omega) (by rw [hsub]; omega), hsub]
    exact congrArg I (by simp)
  rintro ⟨i, r⟩ s1 hr
  have h1 : r.length = l.length := hr.1
  have h2 : i ≤ l.length := hr.2.1
  repeat (first|refine pq_end rfl ?_|(refine zs rfl ?_ ?_;·repeat' constructor)|(refine zq rfl ?_ ?_;·repeat' constructor)|refine zw rfl ?_|refine zx rfl ?_|refine zb rfl ?_)
  refine pw_cond rfl (fun h => ?_) (fun h => ?_)
  · have hlt : 2 * i + 1 < l.length := by have := of_decide_eq_true h; omega
    clear h
    obtain ⟨u, hu⟩ := get_lt (show i < r.length by omega)
    obtain ⟨v, hv⟩ := get_lt (show l.length - 1 - i < r.length by omega)
    have hj : ((l.length : Int) - 1 - i) = ((l.length - 1 - i : Nat) : Int) := by omega
    have hui : (r.map eI)[i]? = some (eI u) := by rw [List.getElem?_map, hu]; rfl
    have hvj : (r.map eI)[l.length - 1 - i]? = some (eI v) := by rw [List.getElem?_map, hv]; rfl
    have hll : (l.map eI).length = l.length := by simp
    repeat (first|refine pq_end rfl ?_|(refine zs rfl ?_ ?_;·repeat' constructor)|(refine zq rfl ?_ ?_;·repeat' constructor)|refine zw rfl ?_|refine zx rfl ?_|refine zb rfl ?_)
    refine pw_draw2 13 0 [14, 15, 16, 17, 18, 19, 20, 21, 22, 23, 24, 25, 26] [2,3] (by decide +kernel) rfl ?_
    repeat (first|refine pq_end rfl ?_|(refine zs rfl ?_ ?_;·repeat' constructor)|(refine zq rfl ?_ ?_;·repeat' constructor)|refine zw rfl ?_|refine zx rfl ?_|refine zb rfl ?_)
    rw [hj]
    refine pq_q (q_idxA rfl rfl rfl rfl rfl rfl rfl (by omega) (by rw [hll]; omega)) ?_
    rw [Int.toNat_natCast, Nat.zero_add (l.length - 1 - i)]
    refine pq_q (q_ldp rfl rfl rfl hvj rfl) ?_
    repeat (first|refine pq_end rfl ?_|(refine zs rfl ?_ ?_;·repeat' constructor)|(refine zq rfl ?_ ?_;·repeat' constructor)|refine zw rfl ?_|refine zx rfl ?_|refine zb rfl ?_)
    refine pq_q (q_idxA rfl rfl rfl rfl rfl rfl rfl (by omega) (by rw [hll]; omega)) ?_
    rw [Int.toNat_natCast, Nat.zero_add i]
    refine pq_q (q_ldp rfl rfl rfl hui rfl) ?_
    repeat (first|refine pq_end rfl ?_|(refine zs rfl ?_ ?_;·repeat' constructor)|(refine zq rfl ?_ ?_;·repeat' constructor)|refine zw rfl ?_|refine zx rfl ?_|refine zb rfl ?_)
    refine pq_q (q_idxA rfl rfl rfl rfl rfl rfl rfl (by omega) (by rw [hll]; omega)) ?_
    rw [Int.toNat_natCast, Nat.zero_add i]
    repeat (first|refine pq_end rfl ?_|(refine zs rfl ?_ ?_;·repeat' constructor)|(refine zq rfl ?_ ?_;·repeat' constructor)|refine zw rfl ?_|refine zx rfl ?_|refine zb rfl ?_)
    refine ps_run0 (o_store (kd' := 0) rfl rfl rfl hui rfl rfl (by repeat' constructor) rfl rfl rfl rfl ?_)
    refine ps_q (q_idxA rfl rfl rfl rfl rfl rfl rfl (by omega) (by rw [hll]; omega)) ?_
    rw [Int.toNat_natCast, Nat.zero_add (l.length - 1 - i)]
    refine ps_run0 (o_store (kd' := 0) rfl rfl rfl (row := eI v) (by
      show ((r.map eI).set i _)[l.length - 1 - i]? = _
      rw [List.getElem?_set_ne (by omega)]; exact hvj) rfl rfl (by repeat' constructor) rfl rfl rfl rfl ?_)
    repeat (first|refine pq_end rfl ?_|(refine zs rfl ?_ ?_;·repeat' constructor)|(refine zq rfl ?_ ?_;·repeat' constructor)|refine zw rfl ?_|refine zx rfl ?_|refine zb rfl ?_)
    refine ⟨(i + 1, (r.set i v).set (l.length - 1 - i) u), hr.step hlt hu hv, by show l.length - (i + 1) < l.length - i; omega, rfl, ?_, ?_, rfl, rfl, ?_, trivial⟩
    · exact i64_next (by omega) (by omega)
    · show PV.int .i64 (IntKind.i64.wrap (((l.length - 1 - i : Nat) : Int) - 1)) = _
      rw [wrap_i64 (by omega) (by omega)]
      exact congrArg I (by show ((l.length - 1 - i : Nat) : Int) - 1 = (l.length : Int) - 1 - ((i + 1 : Nat) : Int); omega)
    · refine Eq.trans (b := (1, some (Cont.mk 3 1 (((r.map eI).set i (eI v)).set (l.length - 1 - i) (eI u)) 0))) rfl ?_
      rw [← List.map_set, ← List.map_set]
  · have hd := hr.done (by have := of_decide_eq_false h; omega)
    subst hd
    repeat (first|refine pq_end rfl ?_|(refine zs rfl ?_ ?_;·repeat' constructor)|(refine zq rfl ?_ ?_;·repeat' constructor)|refine zw rfl ?_|refine zx rfl ?_|refine zb rfl ?_)
    exact inl_end0 rfl (hK s1)
end Go.Pv

/- The longest chains from each item: what the program reckons. -/
set_option maxHeartbeats 2000000
namespace Go.Pv
attribute [local irreducible] PWP POps PQuiet PSem XThen XBlock RetPost InlPost
open Go.Proofs

theorem fold_bound {α : Type} {f : Int → α → Int} {A B : Int} (hf : ∀ a m, A ≤ a → a ≤ B → A ≤ f a m ∧ f a m ≤ B) : ∀ (l : List α) (a : Int), A ≤ a → a ≤ B → A ≤ l.foldl f a ∧ l.foldl f a ≤ B
  | [], a, h1, h2 => ⟨h1, h2⟩
  | m :: l, a, h1, h2 => by
    have := hf a m h1 h2
    exact fold_bound hf l (f a m) this.1 this.2
theorem fold_bound' {α : Type} {f : Int → α → Int} {A B : Int} : ∀ (l : List α) (a : Int), (∀ a m, m ∈ l → A ≤ a → a ≤ B → A ≤ f a m ∧ f a m ≤ B) → A ≤ a → a ≤ B → A ≤ l.foldl f a ∧ l.foldl f a ≤ B
  | [], a, _, h1, h2 => ⟨h1, h2⟩
  | m :: l, a, hf, h1, h2 => by
    have := hf a m (by simp) h1 h2
    exact fold_bound' l (f a m) (fun a m' hm => hf a m' (by simp [hm])) this.1 this.2
theorem leastP_bound {w : SWork} {x : SItem} (h : ItemOk w x) : 1 ≤ leastP x ∧ leastP x ≤ 60 := by
  have hm0 : x.modes[0]? = some (modeAt x 0) := by rw [modeAt]; show _ = some ((x.modes[0]?).getD _); rw [List.getElem?_eq_getElem (by have := h.modes; omega)]; rfl
  have h0 := (h.mode _ (List.mem_of_getElem? hm0)).1
  refine fold_bound' x.modes _ (fun a m hm ha hb => ?_) h0.1 h0.2
  have := (h.mode m hm).1
  unfold leastF imin
  split <;> omega

def bestF (w : SWork) (out : List Int) (i : Int) (a : Int) (j : Nat) : Int := if ((bef w).getD j []).any (· == i) = true then imax a (out.getD j 0) else a
def bestC (w : SWork) (out : List Int) (i : Int) (n : Nat) : Int := (List.range n).foldl (bestF w out i) 0
def stepC (w : SWork) (out : List Int) (i : Int) : List Int := out.set i.toNat (leastP (itP w i) + bestC w out i w.items.length)
def chainK (w : SWork) (k : Nat) : List Int := ((ordS w).reverse.take k).foldl (stepC w) (List.replicate w.items.length 0)
def chainS (w : SWork) : List Int := (ordS w).reverse.foldl (stepC w) (List.replicate w.items.length 0)
theorem bestC_succ (w : SWork) (out : List Int) (i : Int) (n : Nat) : bestC w out i (n + 1) = bestF w out i (bestC w out i n) n := by rw [bestC, List.range_succ, List.foldl_append]; rfl
theorem bestC_bound {w : SWork} {out : List Int} {B : Int} (h : ∀ v ∈ out, 0 ≤ v ∧ v ≤ B) (hB : 0 ≤ B) (i : Int) (n : Nat) : 0 ≤ bestC w out i n ∧ bestC w out i n ≤ B := by
  refine fold_bound (fun a j ha hb => ?_) _ _ (Int.le_refl _) hB
  have hv : 0 ≤ out.getD j 0 ∧ out.getD j 0 ≤ B := by
    rw [List.getD_eq_getElem?_getD]
    cases hq : out[j]? with
    | none => exact ⟨Int.le_refl _, hB⟩
    | some v => exact h v (List.mem_of_getElem? hq)
  unfold bestF imax
  split
  · split <;> omega
  · omega
theorem chainK_ok {w : SWork} (hv : Well w) (k : Nat) (hk : k ≤ (ordS w).length) : (chainK w k).length = w.items.length ∧ ∀ v ∈ chainK w k, 0 ≤ v ∧ v ≤ 60 * k := by
  induction k with
  | zero => exact ⟨by simp [chainK], fun v hm => by simp [chainK] at hm; omega⟩
  | succ k ih =>
    obtain ⟨h1, h2⟩ := ih (by omega)
    obtain ⟨y, hy⟩ := get_lt (show k < (ordS w).reverse.length by simp; omega)
    have hs : chainK w (k + 1) = stepC w (chainK w k) y := by rw [chainK, take_snoc hy, List.foldl_append]; rfl
    obtain ⟨i, x, rfl, hx⟩ := (refOrd_eq hv.good).2 y (by simpa using List.mem_of_getElem? hy)
    rw [hs]
    have hb := bestC_bound (w := w) h2 (by omega) (i : Int) w.items.length
    have hl := leastP_bound (hv.item x (List.mem_of_getElem? hx))
    rw [← itP_at hx] at hl
    refine ⟨by simp [stepC, h1], fun v hm => ?_⟩
    rcases List.mem_or_eq_of_mem_set hm with hm | rfl
    · have := h2 v hm; omega
    · omega

set_option maxRecDepth 20000 in
theorem chainFrom_ret (w : SWork) (hw : Sane w) (hv : Well w) : Ret Try.prog .shared 116 [.agg (eWork w)] (.sl ((chainS w).map eI)) := by
  have h1 := hw.items
  have hn40 := hv.n40
  have hbl : ((bef w).map eL).length = w.items.length := by simp [bef]
  have hol := ordS_len w
  have hLl : ((ordS w).map eI).length = (ordS w).reverse.length := by simp
  refine Ret.of_pwp layOk mixed Go.Proofs.Try.func116 rfl (by decide) rfl rfl ?_
  repeat (first|refine pq_end rfl ?_|(refine zs rfl ?_ ?_;·repeat' constructor)|(refine zq rfl ?_ ?_;·repeat' constructor)|refine zw rfl ?_|refine zx rfl ?_|refine zb rfl ?_)
  (first|refine zsq rfl (q_call rfl (before_ret w h1 hw.after) rfl (by repeat' constructor) rfl) ?_|refine zqq rfl (q_call rfl (before_ret w h1 hw.after) rfl (by repeat' constructor) rfl) ?_)
  repeat (first|refine pq_end rfl ?_|(refine zs rfl ?_ ?_;·repeat' constructor)|(refine zq rfl ?_ ?_;·repeat' constructor)|refine zw rfl ?_|refine zx rfl ?_|refine zb rfl ?_)
  refine ps_run (o_make rfl rfl rfl rfl rfl rfl rfl rfl (by omega) (by rw [hbl]; show ((8 : Nat) : Int) * _ ≤ _; omega) (by rw [hbl]; omega) ?_)
  refine ps_v rfl trivial ?_
  refine ps_nil ?_
  refine x_norm ?_
  refine pw_seq ?_
  refine pw_regionS 1 ?_
  first | refine ps_v rfl trivial ?_ | refine ps_v rfl rfl ?_
  refine ps_nil ?_
  refine psem_sm rfl (sm_callO rfl (ordered_own w h1 hw.after) rfl (by repeat' constructor) rfl ?_)
  refine psem_ops ?_
  refine ps_v rfl trivial ?_
  refine ps_nil ?_
  refine x_norm ?_
  refine pw_seq ?_
  refine pw_regionS 1 ?_
  first | refine ps_v rfl trivial ?_ | refine ps_v rfl rfl ?_
  refine ps_nil ?_
  refine psem_sm rfl (reverse18 w (List.replicate w.items.length [I 0]) (ordS w) (by omega) rfl ⟨rfl, ?_, rfl, trivial⟩ (fun s1 => ?_))
  · show (1, some (Cont.mk 3 1 (List.replicate (Int.toNat ((bef w).map eL).length) _) 0)) = _
    rw [hbl]; rfl
  refine psem_ops ?_
  repeat (first|refine pq_end rfl ?_|(refine zs rfl ?_ ?_;·repeat' constructor)|(refine zq rfl ?_ ?_;·repeat' constructor)|refine zw rfl ?_|refine zx rfl ?_|refine zb rfl ?_)
  refine pw_loop (fun k => k ≤ (ordS w).reverse.length) (fun k => [(1, .ptr 1 1 0 0), (3, .sl ((bef w).map eL)), (4, .als 16 1 0 w.items.length), (21, .als 18 1 0 ((ordS w).map eI).length), (22, I ((ordS w).map eI).length), (23, I k)])
    (fun k => [(1, 1, ⟨28, 9, [eWork w], 2⟩), (16, 1, ⟨3, 1, (chainK w k).map eI, 0⟩), (18, 1, ⟨3, 1, (ordS w).reverse.map eI, 0⟩)]) (fun k => (ordS w).reverse.length - k) 0 (Nat.zero_le _) ⟨rfl, rfl, ?_, rfl, rfl, rfl, rfl, ?_, rfl, trivial⟩ ?_
  · show PV.als 16 1 0 (List.length (List.replicate (Int.toNat ((bef w).map eL).length) _)) = _
    rw [hbl]; simp
  · show (1, some (Cont.mk 3 1 (List.replicate w.items.length [I 0]) 0)) = _
    simp [chainK, eI]
  intro k s hk
  obtain ⟨hc1, hc2⟩ := chainK_ok hv k (by simpa using hk)
  have hrl : (ordS w).reverse.length = (ordS w).length := by simp
  repeat (first|refine pq_end rfl ?_|(refine zs rfl ?_ ?_;·repeat' constructor)|(refine zq rfl ?_ ?_;·repeat' constructor)|refine zw rfl ?_|refine zx rfl ?_|refine zb rfl ?_)
  refine pw_cond rfl (fun h => ?_) (fun h => ?_)
  · have hlt : k < (ordS w).reverse.length := by have := of_decide_eq_true h; omega
    clear h
    obtain ⟨y, hy⟩ := get_lt hlt
    obtain ⟨i, x, rfl, hx⟩ := (refOrd_eq hv.good).2 y (by simpa using List.mem_of_getElem? hy)
    have hil := (List.getElem?_eq_some_iff.1 hx).1
    have hyr : ((ordS w).reverse.map eI)[k]? = some (eI i) := by rw [List.getElem?_map, hy]; rfl
    have hio := hv.item x (List.mem_of_getElem? hx)
    have hlb := leastP_bound hio
    repeat (first|refine pq_end rfl ?_|(refine zs rfl ?_ ?_;·repeat' constructor)|(refine zq rfl ?_ ?_;·repeat' constructor)|refine zw rfl ?_|refine zx rfl ?_|refine zb rfl ?_)
    refine ps_q (q_idxA rfl rfl rfl rfl rfl rfl rfl (by omega) (by omega)) ?_
    rw [Int.toNat_natCast, Nat.zero_add k]
    refine ps_q (q_ldp rfl rfl rfl hyr rfl) ?_
    repeat (first|refine pq_end rfl ?_|(refine zs rfl ?_ ?_;·repeat' constructor)|(refine zq rfl ?_ ?_;·repeat' constructor)|refine zw rfl ?_|refine zx rfl ?_|refine zb rfl ?_)
    refine pw_loop (fun j => j ≤ w.items.length) (fun j => [(1, .ptr 1 1 0 0), (3, .sl ((bef w).map eL)), (4, .als 16 1 0 w.items.length), (7, I i), (8, I (bestC w (chainK w k) i j)), (21, .als 18 1 0 ((ordS w).map eI).length), (22, I ((ordS w).map eI).length), (23, I k), (28, I w.items.length), (29, I j)])
      (fun j => [(1, 1, ⟨28, 9, [eWork w], 2⟩), (16, 1, ⟨3, 1, (chainK w k).map eI, 0⟩), (18, 1, ⟨3, 1, (ordS w).reverse.map eI, 0⟩)]) (fun j => w.items.length - j) 0 (Nat.zero_le _) ⟨rfl, rfl, rfl, rfl, rfl, rfl, rfl, rfl, ?_, rfl, rfl, rfl, rfl, trivial⟩ ?_
    · show I (((bef w).map eL).length) = _
      rw [hbl]
    intro j s' hj
    have hbb := bestC_bound (w := w) hc2 (by omega) (i : Int) j
    repeat (first|refine pq_end rfl ?_|(refine zs rfl ?_ ?_;·repeat' constructor)|(refine zq rfl ?_ ?_;·repeat' constructor)|refine zw rfl ?_|refine zx rfl ?_|refine zb rfl ?_)
    refine pw_cond rfl (fun h => ?_) (fun h => ?_)
    · have hlt' : j < w.items.length := by simpa using h
      clear h
      obtain ⟨z, hz⟩ := get_lt hlt'
      obtain ⟨v, hvj⟩ := get_lt (show j < (chainK w k).length by omega)
      have hbz : (bef w)[j]? = some (aft w z) := by rw [bef, List.getElem?_map, hz]; rfl
      have haz := hw.after z (List.mem_of_getElem? hz)
      have hvr : ((chainK w k).map eI)[j]? = some (eI v) := by rw [List.getElem?_map, hvj]; rfl
      have hbf : ∀ a, bestF w (chainK w k) i a j = if (aft w z).any (· == (i : Int)) = true then imax a v else a := fun a => by rw [bestF, List.getD_eq_getElem?_getD, hbz, List.getD_eq_getElem?_getD, hvj]; rfl
      repeat (first|refine pq_end rfl ?_|(refine zs rfl ?_ ?_;·repeat' constructor)|(refine zq rfl ?_ ?_;·repeat' constructor)|refine zw rfl ?_|refine zx rfl ?_|refine zb rfl ?_)
      (first|refine zsq rfl (q_idxm rfl rfl rfl rfl rfl (by omega) hbz rfl) ?_|refine zqq rfl (q_idxm rfl rfl rfl rfl rfl (by omega) hbz rfl) ?_)
      repeat (first|refine pq_end rfl ?_|(refine zs rfl ?_ ?_;·repeat' constructor)|(refine zq rfl ?_ ?_;·repeat' constructor)|refine zw rfl ?_|refine zx rfl ?_|refine zb rfl ?_)
      (first|refine zsq rfl (q_callP rfl (containsI_ret (aft w z) i (by simp [aft]; omega)) rfl (by repeat' constructor) rfl rfl) ?_|refine zqq rfl (q_callP rfl (containsI_ret (aft w z) i (by simp [aft]; omega)) rfl (by repeat' constructor) rfl rfl) ?_)
      repeat (first|refine pq_end rfl ?_|(refine zs rfl ?_ ?_;·repeat' constructor)|(refine zq rfl ?_ ?_;·repeat' constructor)|refine zw rfl ?_|refine zx rfl ?_|refine zb rfl ?_)
      refine pw_cond rfl (fun h => ?_) (fun h => ?_)
      · have hin : (aft w z).any (· == (i : Int)) = true := h
        clear h
        repeat (first|refine pq_end rfl ?_|(refine zs rfl ?_ ?_;·repeat' constructor)|(refine zq rfl ?_ ?_;·repeat' constructor)|refine zw rfl ?_|refine zx rfl ?_|refine zb rfl ?_)
        refine ps_q (q_idxA rfl rfl rfl rfl rfl rfl rfl (by omega) (by omega)) ?_
        rw [Int.toNat_natCast, Nat.zero_add j]
        refine ps_q (q_ldp rfl rfl rfl hvr rfl) ?_
        repeat (first|refine pq_end rfl ?_|(refine zs rfl ?_ ?_;·repeat' constructor)|(refine zq rfl ?_ ?_;·repeat' constructor)|refine zw rfl ?_|refine zx rfl ?_|refine zb rfl ?_)
        refine ⟨j + 1, hlt', by omega, rfl, rfl, rfl, rfl, ?_, rfl, rfl, rfl, rfl, ?_, rfl, rfl, rfl, trivial⟩
        · rw [bestC_succ, hbf, if_pos hin]; rfl
        · exact i64_next (by omega) (by omega)
      · have hin : ¬ (aft w z).any (· == (i : Int)) = true := by rw [show (aft w z).any (· == (i : Int)) = false from h]; simp
        clear h
        repeat (first|refine pq_end rfl ?_|(refine zs rfl ?_ ?_;·repeat' constructor)|(refine zq rfl ?_ ?_;·repeat' constructor)|refine zw rfl ?_|refine zx rfl ?_|refine zb rfl ?_)
        refine ⟨j + 1, hlt', by omega, rfl, rfl, rfl, rfl, ?_, rfl, rfl, rfl, rfl, ?_, rfl, rfl, rfl, trivial⟩
        · rw [bestC_succ, hbf, if_neg hin]; rfl
        · exact i64_next (by omega) (by omega)
    · have hge : j = w.items.length := by have := of_decide_eq_false h; omega
      subst hge
      clear h
      have hrow : ∃ v0, ((chainK w k).map eI)[i]? = some (eI v0) := by
        obtain ⟨v0, hv0⟩ := get_lt (show i < (chainK w k).length by omega)
        exact ⟨v0, by rw [List.getElem?_map, hv0]; rfl⟩
      obtain ⟨v0, hrow⟩ := hrow
      have hs : chainK w (k + 1) = (chainK w k).set i (leastP x + bestC w (chainK w k) i w.items.length) := by
        rw [chainK, take_snoc hy, List.foldl_append]
        show stepC w (chainK w k) i = _
        rw [stepC, itP_at hx, Int.toNat_natCast]
      repeat (first|refine pq_end rfl ?_|(refine zs rfl ?_ ?_;·repeat' constructor)|(refine zq rfl ?_ ?_;·repeat' constructor)|refine zw rfl ?_|refine zx rfl ?_|refine zb rfl ?_)
      (first|refine zsq rfl (q_idxm rfl rfl rfl rfl rfl (by omega) hx rfl) ?_|refine zqq rfl (q_idxm rfl rfl rfl rfl rfl (by omega) hx rfl) ?_)
      repeat (first|refine pq_end rfl ?_|(refine zs rfl ?_ ?_;·repeat' constructor)|(refine zq rfl ?_ ?_;·repeat' constructor)|refine zw rfl ?_|refine zx rfl ?_|refine zb rfl ?_)
      (first|refine zsq rfl (q_callP rfl (least_ret x hio.modes.1 (by have := hio.modes; omega) (fun m hm => by have := hio.mode m hm; exact ⟨this.1, this.2.1⟩)) rfl (by repeat' constructor) rfl rfl) ?_|refine zqq rfl (q_callP rfl (least_ret x hio.modes.1 (by have := hio.modes; omega) (fun m hm => by have := hio.mode m hm; exact ⟨this.1, this.2.1⟩)) rfl (by repeat' constructor) rfl rfl) ?_)
      repeat (first|refine pq_end rfl ?_|(refine zs rfl ?_ ?_;·repeat' constructor)|(refine zq rfl ?_ ?_;·repeat' constructor)|refine zw rfl ?_|refine zx rfl ?_|refine zb rfl ?_)
      refine ps_q (q_idxA rfl rfl rfl rfl rfl rfl rfl (by omega) (by omega)) ?_
      rw [Int.toNat_natCast, Nat.zero_add i]
      refine ps_run0 (o_store (kd' := 0) rfl rfl rfl hrow rfl rfl (by repeat' constructor) rfl rfl rfl rfl ?_)
      repeat (first|refine pq_end rfl ?_|(refine zs rfl ?_ ?_;·repeat' constructor)|(refine zq rfl ?_ ?_;·repeat' constructor)|refine zw rfl ?_|refine zx rfl ?_|refine zb rfl ?_)
      refine ⟨k + 1, hlt, by omega, rfl, rfl, rfl, rfl, rfl, ?_, rfl, ?_, rfl, trivial⟩
      · exact i64_next (by omega) (by omega)
      · rw [hs, List.map_set]
        refine Eq.trans (b := (1, some (Cont.mk 3 1 (((chainK w k).map eI).set i [PV.int .i64 (IntKind.i64.wrap (leastP x + bestC w (chainK w k) i w.items.length))]) 0))) rfl ?_
        rw [wrap_i64 (by omega) (by omega)]; rfl
  · have hge : k = (ordS w).reverse.length := by have := of_decide_eq_false h; omega
    subst hge
    have hfin : chainK w (ordS w).reverse.length = chainS w := by rw [chainK, List.take_length, chainS]
    repeat (first|refine pq_end rfl ?_|(refine zs rfl ?_ ?_;·repeat' constructor)|(refine zq rfl ?_ ?_;·repeat' constructor)|refine zw rfl ?_|refine zx rfl ?_|refine zb rfl ?_)
    exact end1 rfl rfl rfl ⟨rfl, rfl, by rw [List.length_map, hc1]⟩ (by rw [hfin])
end Go.Pv

/- The earliest days: what the program and the reference reckon. -/
set_option maxHeartbeats 2000000
namespace Go.Pv
attribute [local irreducible] PWP POps PQuiet PSem XThen XBlock RetPost InlPost
open Go.Proofs

def stepE (w : SWork) (i : Int) (out : List Int) (k : Int) : List Int := out.set i.toNat (imax (out.getD i.toNat 0) (out.getD k.toNat 0 + leastP (itP w k)))
def rowE (w : SWork) (i : Int) (row : List Int) (out : List Int) : List Int := row.foldl (stepE w i) out
def earlyF (w : SWork) (s : List Int × Int) (i : Int) : List Int × Int := (rowE w i ((bef w).getD i.toNat []) s.1, imax s.2 ((rowE w i ((bef w).getD i.toNat []) s.1).getD i.toNat 0 + leastP (itP w i)))
def earlyK2 (w : SWork) (k : Nat) : List Int × Int := ((ordS w).take k).foldl (earlyF w) (List.replicate w.items.length 0, 0)
def earlyS (w : SWork) : List Int × Int := (ordS w).foldl (earlyF w) (List.replicate w.items.length 0, 0)
theorem BndL.getZ {a : List Int} {B : Int} (h : BndL a B) (hB : 0 ≤ B) (d : Nat) : 0 ≤ a.getD d 0 ∧ a.getD d 0 ≤ B := by
  rcases Nat.lt_or_ge d a.length with hlt | hge
  · exact h.get hlt
  · rw [List.getD_eq_getElem?_getD, List.getElem?_eq_none hge]; exact ⟨Int.le_refl _, hB⟩
theorem BndL.set {a : List Int} {B : Int} (h : BndL a B) {d : Nat} {v : Int} (hv : 0 ≤ v ∧ v ≤ B) : BndL (a.set d v) B := by
  intro u hu
  rcases List.mem_or_eq_of_mem_set hu with h1 | rfl
  · exact h u h1
  · exact hv
def KnownRow (w : SWork) (row : List Int) : Prop := ∀ k ∈ row, ∃ (j : Nat) (y : SItem), k = j ∧ w.items[j]? = some y
theorem known_row {w : SWork} (hv : Well w) {x : SItem} (hx : x ∈ w.items) : KnownRow w (aft w x) := by
  intro k hk
  obtain ⟨nm, hnm, rfl⟩ := List.mem_map.1 hk
  obtain ⟨j, y, hy, _, hidx⟩ := known_at hv.good hx hnm
  exact ⟨j, y, hidx, hy⟩
theorem rowE_ok {w : SWork} (hv : Well w) (i : Int) {row : List Int} (hr : KnownRow w row) {out : List Int} {B : Int} (h : BndL out B) (hB : 0 ≤ B) (j : Nat) (hj : j ≤ row.length) : (rowE w i (row.take j) out).length = out.length ∧ BndL (rowE w i (row.take j) out) (B + 60 * j) := by
  induction j with
  | zero => exact ⟨rfl, h.mono (by omega)⟩
  | succ j ih =>
    obtain ⟨h1, h2⟩ := ih (by omega)
    obtain ⟨k, hk⟩ := get_lt (show j < row.length by omega)
    obtain ⟨m, y, rfl, hy⟩ := hr k (List.mem_of_getElem? hk)
    have hl := leastP_bound (hv.item y (List.mem_of_getElem? hy))
    have hs : rowE w i (row.take (j + 1)) out = stepE w i (rowE w i (row.take j) out) m := by rw [rowE, take_snoc hk, List.foldl_append]; rfl
    rw [hs, stepE, itP_at hy]
    have b1 := h2.getZ (by omega) i.toNat
    have b2 := h2.getZ (by omega) (m : Int).toNat
    refine ⟨by rw [List.length_set, h1], (h2.mono (by omega)).set ?_⟩
    unfold imax
    split <;> omega
theorem earlyK2_succ {w : SWork} {k i : Nat} {x : SItem} (hk : (ordS w)[k]? = some (i : Int)) (hx : w.items[i]? = some x) : earlyK2 w (k + 1) = (rowE w i (aft w x) (earlyK2 w k).1, imax (earlyK2 w k).2 ((rowE w i (aft w x) (earlyK2 w k).1).getD i 0 + leastP x)) := by
  have hbx : (bef w).getD i [] = aft w x := by rw [List.getD_eq_getElem?_getD, bef, List.getElem?_map, hx]; rfl
  rw [earlyK2, take_snoc hk, List.foldl_append]
  show earlyF w (earlyK2 w k) i = _
  rw [earlyF, Int.toNat_natCast, hbx, itP_at hx]
theorem earlyK2_ok {w : SWork} (hw : Sane w) (hv : Well w) (k : Nat) (hk : k ≤ (ordS w).length) : (earlyK2 w k).1.length = w.items.length ∧ BndL (earlyK2 w k).1 (6000060 * k) ∧ 0 ≤ (earlyK2 w k).2 ∧ (earlyK2 w k).2 ≤ 6000060 * k := by
  induction k with
  | zero => exact ⟨by simp [earlyK2], fun v hv => by simp [earlyK2] at hv; omega, by simp [earlyK2], by simp [earlyK2]⟩
  | succ k ih =>
    obtain ⟨h1, h2, h3, h4⟩ := ih (by omega)
    obtain ⟨y, hy⟩ := get_lt (show k < (ordS w).length by omega)
    obtain ⟨i, x, rfl, hx⟩ := (refOrd_eq hv.good).2 y (List.mem_of_getElem? hy)
    have hxm := List.mem_of_getElem? hx
    have hax := hw.after x hxm
    have hal : (aft w x).length = x.after.length := by simp [aft]
    have hl := leastP_bound (hv.item x hxm)
    have hr := rowE_ok hv (i : Int) (known_row hv hxm) h2 (by omega) (aft w x).length (Nat.le_refl _)
    rw [List.take_length] at hr
    rw [earlyK2_succ hy hx]
    have b := hr.2.getZ (by omega) i
    refine ⟨by rw [hr.1, h1], hr.2.mono (by omega), ?_⟩
    show 0 ≤ imax _ _ ∧ imax _ _ ≤ _
    unfold imax
    split <;> omega

set_option maxRecDepth 20000 in
theorem earliest0_ret (w : SWork) (hw : Sane w) (hv : Well w) : Ret Try.prog .shared 85 [.agg (eWork w)] (.tup [.sl ((earlyS w).1.map eI), I (earlyS w).2]) := by
  have h1 := hw.items
  have hn40 := hv.n40
  have hbl : ((bef w).map eL).length = w.items.length := by simp [bef]
  have hol := ordS_len w
  have hLl : ((ordS w).map eI).length = (ordS w).length := by simp
  refine Ret.of_pwp layOk mixed Go.Proofs.Try.func85 rfl (by decide) rfl rfl ?_
  repeat (first|refine pq_end rfl ?_|(refine zs rfl ?_ ?_;·repeat' constructor)|(refine zq rfl ?_ ?_;·repeat' constructor)|refine zw rfl ?_|refine zx rfl ?_|refine zb rfl ?_)
  (first|refine zsq rfl (q_call rfl (before_ret w h1 hw.after) rfl (by repeat' constructor) rfl) ?_|refine zqq rfl (q_call rfl (before_ret w h1 hw.after) rfl (by repeat' constructor) rfl) ?_)
  repeat (first|refine pq_end rfl ?_|(refine zs rfl ?_ ?_;·repeat' constructor)|(refine zq rfl ?_ ?_;·repeat' constructor)|refine zw rfl ?_|refine zx rfl ?_|refine zb rfl ?_)
  refine ps_run (o_make rfl rfl rfl rfl rfl rfl rfl rfl (by omega) (by rw [hbl]; show ((8 : Nat) : Int) * _ ≤ _; omega) (by rw [hbl]; omega) ?_)
  repeat (first|refine pq_end rfl ?_|(refine zs rfl ?_ ?_;·repeat' constructor)|(refine zq rfl ?_ ?_;·repeat' constructor)|refine zw rfl ?_|refine zx rfl ?_|refine zb rfl ?_)
  (first|refine zsq rfl (q_call rfl (ordered_ret w h1 hw.after) rfl (by repeat' constructor) rfl) ?_|refine zqq rfl (q_call rfl (ordered_ret w h1 hw.after) rfl (by repeat' constructor) rfl) ?_)
  repeat (first|refine pq_end rfl ?_|(refine zs rfl ?_ ?_;·repeat' constructor)|(refine zq rfl ?_ ?_;·repeat' constructor)|refine zw rfl ?_|refine zx rfl ?_|refine zb rfl ?_)
  refine pw_loop (fun k => k ≤ (ordS w).length) (fun k => [(1, .ptr 1 1 0 0), (4, .sl ((bef w).map eL)), (5, .als 19 1 0 w.items.length), (6, I (earlyK2 w k).2), (21, .sl ((ordS w).map eI)), (22, I (ordS w).length), (23, I k)])
    (fun k => [(1, 1, ⟨28, 9, [eWork w], 2⟩), (19, 1, ⟨3, 1, (earlyK2 w k).1.map eI, 0⟩)]) (fun k => (ordS w).length - k) 0 (Nat.zero_le _) ⟨rfl, rfl, ?_, rfl, rfl, ?_, rfl, rfl, ?_, trivial⟩ ?_
  · show PV.als 19 1 0 (List.length (List.replicate (Int.toNat ((bef w).map eL).length) _)) = _
    rw [hbl]; simp
  · show I (((ordS w).map eI).length) = _
    rw [hLl]
  · show (1, some (Cont.mk 3 1 (List.replicate (Int.toNat ((bef w).map eL).length) _) 0)) = _
    rw [hbl]; simp [earlyK2, eI]
  intro k s hk
  obtain ⟨hc1, hc2, hc3, hc4⟩ := earlyK2_ok hw hv k hk
  repeat (first|refine pq_end rfl ?_|(refine zs rfl ?_ ?_;·repeat' constructor)|(refine zq rfl ?_ ?_;·repeat' constructor)|refine zw rfl ?_|refine zx rfl ?_|refine zb rfl ?_)
  refine pw_cond rfl (fun h => ?_) (fun h => ?_)
  · have hlt : k < (ordS w).length := by have := of_decide_eq_true h; omega
    clear h
    obtain ⟨y0, hy0⟩ := get_lt hlt
    obtain ⟨i, x, rfl, hx⟩ := (refOrd_eq hv.good).2 y0 (List.mem_of_getElem? hy0)
    have hil := (List.getElem?_eq_some_iff.1 hx).1
    have hxm := List.mem_of_getElem? hx
    have hax := hw.after x hxm
    have hal : (aft w x).length = x.after.length := by simp [aft]
    have hio := hv.item x hxm
    have hlb := leastP_bound hio
    have hbx : (bef w)[i]? = some (aft w x) := by rw [bef, List.getElem?_map, hx]; rfl
    have hkr := known_row hv hxm
    have hro := fun j hj => rowE_ok hv (i : Int) hkr hc2 (by omega) j hj
    have hsucc := earlyK2_succ hy0 hx
    generalize earlyK2 w k = st at *
    obtain ⟨out, last⟩ := st
    replace hc1 : out.length = w.items.length := hc1
    replace hc3 : 0 ≤ last := hc3
    replace hc4 : last ≤ 6000060 * (k : Int) := hc4
    replace hro : ∀ j, j ≤ (aft w x).length → (rowE w i ((aft w x).take j) out).length = out.length ∧ BndL (rowE w i ((aft w x).take j) out) (6000060 * k + 60 * j) := hro
    replace hsucc : earlyK2 w (k + 1) = (rowE w i (aft w x) out, imax last ((rowE w i (aft w x) out).getD i 0 + leastP x)) := hsucc
    repeat (first|refine pq_end rfl ?_|(refine zs rfl ?_ ?_;·repeat' constructor)|(refine zq rfl ?_ ?_;·repeat' constructor)|refine zw rfl ?_|refine zx rfl ?_|refine zb rfl ?_)
    (first|refine zsq rfl (q_idxm rfl rfl rfl rfl rfl (by omega) hy0 rfl) ?_|refine zqq rfl (q_idxm rfl rfl rfl rfl rfl (by omega) hy0 rfl) ?_)
    repeat (first|refine pq_end rfl ?_|(refine zs rfl ?_ ?_;·repeat' constructor)|(refine zq rfl ?_ ?_;·repeat' constructor)|refine zw rfl ?_|refine zx rfl ?_|refine zb rfl ?_)
    (first|refine zsq rfl (q_idxm rfl rfl rfl rfl rfl (by omega) hbx rfl) ?_|refine zqq rfl (q_idxm rfl rfl rfl rfl rfl (by omega) hbx rfl) ?_)
    repeat (first|refine pq_end rfl ?_|(refine zs rfl ?_ ?_;·repeat' constructor)|(refine zq rfl ?_ ?_;·repeat' constructor)|refine zw rfl ?_|refine zx rfl ?_|refine zb rfl ?_)
    refine pw_loop (fun j => j ≤ (aft w x).length) (fun j => [(1, .ptr 1 1 0 0), (4, .sl ((bef w).map eL)), (5, .als 19 1 0 w.items.length), (6, I last), (8, I i), (21, .sl ((ordS w).map eI)), (22, I (ordS w).length), (23, I k), (30, .sl ((aft w x).map eI)), (31, I (aft w x).length), (32, I j)])
      (fun j => [(1, 1, ⟨28, 9, [eWork w], 2⟩), (19, 1, ⟨3, 1, (rowE w i ((aft w x).take j) out).map eI, 0⟩)]) (fun j => (aft w x).length - j) 0 (Nat.zero_le _) ⟨rfl, rfl, rfl, rfl, rfl, rfl, rfl, rfl, rfl, ?_, rfl, rfl, rfl, trivial⟩ ?_
    · show I (((aft w x).map eI).length) = _
      rw [List.length_map]
    intro j s2 hj
    obtain ⟨ho1, ho2⟩ := hro j hj
    repeat (first|refine pq_end rfl ?_|(refine zs rfl ?_ ?_;·repeat' constructor)|(refine zq rfl ?_ ?_;·repeat' constructor)|refine zw rfl ?_|refine zx rfl ?_|refine zb rfl ?_)
    refine pw_cond rfl (fun h => ?_) (fun h => ?_)
    · have hlt' : j < (aft w x).length := by have := of_decide_eq_true h; omega
      clear h
      obtain ⟨m0, hm0⟩ := get_lt hlt'
      obtain ⟨m, y, rfl, hy⟩ := hkr m0 (List.mem_of_getElem? hm0)
      have hml := (List.getElem?_eq_some_iff.1 hy).1
      have hyo := hv.item y (List.mem_of_getElem? hy)
      have hly := leastP_bound hyo
      have hs : rowE w i ((aft w x).take (j + 1)) out = stepE w i (rowE w i ((aft w x).take j) out) m := by rw [rowE, take_snoc hm0, List.foldl_append]; rfl
      rw [stepE, itP_at hy, Int.toNat_natCast, Int.toNat_natCast] at hs
      generalize rowE w i ((aft w x).take j) out = OUT at *
      have r1 : (OUT.map eI)[0 + (i : Int).toNat]? = some (eI (OUT.getD i 0)) := by rw [Nat.zero_add, Int.toNat_natCast, List.getElem?_map, List.getD_eq_getElem?_getD, List.getElem?_eq_getElem (by omega)]; rfl
      have r2 : (OUT.map eI)[0 + (m : Int).toNat]? = some (eI (OUT.getD m 0)) := by rw [Nat.zero_add, Int.toNat_natCast, List.getElem?_map, List.getD_eq_getElem?_getD, List.getElem?_eq_getElem (by omega)]; rfl
      have b2 := ho2.getZ (by omega) m
      repeat (first|refine pq_end rfl ?_|(refine zs rfl ?_ ?_;·repeat' constructor)|(refine zq rfl ?_ ?_;·repeat' constructor)|refine zw rfl ?_|refine zx rfl ?_|refine zb rfl ?_)
      (first|refine zsq rfl (q_idxm rfl rfl rfl rfl rfl (by omega) hm0 rfl) ?_|refine zqq rfl (q_idxm rfl rfl rfl rfl rfl (by omega) hm0 rfl) ?_)
      repeat (first|refine pq_end rfl ?_|(refine zs rfl ?_ ?_;·repeat' constructor)|(refine zq rfl ?_ ?_;·repeat' constructor)|refine zw rfl ?_|refine zx rfl ?_|refine zb rfl ?_)
      (first|refine zsq rfl (q_idxm rfl rfl rfl rfl rfl (by omega) hy rfl) ?_|refine zqq rfl (q_idxm rfl rfl rfl rfl rfl (by omega) hy rfl) ?_)
      repeat (first|refine pq_end rfl ?_|(refine zs rfl ?_ ?_;·repeat' constructor)|(refine zq rfl ?_ ?_;·repeat' constructor)|refine zw rfl ?_|refine zx rfl ?_|refine zb rfl ?_)
      (first|refine zsq rfl (q_callP rfl (least_ret y hyo.modes.1 (by have := hyo.modes; omega) (fun m hm => by have := hyo.mode m hm; exact ⟨this.1, this.2.1⟩)) rfl (by repeat' constructor) rfl rfl) ?_|refine zqq rfl (q_callP rfl (least_ret y hyo.modes.1 (by have := hyo.modes; omega) (fun m hm => by have := hyo.mode m hm; exact ⟨this.1, this.2.1⟩)) rfl (by repeat' constructor) rfl rfl) ?_)
      repeat (first|refine pq_end rfl ?_|(refine zs rfl ?_ ?_;·repeat' constructor)|(refine zq rfl ?_ ?_;·repeat' constructor)|refine zw rfl ?_|refine zx rfl ?_|refine zb rfl ?_)
      refine pw_draw 14 [45, 46, 47, 48, 49, 50, 51, 52, 53, 54, 55, 56, 57, 58] (by decide +kernel) ?_
      repeat (first|refine pq_end rfl ?_|(refine zs rfl ?_ ?_;·repeat' constructor)|(refine zq rfl ?_ ?_;·repeat' constructor)|refine zw rfl ?_|refine zx rfl ?_|refine zb rfl ?_)
      refine zqq rfl (q_idxA rfl rfl rfl rfl rfl rfl rfl (by omega) (by omega)) ?_
      repeat (first|refine pq_end rfl ?_|(refine zs rfl ?_ ?_;·repeat' constructor)|(refine zq rfl ?_ ?_;·repeat' constructor)|refine zw rfl ?_|refine zx rfl ?_|refine zb rfl ?_)
      refine zqq rfl (q_ldp rfl rfl rfl r1 rfl) ?_
      repeat (first|refine pq_end rfl ?_|(refine zs rfl ?_ ?_;·repeat' constructor)|(refine zq rfl ?_ ?_;·repeat' constructor)|refine zw rfl ?_|refine zx rfl ?_|refine zb rfl ?_)
      refine zqq rfl (q_idxA rfl rfl rfl rfl rfl rfl rfl (by omega) (by omega)) ?_
      repeat (first|refine pq_end rfl ?_|(refine zs rfl ?_ ?_;·repeat' constructor)|(refine zq rfl ?_ ?_;·repeat' constructor)|refine zw rfl ?_|refine zx rfl ?_|refine zb rfl ?_)
      refine zqq rfl (q_ldp rfl rfl rfl r2 rfl) ?_
      repeat (first|refine pq_end rfl ?_|(refine zs rfl ?_ ?_;·repeat' constructor)|(refine zq rfl ?_ ?_;·repeat' constructor)|refine zw rfl ?_|refine zx rfl ?_|refine zb rfl ?_)
      refine zqq rfl (q_idxA rfl rfl rfl rfl rfl rfl rfl (by omega) (by omega)) ?_
      repeat (first|refine pq_end rfl ?_|(refine zs rfl ?_ ?_;·repeat' constructor)|(refine zq rfl ?_ ?_;·repeat' constructor)|refine zw rfl ?_|refine zx rfl ?_|refine zb rfl ?_)
      refine ps_run0 (o_store (kd' := 0) rfl rfl rfl r1 rfl rfl (by repeat' constructor) rfl rfl rfl rfl ?_)
      repeat (first|refine pq_end rfl ?_|(refine zs rfl ?_ ?_;·repeat' constructor)|(refine zq rfl ?_ ?_;·repeat' constructor)|refine zw rfl ?_|refine zx rfl ?_|refine zb rfl ?_)
      refine ⟨j + 1, hlt', by omega, rfl, rfl, rfl, rfl, rfl, rfl, rfl, rfl, rfl, rfl, ?_, rfl, ?_, trivial⟩
      · exact i64_next (by omega) (by omega)
      · rw [hs, List.map_set]
        show (1, some (Cont.mk 3 1 ((OUT.map eI).set (0 + (i : Int).toNat) [I (imax (OUT.getD i 0) (IntKind.i64.wrap (OUT.getD m 0 + leastP y)))]) 0)) = _
        rw [Nat.zero_add, Int.toNat_natCast, wrap_i64 (by omega) (by omega)]
        rfl
    · have hge : j = (aft w x).length := by have := of_decide_eq_false h; omega
      subst hge
      clear h
      rw [List.take_length] at ho1 ho2 ⊢
      generalize rowE w i (aft w x) out = OUT at *
      have r1 : (OUT.map eI)[0 + (i : Int).toNat]? = some (eI (OUT.getD i 0)) := by rw [Nat.zero_add, Int.toNat_natCast, List.getElem?_map, List.getD_eq_getElem?_getD, List.getElem?_eq_getElem (by omega)]; rfl
      have b1 := ho2.getZ (by omega) i
      repeat (first|refine pq_end rfl ?_|(refine zs rfl ?_ ?_;·repeat' constructor)|(refine zq rfl ?_ ?_;·repeat' constructor)|refine zw rfl ?_|refine zx rfl ?_|refine zb rfl ?_)
      (first|refine zsq rfl (q_idxm rfl rfl rfl rfl rfl (by omega) hx rfl) ?_|refine zqq rfl (q_idxm rfl rfl rfl rfl rfl (by omega) hx rfl) ?_)
      repeat (first|refine pq_end rfl ?_|(refine zs rfl ?_ ?_;·repeat' constructor)|(refine zq rfl ?_ ?_;·repeat' constructor)|refine zw rfl ?_|refine zx rfl ?_|refine zb rfl ?_)
      (first|refine zsq rfl (q_callP rfl (least_ret x hio.modes.1 (by have := hio.modes; omega) (fun m hm => by have := hio.mode m hm; exact ⟨this.1, this.2.1⟩)) rfl (by repeat' constructor) rfl rfl) ?_|refine zqq rfl (q_callP rfl (least_ret x hio.modes.1 (by have := hio.modes; omega) (fun m hm => by have := hio.mode m hm; exact ⟨this.1, this.2.1⟩)) rfl (by repeat' constructor) rfl rfl) ?_)
      repeat (first|refine pq_end rfl ?_|(refine zs rfl ?_ ?_;·repeat' constructor)|(refine zq rfl ?_ ?_;·repeat' constructor)|refine zw rfl ?_|refine zx rfl ?_|refine zb rfl ?_)
      refine ps_q (q_idxA rfl rfl rfl rfl rfl rfl rfl (by omega) (by omega)) ?_
      repeat (first|refine pq_end rfl ?_|(refine zs rfl ?_ ?_;·repeat' constructor)|(refine zq rfl ?_ ?_;·repeat' constructor)|refine zw rfl ?_|refine zx rfl ?_|refine zb rfl ?_)
      refine ps_q (q_ldp rfl rfl rfl r1 rfl) ?_
      repeat (first|refine pq_end rfl ?_|(refine zs rfl ?_ ?_;·repeat' constructor)|(refine zq rfl ?_ ?_;·repeat' constructor)|refine zw rfl ?_|refine zx rfl ?_|refine zb rfl ?_)
      refine ⟨k + 1, hlt, by omega, rfl, rfl, rfl, ?_, rfl, rfl, ?_, rfl, ?_, trivial⟩
      · rw [hsucc]
        show I (imax last (IntKind.i64.wrap (OUT.getD i 0 + leastP x))) = I (imax last (OUT.getD i 0 + leastP x))
        rw [wrap_i64 (by omega) (by omega)]
      · exact i64_next (by omega) (by omega)
      · rw [hsucc]; rfl
  · have hge : k = (ordS w).length := by have := of_decide_eq_false h; omega
    subst hge
    have hfin : earlyK2 w (ordS w).length = earlyS w := by rw [earlyK2, List.take_length, earlyS]
    rw [hfin] at hc1 ⊢
    repeat (first|refine pq_end rfl ?_|(refine zs rfl ?_ ?_;·repeat' constructor)|(refine zq rfl ?_ ?_;·repeat' constructor)|refine zw rfl ?_|refine zx rfl ?_|refine zb rfl ?_)
    exact end2 rfl rfl rfl rfl rfl ⟨rfl, rfl, by rw [List.length_map, hc1]⟩ trivial rfl
end Go.Pv

/- The example, and the bound of a trade. -/
set_option maxHeartbeats 2000000
namespace Go.Pv
attribute [local irreducible] PWP POps PQuiet PSem XThen XBlock RetPost InlPost
open Go.Proofs

/-- Nil slices, told as empty ones. -/
def dn : Nat → PV → PV
  | 0, c => c
  | _ + 1, .nil => .sl []
  | n + 1, .agg cs => .agg (cs.map (dn n))
  | n + 1, .sl rows => .sl (rows.map (·.map (dn n)))
  | _ + 1, c => c
theorem dn_drep {w : World} {ok : Nat → Prop} : ∀ (n : Nat) (c : PV) (v : Value), DRep w ok c v → DRep w ok (dn n c) v
  | 0, _, _, h => h
  | n + 1, c, v, h => by
    cases h with
    | nil => exact .sl0 none 0
    | agg cs vs hl hd =>
      refine .agg _ vs (by simp [hl]) fun i c v e1 e2 => ?_
      rw [List.getElem?_map] at e1
      cases hq : cs[i]? with
      | none => rw [hq] at e1; simp at e1
      | some c0 => rw [hq] at e1; simp at e1; subst e1; exact dn_drep n _ _ (hd i c0 v hq e2)
    | sl0 a cap => exact .sl0 a cap
    | sl rows b off cap sz vals hb hs hcap hrow hcell hd =>
      have at_ : ∀ (i j : Nat) (row : List PV) (c : PV), (rows.map (·.map (dn n)))[i]? = some row → row[j]? = some c → ∃ row0 c0, rows[i]? = some row0 ∧ row0[j]? = some c0 ∧ dn n c0 = c := fun i j row c e1 e2 => map_at e1 e2
      have := DRep.sl (w := w) (ok := ok) (rows.map (·.map (dn n))) b off cap sz vals hb hs (by simpa using hcap) (fun row hr => by
        obtain ⟨r0, h0, rfl⟩ := List.mem_map.1 hr
        simpa using hrow r0 h0) (fun i j row c e1 e2 => by
        obtain ⟨row0, c0, f1, f2, _⟩ := at_ i j row c e1 e2
        exact hcell i j row0 c0 f1 f2) (fun i j row c e1 e2 => by
        obtain ⟨row0, c0, f1, f2, rfl⟩ := at_ i j row c e1 e2
        exact dn_drep n _ _ (hd i j row0 c0 f1 f2))
      rwa [List.length_map] at this
    | bool b => exact .bool b
    | int k m => exact .int k m
    | str s => exact .str s
    | tup cs vs hl hd => exact .tup cs vs hl hd
    | dref cs j b off vals h1 h2 h3 => exact .dref cs j b off vals h1 h2 h3
    | clo f caps vs hl hd => exact .clo f caps vs hl hd
    | mapd rows b es h1 h2 h3 h4 h5 h6 h7 => exact .mapd rows b es h1 h2 h3 h4 h5 h6 h7
    | raw u =>
      show DRep w ok (.raw v) v
      exact .raw v
theorem Ret.dn {P : Program} {m : Mode} {f : FuncId} {args : List PV} {r : PV} (n : Nat) (h : Ret P m f args r) : Ret P m f args (Pv.dn n r) :=
  ⟨h.1, fun w X args h1 h2 h3 => (h.2 w X args h1 h2 h3).mono fun _ _ ⟨v, e1, e2, e3⟩ => ⟨v, e1, e2, dn_drep n _ _ e3⟩⟩

def itemA : SItem := ⟨[97], [119], [⟨2, 1⟩], [], -1, false, []⟩
def itemB : SItem := ⟨[98], [119], [⟨1, 2⟩], [], -1, false, []⟩
def tradeW : STrade := ⟨[119], 2, 100⟩
def pairW : SWork := ⟨[itemA, itemB], [tradeW], [], [], [], 10, 0, 0, 9⟩
def pairS : List SSlot := [⟨[97], 0, 0⟩, ⟨[98], 0, 2⟩]
theorem pair_sane : Sane pairW := by
  refine ⟨by decide, by decide, by decide, by decide, by decide, by decide, fun x hx => ?_⟩
  simp [pairW] at hx
  rcases hx with rfl | rfl <;> decide
theorem pair_ret : Ret Try.prog .shared 42 [] (.agg (eWork pairW)) := by
  have : Ret Try.prog .shared 42 [] (.agg [.sl [[.str [97], .str [119], .sl [[I 2, I 1]], .str [], I (-1), .bool false, .nil], [.str [98], .str [119], .sl [[I 1, I 2]], .str [], I (-1), .bool false, .nil]], .sl [[.str [119], I 2, I 100]], .nil, .nil, .nil, I 10, I 0, I 0, I 9]) := by
    refine Ret.of_pwp layOk mixed Go.Proofs.Try.func42 rfl (by decide) rfl rfl ?_
    repeat (first|refine pq_end rfl ?_|(refine zs rfl ?_ ?_;·repeat' constructor)|(refine zq rfl ?_ ?_;·repeat' constructor)|refine zw rfl ?_|refine zx rfl ?_|refine zb rfl ?_)
    (first|refine zsq rfl (q_slit rfl rfl rfl rfl rfl rfl rfl rfl rfl rfl (by repeat' constructor) rfl) ?_|refine zqq rfl (q_slit rfl rfl rfl rfl rfl rfl rfl rfl rfl rfl (by repeat' constructor) rfl) ?_)
    repeat (first|refine pq_end rfl ?_|(refine zs rfl ?_ ?_;·repeat' constructor)|(refine zq rfl ?_ ?_;·repeat' constructor)|refine zw rfl ?_|refine zx rfl ?_|refine zb rfl ?_)
    (first|refine zsq rfl (q_slit rfl rfl rfl rfl rfl rfl rfl rfl rfl rfl (by repeat' constructor) rfl) ?_|refine zqq rfl (q_slit rfl rfl rfl rfl rfl rfl rfl rfl rfl rfl (by repeat' constructor) rfl) ?_)
    repeat (first|refine pq_end rfl ?_|(refine zs rfl ?_ ?_;·repeat' constructor)|(refine zq rfl ?_ ?_;·repeat' constructor)|refine zw rfl ?_|refine zx rfl ?_|refine zb rfl ?_)
    (first|refine zsq rfl (q_slit rfl rfl rfl rfl rfl rfl rfl rfl rfl rfl (by repeat' constructor) rfl) ?_|refine zqq rfl (q_slit rfl rfl rfl rfl rfl rfl rfl rfl rfl rfl (by repeat' constructor) rfl) ?_)
    repeat (first|refine pq_end rfl ?_|(refine zs rfl ?_ ?_;·repeat' constructor)|(refine zq rfl ?_ ?_;·repeat' constructor)|refine zw rfl ?_|refine zx rfl ?_|refine zb rfl ?_)
    (first|refine zsq rfl (q_slit rfl rfl rfl rfl rfl rfl rfl rfl rfl rfl (by repeat' constructor) rfl) ?_|refine zqq rfl (q_slit rfl rfl rfl rfl rfl rfl rfl rfl rfl rfl (by repeat' constructor) rfl) ?_)
    repeat (first|refine pq_end rfl ?_|(refine zs rfl ?_ ?_;·repeat' constructor)|(refine zq rfl ?_ ?_;·repeat' constructor)|refine zw rfl ?_|refine zx rfl ?_|refine zb rfl ?_)
    exact endc rfl rfl rfl rfl (by repeat' constructor) rfl
  exact this.dn 6
theorem pair_work : workE pairW = 0 := by decide +kernel
theorem pair_cost : Ret Try.prog .shared 41 [.agg (eWork pairW), .sl (pairS.map eSlot)] (.tup [I 430, I 0]) := by
  have h := costF_ret pairW pair_sane pairS
  have h1 : planE pairW pairS = 0 := by decide +kernel
  have h2 : costP pairW (placed pairW pairS) = 430 := by decide +kernel
  rw [h1, if_pos rfl, h2] at h
  exact h

/-! ### The bound of a trade -/
def sumT (w : SWork) (t : STrade) (a : Int) (x : SItem) : Int := if x.trade = t.name then a + lwP x else a
def sumB (w : SWork) (t : STrade) : Int := w.items.foldl (sumT w t) 0
def tradeB (w : SWork) (t : STrade) : Int := if sumB w t = 0 then 0 else (sumB w t + t.crew - 1).tdiv t.crew
theorem lwP_bound {w : SWork} {x : SItem} (h : ItemOk w x) : 0 ≤ lwP x ∧ lwP x ≤ 60000 := by
  have hm0 : x.modes[0]? = some (modeAt x 0) := by rw [modeAt]; show _ = some ((x.modes[0]?).getD _); rw [List.getElem?_eq_getElem (by have := h.modes; omega)]; rfl
  have h0 := h.mode _ (List.mem_of_getElem? hm0)
  have hb := mul_bound (A := 60) (B := 1000) (by omega) h0.1.2 h0.2.1.1 h0.2.1.2
  refine fold_bound' x.modes _ (fun a m hm ha hb => ?_) hb.1 hb.2
  have h1 := h.mode m hm
  have h2 := mul_bound (A := 60) (B := 1000) (by omega) h1.1.2 h1.2.1.1 h1.2.1.2
  unfold workF imin
  split <;> omega
theorem sumK_bound {w : SWork} (hv : Well w) (t : STrade) (k : Nat) (hk : k ≤ w.items.length) : 0 ≤ (w.items.take k).foldl (sumT w t) 0 ∧ (w.items.take k).foldl (sumT w t) 0 ≤ 60000 * k := by
  induction k with
  | zero => simp
  | succ k ih =>
    have ih := ih (by omega)
    obtain ⟨x, hx⟩ := get_lt (show k < w.items.length by omega)
    have hl := lwP_bound (hv.item x (List.mem_of_getElem? hx))
    rw [take_snoc hx, List.foldl_append]
    generalize List.foldl (sumT w t) 0 (w.items.take k) = a at ih ⊢
    show 0 ≤ sumT w t a x ∧ sumT w t a x ≤ _
    unfold sumT
    split <;> omega
theorem tradeBound_ret (w : SWork) (hv : Well w) (t : STrade) (ht : 0 ≤ t.crew ∧ t.crew ≤ 1000) (hc : sumB w t ≠ 0 → t.crew ≠ 0) : Ret Try.prog .shared 78 [.agg (eWork w), .agg (eTrade t)] (I (tradeB w t)) := by
  have hn := hv.n40
  have hsb := sumK_bound hv t w.items.length (Nat.le_refl _)
  rw [List.take_length] at hsb
  replace hsb : 0 ≤ sumB w t ∧ sumB w t ≤ 60000 * w.items.length := hsb
  have hml : (w.items.map eItem).length = w.items.length := by simp
  refine Ret.of_pwp layOk mixed Go.Proofs.Try.func78 rfl (by decide) rfl rfl ?_
  repeat (first|refine pq_end rfl ?_|(refine zs rfl ?_ ?_;·repeat' constructor)|(refine zq rfl ?_ ?_;·repeat' constructor)|refine zw rfl ?_|refine zx rfl ?_|refine zb rfl ?_)
  refine pw_loop (fun k => k ≤ w.items.length) (fun k => [(2, .ptr 2 1 0 0), (3, .ptr 3 1 0 0), (5, I ((w.items.take k).foldl (sumT w t) 0)), (11, .sl (w.items.map eItem)), (12, I w.items.length), (13, I k)]) (fun _ => [(2, 1, ⟨28, 9, [eWork w], 2⟩), (3, 1, ⟨86, 3, [eTrade t], 2⟩)]) (fun k => w.items.length - k) 0 (Nat.zero_le _) ⟨rfl, rfl, rfl, rfl, ?_, rfl, rfl, rfl, trivial⟩ ?_
  · show I ((w.items.map eItem).length) = _
    rw [hml]
  intro k s hk
  repeat (first|refine pq_end rfl ?_|(refine zs rfl ?_ ?_;·repeat' constructor)|(refine zq rfl ?_ ?_;·repeat' constructor)|refine zw rfl ?_|refine zx rfl ?_|refine zb rfl ?_)
  refine pw_cond rfl (fun h => ?_) (fun h => ?_)
  · have hlt : k < w.items.length := by simpa using h
    obtain ⟨x, hx⟩ := get_lt hlt
    clear h
    have hio := hv.item x (List.mem_of_getElem? hx)
    have hb := sumK_bound hv t (k + 1) hlt
    have hs := take_snoc hx
    rw [hs, List.foldl_append] at hb
    replace hb : 0 ≤ sumT w t ((w.items.take k).foldl (sumT w t) 0) x ∧ sumT w t ((w.items.take k).foldl (sumT w t) 0) x ≤ _ := hb
    repeat (first|refine pq_end rfl ?_|(refine zs rfl ?_ ?_;·repeat' constructor)|(refine zq rfl ?_ ?_;·repeat' constructor)|refine zw rfl ?_|refine zx rfl ?_|refine zb rfl ?_)
    (first|refine zsq rfl (q_idxm rfl rfl rfl rfl rfl (by omega) hx rfl) ?_|refine zqq rfl (q_idxm rfl rfl rfl rfl rfl (by omega) hx rfl) ?_)
    repeat (first|refine pq_end rfl ?_|(refine zs rfl ?_ ?_;·repeat' constructor)|(refine zq rfl ?_ ?_;·repeat' constructor)|refine zw rfl ?_|refine zx rfl ?_|refine zb rfl ?_)
    refine pw_cond rfl (fun h => ?_) (fun h => ?_)
    · have he : x.trade = t.name := of_decide_eq_true h
      clear h
      have hst : ∀ a, sumT w t a x = a + lwP x := fun a => by rw [sumT, if_pos he]
      rw [hst] at hb
      repeat (first|refine pq_end rfl ?_|(refine zs rfl ?_ ?_;·repeat' constructor)|(refine zq rfl ?_ ?_;·repeat' constructor)|refine zw rfl ?_|refine zx rfl ?_|refine zb rfl ?_)
      (first|refine zsq rfl (q_callP rfl (least_ret x hio.modes.1 (by have := hio.modes; omega) (fun m hm => by have := hio.mode m hm; exact ⟨this.1, this.2.1⟩)) rfl (by repeat' constructor) rfl rfl) ?_|refine zqq rfl (q_callP rfl (least_ret x hio.modes.1 (by have := hio.modes; omega) (fun m hm => by have := hio.mode m hm; exact ⟨this.1, this.2.1⟩)) rfl (by repeat' constructor) rfl rfl) ?_)
      repeat (first|refine pq_end rfl ?_|(refine zs rfl ?_ ?_;·repeat' constructor)|(refine zq rfl ?_ ?_;·repeat' constructor)|refine zw rfl ?_|refine zx rfl ?_|refine zb rfl ?_)
      refine ⟨k + 1, hlt, by omega, rfl, rfl, ?_, rfl, rfl, ?_, rfl, rfl, trivial⟩
      · rw [hs, List.foldl_append]
        show PV.int .i64 (IntKind.i64.wrap ((w.items.take k).foldl (sumT w t) 0 + lwP x)) = I (sumT w t ((w.items.take k).foldl (sumT w t) 0) x)
        rw [wrap_i64 (by omega) (by omega), hst]
      · exact i64_next (by omega) (by omega)
    · have he : ¬ x.trade = t.name := of_decide_eq_false h
      clear h
      have hst : ∀ a, sumT w t a x = a := fun a => by rw [sumT, if_neg he]
      repeat (first|refine pq_end rfl ?_|(refine zs rfl ?_ ?_;·repeat' constructor)|(refine zq rfl ?_ ?_;·repeat' constructor)|refine zw rfl ?_|refine zx rfl ?_|refine zb rfl ?_)
      refine ⟨k + 1, hlt, by omega, rfl, rfl, ?_, rfl, rfl, ?_, rfl, rfl, trivial⟩
      · rw [hs, List.foldl_append]
        show _ = I (sumT w t ((w.items.take k).foldl (sumT w t) 0) x)
        rw [hst]; rfl
      · exact i64_next (by omega) (by omega)
  · have hge : k = w.items.length := by have := of_decide_eq_false h; omega
    subst hge
    rw [List.take_length]
    clear h
    repeat (first|refine pq_end rfl ?_|(refine zs rfl ?_ ?_;·repeat' constructor)|(refine zq rfl ?_ ?_;·repeat' constructor)|refine zw rfl ?_|refine zx rfl ?_|refine zb rfl ?_)
    refine pw_cond rfl (fun h => ?_) (fun h => ?_)
    · have hz : sumB w t = 0 := of_decide_eq_true h
      repeat (first|refine pq_end rfl ?_|(refine zs rfl ?_ ?_;·repeat' constructor)|(refine zq rfl ?_ ?_;·repeat' constructor)|refine zw rfl ?_|refine zx rfl ?_|refine zb rfl ?_)
      exact end1i rfl rfl (by rw [tradeB, if_pos hz])
    · have hz : ¬ sumB w t = 0 := of_decide_eq_false h
      have hc := hc hz
      repeat (first|refine pq_end rfl ?_|(refine zs rfl ?_ ?_;·repeat' constructor)|(refine zq rfl ?_ ?_;·repeat' constructor)|refine zw rfl ?_|refine zx rfl ?_|refine zb rfl ?_)
      refine ps_v rfl hc ?_
      repeat (first|refine pq_end rfl ?_|(refine zs rfl ?_ ?_;·repeat' constructor)|(refine zq rfl ?_ ?_;·repeat' constructor)|refine zw rfl ?_|refine zx rfl ?_|refine zb rfl ?_)
      refine end1i rfl rfl ?_
      rw [tradeB, if_neg hz]
      show PV.int .i64 (IntKind.i64.wrap ((IntKind.i64.wrap (IntKind.i64.wrap (sumB w t + t.crew) - 1)).tdiv t.crew)) = _
      rw [wrap_i64 (n := sumB w t + t.crew) (by omega) (by omega), wrap_i64 (n := sumB w t + t.crew - 1) (by omega) (by omega)]
      have h1 := Int.tdiv_nonneg (a := sumB w t + t.crew - 1) (b := t.crew) (by omega) ht.1
      have h2 : (sumB w t + t.crew - 1).tdiv t.crew ≤ sumB w t + t.crew - 1 := by
        rw [Int.tdiv_eq_ediv_of_nonneg (by omega)]
        exact Int.ediv_le_self _ (by omega)
      rw [wrap_i64 (by omega) (by omega)]
end Go.Pv

/- The example's longest chain. -/
set_option maxHeartbeats 2000000
namespace Go.Pv
attribute [local irreducible] PWP POps PQuiet PSem XThen XBlock RetPost InlPost
open Go.Proofs

theorem endm {L : Lay} {s : St} {fn : Func} {r d : PV} {l : List PV} {A Cd : Prop} {fl : Fl} (h : rvs L s fn.results.toList = some (l, A)) (ha : A) (hres : res s 5 (tupled l) = some (d, Cd, fl)) (hc : Cd) (hd : d = r) : RetPost L fn .shared r .ret s := by
  unfold RetPost
  exact ⟨l, A, d, Cd, fl, h, ha, hres, hc, trivial, hd⟩

theorem pair_well : Well pairW := well_of pair_work
theorem pair_chain : Ret Try.prog .shared 116 [.agg (eWork pairW)] (.sl [[I 2], [I 1]]) := by
  have h := chainFrom_ret pairW pair_sane pair_well
  rw [show chainS pairW = [2, 1] by decide +kernel] at h
  exact h
theorem pair_bef : Ret Try.prog .shared 97 [.agg (eWork pairW)] (.sl [[.sl []], [.sl []]]) := by
  have h := before_ret pairW (by decide) (by decide)
  rw [show bef pairW = [[], []] by decide +kernel] at h
  exact h
theorem pair_index : Ret Try.prog .shared 117 [.sl [[I 2], [I 1]], I 2] (I 0) := by
  have h := indexI_ret [2, 1] 2 (by decide)
  rw [show idx [2, 1] (· == (2 : Int)) = 0 by decide +kernel] at h
  exact h
theorem pair_clo (x : Int) : Ret Try.prog .shared 120 [I x, .dref [I 0] 0] (.bool (x == 0)) := by
  refine Ret.of_pwp layOk mixed Go.Proofs.Try.func120 rfl (by decide) rfl rfl ?_
  repeat (first|refine pq_end rfl ?_|(refine zs rfl ?_ ?_;·repeat' constructor)|(refine zq rfl ?_ ?_;·repeat' constructor)|refine zw rfl ?_|refine zx rfl ?_|refine zb rfl ?_)
  exact end1b rfl rfl rfl
theorem pair_find : Ret Try.prog .shared 119 [.sl [[I 2], [I 1]], .clo 120 [.dref [I 0] 0]] (I (-1)) := by
  have h := indexFI_ret [2, 1] 120 [I 0] (· == 0) (by decide) (fun x _ => pair_clo x)
  rw [show idx [2, 1] (· == (0 : Int)) = -1 by decide +kernel] at h
  exact h
theorem pair_least : Ret Try.prog .shared 118 [.agg (eItem itemA)] (.tup [I 2, I 2]) := by
  have h := least_ret itemA (by decide) (by decide) (by intro m hm; simp [itemA] at hm; subst hm; decide)
  rw [show leastP itemA = 2 by decide +kernel, show lwP itemA = 2 by decide +kernel] at h
  exact h

def mxP : Nat → Int
  | 0 => 0
  | _ => 2
set_option maxRecDepth 20000 in
theorem pair_longest : Ret Try.prog .shared 77 [.agg (eWork pairW)] (.agg [I 2, .sl [[.str [97]]], .str []]) := by
  refine Ret.of_pwp layOk mixed Go.Proofs.Try.func77 rfl (by decide) rfl rfl ?_
  repeat (first|refine pq_end rfl ?_|(refine zs rfl ?_ ?_;·repeat' constructor)|(refine zq rfl ?_ ?_;·repeat' constructor)|refine zw rfl ?_|refine zx rfl ?_|refine zb rfl ?_)
  (first|refine zsq rfl (q_call rfl (pair_chain) rfl (by repeat' constructor) rfl) ?_|refine zqq rfl (q_call rfl (pair_chain) rfl (by repeat' constructor) rfl) ?_)
  repeat (first|refine pq_end rfl ?_|(refine zs rfl ?_ ?_;·repeat' constructor)|(refine zq rfl ?_ ?_;·repeat' constructor)|refine zw rfl ?_|refine zx rfl ?_|refine zb rfl ?_)
  (first|refine zsq rfl (q_call rfl (pair_bef) rfl (by repeat' constructor) rfl) ?_|refine zqq rfl (q_call rfl (pair_bef) rfl (by repeat' constructor) rfl) ?_)
  repeat (first|refine pq_end rfl ?_|(refine zs rfl ?_ ?_;·repeat' constructor)|(refine zq rfl ?_ ?_;·repeat' constructor)|refine zw rfl ?_|refine zx rfl ?_|refine zb rfl ?_)
  refine pw_loop (fun (k : Nat) => k ≤ 2) (fun k => [(1, .ptr 1 1 0 0), (2, .ptr 2 1 0 0), (3, .sl [[I 2], [I 1]]), (4, .sl [[.sl []], [.sl []]]), (5, .ptr 5 1 0 0), (19, .sl [[I 2], [I 1]]), (20, I 2), (21, I k)])
    (fun k => [(1, 1, ⟨28, 9, [eWork pairW], 2⟩), (2, 1, ⟨60, 3, [[I 0, .nil, .str []]], 2⟩), (5, 1, ⟨60, 3, [[I (mxP k), .nil, .str []]], 2⟩)]) (fun k => 2 - k) 0 (by omega) ⟨rfl, rfl, rfl, rfl, rfl, rfl, rfl, rfl, rfl, rfl, rfl, trivial⟩ ?_
  intro k s hk
  obtain rfl | rfl | rfl : k = 0 ∨ k = 1 ∨ k = 2 := by omega
  · repeat (first|refine pq_end rfl ?_|(refine zs rfl ?_ ?_;·repeat' constructor)|(refine zq rfl ?_ ?_;·repeat' constructor)|refine zw rfl ?_|refine zx rfl ?_|refine zb rfl ?_)
    refine zsq rfl (q_idx rfl rfl rfl rfl rfl (by decide) rfl rfl) ?_
    repeat (first|refine pq_end rfl ?_|(refine zs rfl ?_ ?_;·repeat' constructor)|(refine zq rfl ?_ ?_;·repeat' constructor)|refine zw rfl ?_|refine zx rfl ?_|refine zb rfl ?_)
    exact ⟨1, by omega, by omega, rfl, rfl, rfl, rfl, rfl, rfl, rfl, rfl, rfl, rfl, rfl, trivial⟩
  · repeat (first|refine pq_end rfl ?_|(refine zs rfl ?_ ?_;·repeat' constructor)|(refine zq rfl ?_ ?_;·repeat' constructor)|refine zw rfl ?_|refine zx rfl ?_|refine zb rfl ?_)
    refine zsq rfl (q_idx rfl rfl rfl rfl rfl (by decide) rfl rfl) ?_
    repeat (first|refine pq_end rfl ?_|(refine zs rfl ?_ ?_;·repeat' constructor)|(refine zq rfl ?_ ?_;·repeat' constructor)|refine zw rfl ?_|refine zx rfl ?_|refine zb rfl ?_)
    exact ⟨2, by omega, by omega, rfl, rfl, rfl, rfl, rfl, rfl, rfl, rfl, rfl, rfl, rfl, trivial⟩
  repeat (first|refine pq_end rfl ?_|(refine zs rfl ?_ ?_;·repeat' constructor)|(refine zq rfl ?_ ?_;·repeat' constructor)|refine zw rfl ?_|refine zx rfl ?_|refine zb rfl ?_)
  refine pw_ghost (Ghost.drop (k := 9) rfl) ?_
  refine pw_draw2 6 1 [31, 32, 33, 34, 35, 36, 9] [4,5] (by decide +kernel) rfl ?_
  repeat (first|refine pq_end rfl ?_|(refine zs rfl ?_ ?_;·repeat' constructor)|(refine zq rfl ?_ ?_;·repeat' constructor)|refine zw rfl ?_|refine zx rfl ?_|refine zb rfl ?_)
  (first|refine zsq rfl (q_callP rfl (pair_index) rfl (by repeat' constructor) rfl rfl) ?_|refine zqq rfl (q_callP rfl (pair_index) rfl (by repeat' constructor) rfl rfl) ?_)
  repeat (first|refine pq_end rfl ?_|(refine zs rfl ?_ ?_;·repeat' constructor)|(refine zq rfl ?_ ?_;·repeat' constructor)|refine zw rfl ?_|refine zx rfl ?_|refine zb rfl ?_)
  refine ⟨by kernel_rfl, ?_⟩
  repeat (first|refine pq_end rfl ?_|(refine zs rfl ?_ ?_;·repeat' constructor)|(refine zq rfl ?_ ?_;·repeat' constructor)|refine zw rfl ?_|refine zx rfl ?_|refine zb rfl ?_)
  refine pw_loop (fun (_ : Option Nat) => True)
    (fun i => [(1, .ptr 1 1 0 0), (2, .ptr 2 1 0 0), (3, .sl [[I 2], [I 1]]), (4, .sl [[.sl []], [.sl []]]), (5, .ptr 5 1 0 0), (8, match i with | none => I 0 | some _ => I (-1)), (9, .ptr 9 ((s.own 9).1 + 2 + 1) 0 0)])
    (fun i => match i with
      | none => [(1, 1, ⟨28, 9, [eWork pairW], 2⟩), (2, 1, ⟨60, 3, [[I 0, .nil, .str []]], 2⟩), (5, 1, ⟨60, 3, [[I 2, .nil, .str []]], 2⟩), (9, (s.own 9).1 + 2 + 1, ⟨3, 1, [[I 2]], 2⟩)]
      | some g => [(1, 1, ⟨28, 9, [eWork pairW], 2⟩), (2, 1, ⟨60, 3, [[I 0, .nil, .str []]], 2⟩), (5, 1, ⟨60, 3, [[I 2, .als 48 g 0 1, .str []]], 2⟩), (9, (s.own 9).1 + 2 + 1, ⟨3, 1, [[I 0]], 2⟩), (48, g, ⟨9, 1, [[.str [97]]], 0⟩)])
    (fun i => match i with | none => 1 | some _ => 0) none trivial ⟨rfl, rfl, rfl, rfl, rfl, rfl, rfl, rfl, rfl, rfl, rfl, trivial⟩ ?_
  intro i s2 _
  cases i with
  | none =>
    repeat (first|refine pq_end rfl ?_|(refine zs rfl ?_ ?_;·repeat' constructor)|(refine zq rfl ?_ ?_;·repeat' constructor)|refine zw rfl ?_|refine zx rfl ?_|refine zb rfl ?_)
    refine pw_draw 9 [39, 40, 41, 42, 43, 44, 45, 46, 47] (by decide +kernel) ?_
    repeat (first|refine pq_end rfl ?_|(refine zs rfl ?_ ?_;·repeat' constructor)|(refine zq rfl ?_ ?_;·repeat' constructor)|refine zw rfl ?_|refine zx rfl ?_|refine zb rfl ?_)
    refine zqq rfl (q_idx rfl rfl rfl rfl rfl (by decide) rfl rfl) ?_
    repeat (first|refine pq_end rfl ?_|(refine zs rfl ?_ ?_;·repeat' constructor)|(refine zq rfl ?_ ?_;·repeat' constructor)|refine zw rfl ?_|refine zx rfl ?_|refine zb rfl ?_)
    (first|refine zsq rfl (q_slit rfl rfl rfl rfl rfl rfl rfl rfl rfl rfl (by repeat' constructor) rfl) ?_|refine zqq rfl (q_slit rfl rfl rfl rfl rfl rfl rfl rfl rfl rfl (by repeat' constructor) rfl) ?_)
    repeat (first|refine pq_end rfl ?_|(refine zs rfl ?_ ?_;·repeat' constructor)|(refine zq rfl ?_ ?_;·repeat' constructor)|refine zw rfl ?_|refine zx rfl ?_|refine zb rfl ?_)
    refine ps_run (o_appN rfl rfl rfl rfl rfl rfl rfl rfl (by repeat' constructor) (by intro row hr; simp at hr; subst hr; rfl) (by decide) (by decide) ?_)
    repeat (first|refine pq_end rfl ?_|(refine zs rfl ?_ ?_;·repeat' constructor)|(refine zq rfl ?_ ?_;·repeat' constructor)|refine zw rfl ?_|refine zx rfl ?_|refine zb rfl ?_)
    refine zsq rfl (q_idx rfl rfl rfl rfl rfl (by decide) rfl rfl) ?_
    repeat (first|refine pq_end rfl ?_|(refine zs rfl ?_ ?_;·repeat' constructor)|(refine zq rfl ?_ ?_;·repeat' constructor)|refine zw rfl ?_|refine zx rfl ?_|refine zb rfl ?_)
    (first|refine zsq rfl (q_call rfl (pair_least) rfl (by repeat' constructor) rfl) ?_|refine zqq rfl (q_call rfl (pair_least) rfl (by repeat' constructor) rfl) ?_)
    repeat (first|refine pq_end rfl ?_|(refine zs rfl ?_ ?_;·repeat' constructor)|(refine zq rfl ?_ ?_;·repeat' constructor)|refine zw rfl ?_|refine zx rfl ?_|refine zb rfl ?_)
    (first|refine zsq rfl (q_callP rfl (pair_find) rfl (by repeat' constructor) rfl rfl) ?_|refine zqq rfl (q_callP rfl (pair_find) rfl (by repeat' constructor) rfl rfl) ?_)
    repeat (first|refine pq_end rfl ?_|(refine zs rfl ?_ ?_;·repeat' constructor)|(refine zq rfl ?_ ?_;·repeat' constructor)|refine zw rfl ?_|refine zx rfl ?_|refine zb rfl ?_)
    refine pw_loop (fun (_ : Unit) => True) (fun _ => [(1, .ptr 1 1 0 0), (2, .ptr 2 1 0 0), (3, .sl [[I 2], [I 1]]), (4, .sl [[.sl []], [.sl []]]), (5, .ptr 5 1 0 0), (8, I (-1)), (9, .ptr 9 ((s.own 9).1 + 2 + 1) 0 0)])
      (fun _ => [(1, 1, ⟨28, 9, [eWork pairW], 2⟩), (2, 1, ⟨60, 3, [[I 0, .nil, .str []]], 2⟩), (5, 1, ⟨60, 3, [[I 2, .als 48 ((s2.own 48).1 + 1) 0 1, .str []]], 2⟩), (9, (s.own 9).1 + 2 + 1, ⟨3, 1, [[I 0]], 2⟩), (48, (s2.own 48).1 + 1, ⟨9, 1, [[.str [97]]], 0⟩)])
      (fun _ => 0) () trivial ⟨rfl, rfl, rfl, rfl, rfl, rfl, rfl, rfl, rfl, rfl, rfl, rfl, trivial⟩ ?_
    intro _ s3 _
    repeat (first|refine pq_end rfl ?_|(refine zs rfl ?_ ?_;·repeat' constructor)|(refine zq rfl ?_ ?_;·repeat' constructor)|refine zw rfl ?_|refine zx rfl ?_|refine zb rfl ?_)
    exact ⟨some ((s2.own 48).1 + 1), trivial, Nat.zero_lt_one, rfl, rfl, rfl, rfl, rfl, rfl, rfl, rfl, rfl, rfl, rfl, rfl, trivial⟩
  | some g =>
    repeat (first|refine pq_end rfl ?_|(refine zs rfl ?_ ?_;·repeat' constructor)|(refine zq rfl ?_ ?_;·repeat' constructor)|refine zw rfl ?_|refine zx rfl ?_|refine zb rfl ?_)
    exact endc rfl rfl rfl rfl (by repeat' constructor) rfl
end Go.Pv

/- The earliest days: the program's answer, and the reference's. -/
set_option maxHeartbeats 2000000
namespace Go.Pv
attribute [local irreducible] PWP POps PQuiet PSem XThen XBlock RetPost InlPost
open Go.Proofs

def earliestR (w : SWork) : PV := if workE w = 0 then .tup [.sl ((earlyS w).1.map eI), I (earlyS w).2, I 0] else .tup [.nil, I 0, I (workE w)]
theorem earliest_ret (w : SWork) (hw : Sane w) : Ret Try.prog .shared 33 [.agg (eWork w)] (earliestR w) := by
  have h20 := checkWork_ret w hw
  by_cases hz : workE w = 0
  · have h85 := earliest0_ret w hw (well_of hz)
    rw [earliestR, if_pos hz]
    rw [hz] at h20
    refine Ret.of_pwp layOk mixed Go.Proofs.Try.func33 rfl (by decide) rfl rfl ?_
    repeat (first|refine pq_end rfl ?_|(refine zs rfl ?_ ?_;·repeat' constructor)|(refine zq rfl ?_ ?_;·repeat' constructor)|refine zw rfl ?_|refine zx rfl ?_|refine zb rfl ?_)
    (first|refine zsq rfl (q_callP rfl (h20) rfl (by repeat' constructor) rfl rfl) ?_|refine zqq rfl (q_callP rfl (h20) rfl (by repeat' constructor) rfl rfl) ?_)
    repeat (first|refine pq_end rfl ?_|(refine zs rfl ?_ ?_;·repeat' constructor)|(refine zq rfl ?_ ?_;·repeat' constructor)|refine zw rfl ?_|refine zx rfl ?_|refine zb rfl ?_)
    (first|refine zsq rfl (q_call rfl (h85) rfl (by repeat' constructor) rfl) ?_|refine zqq rfl (q_call rfl (h85) rfl (by repeat' constructor) rfl) ?_)
    repeat (first|refine pq_end rfl ?_|(refine zs rfl ?_ ?_;·repeat' constructor)|(refine zq rfl ?_ ?_;·repeat' constructor)|refine zw rfl ?_|refine zx rfl ?_|refine zb rfl ?_)
    exact endm rfl (by repeat' constructor) rfl (by repeat' constructor) rfl
  · rw [earliestR, if_neg hz]
    generalize workE w = e at *
    refine Ret.of_pwp layOk mixed Go.Proofs.Try.func33 rfl (by decide) rfl rfl ?_
    repeat (first|refine pq_end rfl ?_|(refine zs rfl ?_ ?_;·repeat' constructor)|(refine zq rfl ?_ ?_;·repeat' constructor)|refine zw rfl ?_|refine zx rfl ?_|refine zb rfl ?_)
    (first|refine zsq rfl (q_callP rfl (h20) rfl (by repeat' constructor) rfl rfl) ?_|refine zqq rfl (q_callP rfl (h20) rfl (by repeat' constructor) rfl rfl) ?_)
    repeat (first|refine pq_end rfl ?_|(refine zs rfl ?_ ?_;·repeat' constructor)|(refine zq rfl ?_ ?_;·repeat' constructor)|refine zw rfl ?_|refine zx rfl ?_|refine zb rfl ?_)
    refine pw_cond rfl (fun h => ?_) (fun h => ?_)
    · repeat (first|refine pq_end rfl ?_|(refine zs rfl ?_ ?_;·repeat' constructor)|(refine zq rfl ?_ ?_;·repeat' constructor)|refine zw rfl ?_|refine zx rfl ?_|refine zb rfl ?_)
      exact endm rfl (by repeat' constructor) rfl (by repeat' constructor) rfl
    · exact absurd (by simpa using h) hz

theorem idx_known {w : SWork} (hv : Well w) {x : SItem} (hx : x ∈ w.items) {j : Nat} {nm : Str} {m : Int} (h1 : x.after[j]? = some nm) (h2 : (aft w x)[j]? = some m) : idx w.items (·.name == nm) = m := by
  rw [aft, List.getElem?_map, h1] at h2
  have h2 := Option.some.inj h2
  rw [← h2]
  show _ = idx (w.items.map (·.name)) (· == nm)
  rw [idx_map]
theorem ord_name {w : SWork} (hv : Well w) {k i : Nat} {x : SItem} (hk : (ordS w)[k]? = some (i : Int)) (hx : w.items[i]? = some x) : ((ordS w).map (nameAt w))[k]? = some x.name := by
  rw [List.getElem?_map, hk]
  exact congrArg some (nameAt_at hx)
theorem order_ref' (w : SWork) (hw : Sane w) (hv : Well w) : Ret Try.prog .shared 22 [.agg (eWork w)] (.sl (((ordS w).map (nameAt w)).map eS)) := by
  have := order_ref w hw
  rwa [(refOrd_eq hv.good).1] at this

set_option maxRecDepth 20000 in
theorem earliest_ref (w : SWork) (hw : Sane w) (hv : Well w) : Ret Try.prog .shared 36 [.agg (eWork w)] (.tup [.sl ((earlyS w).1.map eI), I (earlyS w).2]) := by
  have h1 := hw.items
  have hn40 := hv.n40
  have hol := ordS_len w
  have hwl : ((w.items.map eItem).length : Int) = w.items.length := by simp
  have hLl : ((((ordS w).map (nameAt w)).map eS).length : Int) = (ordS w).length := by simp
  refine Ret.of_pwp layOk mixed Go.Proofs.Try.func36 rfl (by decide) rfl rfl ?_
  repeat (first|refine pq_end rfl ?_|(refine zs rfl ?_ ?_;·repeat' constructor)|(refine zq rfl ?_ ?_;·repeat' constructor)|refine zw rfl ?_|refine zx rfl ?_|refine zb rfl ?_)
  refine ps_run (o_make rfl rfl rfl rfl rfl rfl rfl rfl (by omega) (by rw [hwl]; show ((8 : Nat) : Int) * _ ≤ _; omega) (by rw [hwl]; omega) ?_)
  repeat (first|refine pq_end rfl ?_|(refine zs rfl ?_ ?_;·repeat' constructor)|(refine zq rfl ?_ ?_;·repeat' constructor)|refine zw rfl ?_|refine zx rfl ?_|refine zb rfl ?_)
  (first|refine zsq rfl (q_call rfl (order_ref' w hw hv) rfl (by repeat' constructor) rfl) ?_|refine zqq rfl (q_call rfl (order_ref' w hw hv) rfl (by repeat' constructor) rfl) ?_)
  repeat (first|refine pq_end rfl ?_|(refine zs rfl ?_ ?_;·repeat' constructor)|(refine zq rfl ?_ ?_;·repeat' constructor)|refine zw rfl ?_|refine zx rfl ?_|refine zb rfl ?_)
  refine pw_loop (fun k => k ≤ (ordS w).length) (fun k => [(1, .ptr 1 1 0 0), (4, .als 14 1 0 w.items.length), (5, I (earlyK2 w k).2), (6, .sl (((ordS w).map (nameAt w)).map eS)), (7, I k)])
    (fun k => [(1, 1, ⟨28, 9, [eWork w], 2⟩), (14, 1, ⟨3, 1, (earlyK2 w k).1.map eI, 0⟩)]) (fun k => (ordS w).length - k) 0 (Nat.zero_le _) ⟨rfl, ?_, rfl, rfl, rfl, rfl, ?_, trivial⟩ ?_
  · show PV.als 14 1 0 (List.length (List.replicate (Int.toNat (w.items.map eItem).length) _)) = _
    simp
  · show (1, some (Cont.mk 3 1 (List.replicate (Int.toNat (w.items.map eItem).length) _) 0)) = _
    simp [earlyK2, eI]
  intro k s hk
  obtain ⟨hc1, hc2, hc3, hc4⟩ := earlyK2_ok hw hv k hk
  repeat (first|refine pq_end rfl ?_|(refine zs rfl ?_ ?_;·repeat' constructor)|(refine zq rfl ?_ ?_;·repeat' constructor)|refine zw rfl ?_|refine zx rfl ?_|refine zb rfl ?_)
  refine pw_cond rfl (fun h => ?_) (fun h => ?_)
  · have hlt : k < (ordS w).length := by have := of_decide_eq_true h; omega
    clear h
    obtain ⟨y0, hy0⟩ := get_lt hlt
    obtain ⟨i, x, rfl, hx⟩ := (refOrd_eq hv.good).2 y0 (List.mem_of_getElem? hy0)
    have hil := (List.getElem?_eq_some_iff.1 hx).1
    have hxm := List.mem_of_getElem? hx
    have hax := hw.after x hxm
    have hal : (aft w x).length = x.after.length := by simp [aft]
    have hio := hv.item x hxm
    have hlb := leastP_bound hio
    have hnm := ord_name hv hy0 hx
    have hiu := hv.good.uniq i x hx
    have h24 := itemOf_ret w x.name (by omega)
    rw [hiu] at h24
    have hkr := known_row hv hxm
    have hro := fun j hj => rowE_ok hv (i : Int) hkr hc2 (by omega) j hj
    have hsucc := earlyK2_succ hy0 hx
    generalize earlyK2 w k = st at *
    obtain ⟨out, last⟩ := st
    replace hc1 : out.length = w.items.length := hc1
    replace hc3 : 0 ≤ last := hc3
    replace hc4 : last ≤ 6000060 * (k : Int) := hc4
    replace hro : ∀ j, j ≤ (aft w x).length → (rowE w i ((aft w x).take j) out).length = out.length ∧ BndL (rowE w i ((aft w x).take j) out) (6000060 * k + 60 * j) := hro
    replace hsucc : earlyK2 w (k + 1) = (rowE w i (aft w x) out, imax last ((rowE w i (aft w x) out).getD i 0 + leastP x)) := hsucc
    repeat (first|refine pq_end rfl ?_|(refine zs rfl ?_ ?_;·repeat' constructor)|(refine zq rfl ?_ ?_;·repeat' constructor)|refine zw rfl ?_|refine zx rfl ?_|refine zb rfl ?_)
    refine pw_draw 7 [23, 24, 25, 26, 27, 28, 8] (by decide +kernel) ?_
    repeat (first|refine pq_end rfl ?_|(refine zs rfl ?_ ?_;·repeat' constructor)|(refine zq rfl ?_ ?_;·repeat' constructor)|refine zw rfl ?_|refine zx rfl ?_|refine zb rfl ?_)
    (first|refine zsq rfl (q_idxm rfl rfl rfl rfl rfl (by omega) hnm rfl) ?_|refine zqq rfl (q_idxm rfl rfl rfl rfl rfl (by omega) hnm rfl) ?_)
    repeat (first|refine pq_end rfl ?_|(refine zs rfl ?_ ?_;·repeat' constructor)|(refine zq rfl ?_ ?_;·repeat' constructor)|refine zw rfl ?_|refine zx rfl ?_|refine zb rfl ?_)
    (first|refine zsq rfl (q_callP rfl (h24) rfl (by repeat' constructor) rfl rfl) ?_|refine zqq rfl (q_callP rfl (h24) rfl (by repeat' constructor) rfl rfl) ?_)
    repeat (first|refine pq_end rfl ?_|(refine zs rfl ?_ ?_;·repeat' constructor)|(refine zq rfl ?_ ?_;·repeat' constructor)|refine zw rfl ?_|refine zx rfl ?_|refine zb rfl ?_)
    refine pw_loop (fun j => j ≤ (aft w x).length) (fun j => [(1, .ptr 1 1 0 0), (4, .als 14 1 0 w.items.length), (5, I last), (6, .sl (((ordS w).map (nameAt w)).map eS)), (7, I k), (8, I i), (9, I j)])
      (fun j => [(1, 1, ⟨28, 9, [eWork w], 2⟩), (14, 1, ⟨3, 1, (rowE w i ((aft w x).take j) out).map eI, 0⟩)]) (fun j => (aft w x).length - j) 0 (Nat.zero_le _) ⟨rfl, rfl, rfl, rfl, rfl, rfl, rfl, rfl, rfl, trivial⟩ ?_
    intro j s2 hj
    obtain ⟨ho1, ho2⟩ := hro j hj
    repeat (first|refine pq_end rfl ?_|(refine zs rfl ?_ ?_;·repeat' constructor)|(refine zq rfl ?_ ?_;·repeat' constructor)|refine zw rfl ?_|refine zx rfl ?_|refine zb rfl ?_)
    (first|refine zsq rfl (q_idxm rfl rfl rfl rfl rfl (by omega) hx rfl) ?_|refine zqq rfl (q_idxm rfl rfl rfl rfl rfl (by omega) hx rfl) ?_)
    repeat (first|refine pq_end rfl ?_|(refine zs rfl ?_ ?_;·repeat' constructor)|(refine zq rfl ?_ ?_;·repeat' constructor)|refine zw rfl ?_|refine zx rfl ?_|refine zb rfl ?_)
    refine pw_cond rfl (fun h => ?_) (fun h => ?_)
    · have hlt' : j < (aft w x).length := by have := of_decide_eq_true h; rw [List.length_map] at this; omega
      clear h
      obtain ⟨m0, hm0⟩ := get_lt hlt'
      obtain ⟨m, y, rfl, hy⟩ := hkr m0 (List.mem_of_getElem? hm0)
      obtain ⟨nm, hn2⟩ := get_lt (show j < x.after.length by omega)
      have h24m := itemOf_ret w nm (by omega)
      rw [idx_known hv hxm hn2 hm0] at h24m
      have hml := (List.getElem?_eq_some_iff.1 hy).1
      have hyo := hv.item y (List.mem_of_getElem? hy)
      have hly := leastP_bound hyo
      have hs : rowE w i ((aft w x).take (j + 1)) out = stepE w i (rowE w i ((aft w x).take j) out) m := by rw [rowE, take_snoc hm0, List.foldl_append]; rfl
      rw [stepE, itP_at hy, Int.toNat_natCast, Int.toNat_natCast] at hs
      generalize rowE w i ((aft w x).take j) out = OUT at *
      have r1 : (OUT.map eI)[0 + (i : Int).toNat]? = some (eI (OUT.getD i 0)) := by rw [Nat.zero_add, Int.toNat_natCast, List.getElem?_map, List.getD_eq_getElem?_getD, List.getElem?_eq_getElem (by omega)]; rfl
      have r2 : (OUT.map eI)[0 + (m : Int).toNat]? = some (eI (OUT.getD m 0)) := by rw [Nat.zero_add, Int.toNat_natCast, List.getElem?_map, List.getD_eq_getElem?_getD, List.getElem?_eq_getElem (by omega)]; rfl
      have b2 := ho2.getZ (by omega) m
      repeat (first|refine pq_end rfl ?_|(refine zs rfl ?_ ?_;·repeat' constructor)|(refine zq rfl ?_ ?_;·repeat' constructor)|refine zw rfl ?_|refine zx rfl ?_|refine zb rfl ?_)
      refine pw_draw 12 [40, 41, 42, 43, 44, 45, 46, 47, 48, 49, 50, 10] (by decide +kernel) ?_
      repeat (first|refine pq_end rfl ?_|(refine zs rfl ?_ ?_;·repeat' constructor)|(refine zq rfl ?_ ?_;·repeat' constructor)|refine zw rfl ?_|refine zx rfl ?_|refine zb rfl ?_)
      (first|refine zsq rfl (q_idxm rfl rfl rfl rfl rfl (by omega) hx rfl) ?_|refine zqq rfl (q_idxm rfl rfl rfl rfl rfl (by omega) hx rfl) ?_)
      repeat (first|refine pq_end rfl ?_|(refine zs rfl ?_ ?_;·repeat' constructor)|(refine zq rfl ?_ ?_;·repeat' constructor)|refine zw rfl ?_|refine zx rfl ?_|refine zb rfl ?_)
      (first|refine zsq rfl (q_idxm rfl rfl rfl rfl rfl (by omega) hn2 rfl) ?_|refine zqq rfl (q_idxm rfl rfl rfl rfl rfl (by omega) hn2 rfl) ?_)
      repeat (first|refine pq_end rfl ?_|(refine zs rfl ?_ ?_;·repeat' constructor)|(refine zq rfl ?_ ?_;·repeat' constructor)|refine zw rfl ?_|refine zx rfl ?_|refine zb rfl ?_)
      (first|refine zsq rfl (q_callP rfl (h24m) rfl (by repeat' constructor) rfl rfl) ?_|refine zqq rfl (q_callP rfl (h24m) rfl (by repeat' constructor) rfl rfl) ?_)
      repeat (first|refine pq_end rfl ?_|(refine zs rfl ?_ ?_;·repeat' constructor)|(refine zq rfl ?_ ?_;·repeat' constructor)|refine zw rfl ?_|refine zx rfl ?_|refine zb rfl ?_)
      refine pw_draw 19 [51, 52, 53, 54, 55, 56, 57, 58, 59, 60, 61, 62, 63, 64, 65, 66, 67, 68, 69] (by decide +kernel) ?_
      repeat (first|refine pq_end rfl ?_|(refine zs rfl ?_ ?_;·repeat' constructor)|(refine zq rfl ?_ ?_;·repeat' constructor)|refine zw rfl ?_|refine zx rfl ?_|refine zb rfl ?_)
      refine zqq rfl (q_idxA rfl rfl rfl rfl rfl rfl rfl (by omega) (by omega)) ?_
      repeat (first|refine pq_end rfl ?_|(refine zs rfl ?_ ?_;·repeat' constructor)|(refine zq rfl ?_ ?_;·repeat' constructor)|refine zw rfl ?_|refine zx rfl ?_|refine zb rfl ?_)
      refine zqq rfl (q_ldp rfl rfl rfl r1 rfl) ?_
      repeat (first|refine pq_end rfl ?_|(refine zs rfl ?_ ?_;·repeat' constructor)|(refine zq rfl ?_ ?_;·repeat' constructor)|refine zw rfl ?_|refine zx rfl ?_|refine zb rfl ?_)
      refine zqq rfl (q_idxA rfl rfl rfl rfl rfl rfl rfl (by omega) (by omega)) ?_
      repeat (first|refine pq_end rfl ?_|(refine zs rfl ?_ ?_;·repeat' constructor)|(refine zq rfl ?_ ?_;·repeat' constructor)|refine zw rfl ?_|refine zx rfl ?_|refine zb rfl ?_)
      refine zqq rfl (q_ldp rfl rfl rfl r2 rfl) ?_
      repeat (first|refine pq_end rfl ?_|(refine zs rfl ?_ ?_;·repeat' constructor)|(refine zq rfl ?_ ?_;·repeat' constructor)|refine zw rfl ?_|refine zx rfl ?_|refine zb rfl ?_)
      (first|refine zsq rfl (q_idxm rfl rfl rfl rfl rfl (by omega) hy rfl) ?_|refine zqq rfl (q_idxm rfl rfl rfl rfl rfl (by omega) hy rfl) ?_)
      repeat (first|refine pq_end rfl ?_|(refine zs rfl ?_ ?_;·repeat' constructor)|(refine zq rfl ?_ ?_;·repeat' constructor)|refine zw rfl ?_|refine zx rfl ?_|refine zb rfl ?_)
      (first|refine zsq rfl (q_callP rfl (least_ref y hyo.modes.1 (by have := hyo.modes; omega)) rfl (by repeat' constructor) rfl rfl) ?_|refine zqq rfl (q_callP rfl (least_ref y hyo.modes.1 (by have := hyo.modes; omega)) rfl (by repeat' constructor) rfl rfl) ?_)
      repeat (first|refine pq_end rfl ?_|(refine zs rfl ?_ ?_;·repeat' constructor)|(refine zq rfl ?_ ?_;·repeat' constructor)|refine zw rfl ?_|refine zx rfl ?_|refine zb rfl ?_)
      refine zqq rfl (q_idxA rfl rfl rfl rfl rfl rfl rfl (by omega) (by omega)) ?_
      repeat (first|refine pq_end rfl ?_|(refine zs rfl ?_ ?_;·repeat' constructor)|(refine zq rfl ?_ ?_;·repeat' constructor)|refine zw rfl ?_|refine zx rfl ?_|refine zb rfl ?_)
      refine ps_run0 (o_store (kd' := 0) rfl rfl rfl r1 rfl rfl (by repeat' constructor) rfl rfl rfl rfl ?_)
      repeat (first|refine pq_end rfl ?_|(refine zs rfl ?_ ?_;·repeat' constructor)|(refine zq rfl ?_ ?_;·repeat' constructor)|refine zw rfl ?_|refine zx rfl ?_|refine zb rfl ?_)
      refine ⟨j + 1, hlt', by omega, rfl, rfl, rfl, rfl, rfl, rfl, ?_, rfl, ?_, trivial⟩
      · exact i64_next (by omega) (by omega)
      · rw [hs, List.map_set]
        show (1, some (Cont.mk 3 1 ((OUT.map eI).set (0 + (i : Int).toNat) [I (imax (OUT.getD i 0) (IntKind.i64.wrap (OUT.getD m 0 + leastP y)))]) 0)) = _
        rw [Nat.zero_add, Int.toNat_natCast, wrap_i64 (by omega) (by omega)]
        rfl
    · have hge : j = (aft w x).length := by have := of_decide_eq_false h; rw [List.length_map] at this; omega
      subst hge
      clear h
      rw [List.take_length] at ho1 ho2 ⊢
      generalize rowE w i (aft w x) out = OUT at *
      have r1 : (OUT.map eI)[0 + (i : Int).toNat]? = some (eI (OUT.getD i 0)) := by rw [Nat.zero_add, Int.toNat_natCast, List.getElem?_map, List.getD_eq_getElem?_getD, List.getElem?_eq_getElem (by omega)]; rfl
      have b1 := ho2.getZ (by omega) i
      repeat (first|refine pq_end rfl ?_|(refine zs rfl ?_ ?_;·repeat' constructor)|(refine zq rfl ?_ ?_;·repeat' constructor)|refine zw rfl ?_|refine zx rfl ?_|refine zb rfl ?_)
      refine pw_draw 13 [70, 71, 72, 73, 74, 75, 76, 77, 78, 79, 80, 81, 82] (by decide +kernel) ?_
      repeat (first|refine pq_end rfl ?_|(refine zs rfl ?_ ?_;·repeat' constructor)|(refine zq rfl ?_ ?_;·repeat' constructor)|refine zw rfl ?_|refine zx rfl ?_|refine zb rfl ?_)
      refine zqq rfl (q_idxA rfl rfl rfl rfl rfl rfl rfl (by omega) (by omega)) ?_
      repeat (first|refine pq_end rfl ?_|(refine zs rfl ?_ ?_;·repeat' constructor)|(refine zq rfl ?_ ?_;·repeat' constructor)|refine zw rfl ?_|refine zx rfl ?_|refine zb rfl ?_)
      refine zqq rfl (q_ldp rfl rfl rfl r1 rfl) ?_
      repeat (first|refine pq_end rfl ?_|(refine zs rfl ?_ ?_;·repeat' constructor)|(refine zq rfl ?_ ?_;·repeat' constructor)|refine zw rfl ?_|refine zx rfl ?_|refine zb rfl ?_)
      (first|refine zsq rfl (q_idxm rfl rfl rfl rfl rfl (by omega) hx rfl) ?_|refine zqq rfl (q_idxm rfl rfl rfl rfl rfl (by omega) hx rfl) ?_)
      repeat (first|refine pq_end rfl ?_|(refine zs rfl ?_ ?_;·repeat' constructor)|(refine zq rfl ?_ ?_;·repeat' constructor)|refine zw rfl ?_|refine zx rfl ?_|refine zb rfl ?_)
      (first|refine zsq rfl (q_callP rfl (least_ref x hio.modes.1 (by have := hio.modes; omega)) rfl (by repeat' constructor) rfl rfl) ?_|refine zqq rfl (q_callP rfl (least_ref x hio.modes.1 (by have := hio.modes; omega)) rfl (by repeat' constructor) rfl rfl) ?_)
      repeat (first|refine pq_end rfl ?_|(refine zs rfl ?_ ?_;·repeat' constructor)|(refine zq rfl ?_ ?_;·repeat' constructor)|refine zw rfl ?_|refine zx rfl ?_|refine zb rfl ?_)
      refine ⟨k + 1, hlt, by omega, rfl, rfl, ?_, rfl, i64_next (by omega) (by omega), rfl, ?_, trivial⟩
      · rw [hsucc]
        show I (imax last (IntKind.i64.wrap (OUT.getD i 0 + leastP x))) = I (imax last (OUT.getD i 0 + leastP x))
        rw [wrap_i64 (by omega) (by omega)]
      · rw [hsucc]; rfl
  · have hge : k = (ordS w).length := by have := of_decide_eq_false h; omega
    subst hge
    have hfin : earlyK2 w (ordS w).length = earlyS w := by rw [earlyK2, List.take_length, earlyS]
    rw [hfin] at hc1 ⊢
    repeat (first|refine pq_end rfl ?_|(refine zs rfl ?_ ?_;·repeat' constructor)|(refine zq rfl ?_ ?_;·repeat' constructor)|refine zw rfl ?_|refine zx rfl ?_|refine zb rfl ?_)
    exact end2 rfl rfl rfl rfl rfl ⟨rfl, rfl, by rw [List.length_map, hc1]⟩ trivial rfl
end Go.Pv

/- The latest days: what the program reckons. -/
set_option maxHeartbeats 2000000
namespace Go.Pv
attribute [local irreducible] PWP POps PQuiet PSem XThen XBlock RetPost InlPost
open Go.Proofs

/-- Numbers from 'A' to 'B'. -/
def BndR (a : List Int) (A B : Int) : Prop := ∀ v ∈ a, A ≤ v ∧ v ≤ B
theorem BndR.mono {a : List Int} {A A' B B' : Int} (h : BndR a A B) (h1 : A' ≤ A) (h2 : B ≤ B') : BndR a A' B' := fun v hv => ⟨Int.le_trans h1 (h v hv).1, Int.le_trans (h v hv).2 h2⟩
theorem BndR.get {a : List Int} {A B : Int} (h : BndR a A B) {d : Nat} (hd : d < a.length) : A ≤ a.getD d 0 ∧ a.getD d 0 ≤ B := by
  rw [List.getD_eq_getElem?_getD, List.getElem?_eq_getElem hd]
  exact h _ (List.getElem_mem hd)
theorem BndR.set {a : List Int} {A B : Int} (h : BndR a A B) {d : Nat} {v : Int} (hv : A ≤ v ∧ v ≤ B) : BndR (a.set d v) A B := by
  intro u hu
  rcases List.mem_or_eq_of_mem_set hu with h1 | rfl
  · exact h u h1
  · exact hv

def cutL (o : Int) (en : List Int) (k : Int) : List Int := en.set k.toNat (imin (en.getD k.toNat 0) o)
def rowL (o : Int) (row : List Int) (en : List Int) : List Int := row.foldl (cutL o) en
def latF (w : SWork) (s : List Int × List Int) (i : Int) : List Int × List Int := (rowL (s.1.getD i.toNat 0 - leastP (itP w i)) ((bef w).getD i.toNat []) s.1, s.2.set i.toNat (s.1.getD i.toNat 0 - leastP (itP w i)))
def latK (w : SWork) (days : Int) (k : Nat) : List Int × List Int := ((ordS w).reverse.take k).foldl (latF w) (List.replicate w.items.length days, List.replicate w.items.length 0)
def latS (w : SWork) (days : Int) : List Int := ((ordS w).reverse.foldl (latF w) (List.replicate w.items.length days, List.replicate w.items.length 0)).2
theorem rowL_ok {w : SWork} {o A B : Int} (ho : A ≤ o ∧ o ≤ B) {row : List Int} (hr : KnownRow w row) {en : List Int} (hl : en.length = w.items.length) (h : BndR en A B) (j : Nat) (hj : j ≤ row.length) : (rowL o (row.take j) en).length = w.items.length ∧ BndR (rowL o (row.take j) en) A B := by
  induction j with
  | zero => exact ⟨hl, h⟩
  | succ j ih =>
    obtain ⟨h1, h2⟩ := ih (by omega)
    obtain ⟨k, hk⟩ := get_lt (show j < row.length by omega)
    obtain ⟨m, y, rfl, hy⟩ := hr k (List.mem_of_getElem? hk)
    have hml := (List.getElem?_eq_some_iff.1 hy).1
    have hs : rowL o (row.take (j + 1)) en = cutL o (rowL o (row.take j) en) m := by rw [rowL, take_snoc hk, List.foldl_append]; rfl
    rw [hs, cutL]
    have b := h2.get (d := (m : Int).toNat) (by rw [h1, Int.toNat_natCast]; exact hml)
    refine ⟨by rw [List.length_set, h1], h2.set ?_⟩
    unfold imin
    split <;> omega
theorem latK_succ {w : SWork} {days : Int} {k i : Nat} {x : SItem} (hk : (ordS w).reverse[k]? = some (i : Int)) (hx : w.items[i]? = some x) :
    latK w days (k + 1) = (rowL ((latK w days k).1.getD i 0 - leastP x) (aft w x) (latK w days k).1, (latK w days k).2.set i ((latK w days k).1.getD i 0 - leastP x)) := by
  have hbx : (bef w).getD i [] = aft w x := by rw [List.getD_eq_getElem?_getD, bef, List.getElem?_map, hx]; rfl
  rw [latK, take_snoc hk, List.foldl_append]
  show latF w (latK w days k) i = _
  rw [latF, Int.toNat_natCast, hbx, itP_at hx]
theorem rev_known {w : SWork} (hv : Well w) {k : Nat} {y : Int} (hy : (ordS w).reverse[k]? = some y) : ∃ (i : Nat) (x : SItem), y = i ∧ w.items[i]? = some x :=
  (refOrd_eq hv.good).2 y (by simpa using List.mem_of_getElem? hy)
theorem latK_ok {w : SWork} (hv : Well w) {days : Int} (hd : 0 ≤ days) (k : Nat) (hk : k ≤ (ordS w).length) : (latK w days k).1.length = w.items.length ∧ BndR (latK w days k).1 (days - 60 * k) days ∧ (latK w days k).2.length = w.items.length ∧ BndR (latK w days k).2 (- 60 * k) days := by
  induction k with
  | zero => exact ⟨by simp [latK], fun v hv => by simp [latK] at hv; omega, by simp [latK], fun v hv => by simp [latK] at hv; omega⟩
  | succ k ih =>
    obtain ⟨h1, h2, h3, h4⟩ := ih (by omega)
    obtain ⟨y, hy⟩ := get_lt (show k < (ordS w).reverse.length by simp; omega)
    obtain ⟨i, x, rfl, hx⟩ := rev_known hv hy
    have hxm := List.mem_of_getElem? hx
    have hil := (List.getElem?_eq_some_iff.1 hx).1
    have hl := leastP_bound (hv.item x hxm)
    have b := h2.get (d := i) (by omega)
    rw [latK_succ hy hx]
    have hr := rowL_ok (w := w) (o := (latK w days k).1.getD i 0 - leastP x) (A := days - 60 * ((k + 1 : Nat) : Int)) (B := days) (by omega) (known_row hv hxm) h1 (h2.mono (by omega) (by omega)) (aft w x).length (Nat.le_refl _)
    rw [List.take_length] at hr
    exact ⟨hr.1, hr.2, by rw [List.length_set, h3], (h4.mono (by omega) (by omega)).set (by omega)⟩
end Go.Pv

/- The latest days: the program's walk. -/
set_option maxHeartbeats 2000000
namespace Go.Pv
attribute [local irreducible] PWP POps PQuiet PSem XThen XBlock RetPost InlPost
open Go.Proofs

set_option maxRecDepth 20000 in
theorem reverse35 {K : St → Prop} {s : St} {d : Nat} {x : Operand} {tys : Array TypeId} {ty : TypeId} {pos : String} {af : Array Edge} (w : SWork) (g2 g : Nat) (R R2 : List (List PV)) (l : List Int) (hl : l.length ≤ 1000000) (hx : s.ev x = .als 35 g 0 (l.map eI).length) (ho : FitO s [(2, 1, ⟨28, 9, [eWork w], 2⟩), (20, 1, ⟨3, 1, R, 0⟩), (33, g2, ⟨3, 1, R2, 0⟩), (35, g, ⟨3, 1, l.map eI, 0⟩)])
    (hK : ∀ s1 : St, K (({ reg := s.reg, own := (s1.over [] [(2, 1, ⟨28, 9, [eWork w], 2⟩), (20, 1, ⟨3, 1, R, 0⟩), (33, g2, ⟨3, 1, R2, 0⟩), (35, g, ⟨3, 1, l.reverse.map eI, 0⟩)]).own } : St).putR d (.tup []))) :
    Sm Try.prog lay.get s ⟨some d, .call ⟨.value (.func 124), #[x], tys⟩, ty, pos, af, none⟩ K := by
  have hsub : ∀ (r : List Int), ((r.map eI).length : Int) = r.length := fun r => by simp
  refine sm_inline layOk rfl rfl Try.func124 rfl (by decide) rfl rfl ?_
  have hargs : (([x] : List Operand).map s.ev ++ ([] : List PV)) = [.als 35 g 0 (l.map eI).length] := by simp [hx]
  show PWP _ _ _ _ (callSt s (([x] : List Operand).map s.ev ++ []))
  rw [hargs]
  rw [show callSt s [.als 35 g 0 (l.map eI).length] = callSt (s.over [] [(2, 1, ⟨28, 9, [eWork w], 2⟩), (20, 1, ⟨3, 1, R, 0⟩), (33, g2, ⟨3, 1, R2, 0⟩), (35, g, ⟨3, 1, l.map eI, 0⟩)]) [.als 35 g 0 (l.map eI).length] by rw [Fit.over (l := []) ho]]
  repeat (first|refine pq_end rfl ?_|(refine zs rfl ?_ ?_;·repeat' constructor)|(refine zq rfl ?_ ?_;·repeat' constructor)|refine zw rfl ?_|refine zx rfl ?_|refine zb rfl ?_)
  refine pw_loop (RevAt l) (fun q => [(0, .als 35 g 0 (l.map eI).length), (2, I q.1), (3, I ((l.length : Int) - 1 - q.1))]) (fun q => [(2, 1, ⟨28, 9, [eWork w], 2⟩), (20, 1, ⟨3, 1, R, 0⟩), (33, g2, ⟨3, 1, R2, 0⟩), (35, g, ⟨3, 1, q.2.map eI, 0⟩)]) (fun q => l.length - q.1) (0, l) (.zero l) ⟨rfl, rfl, ?_, rfl, rfl, rfl, rfl, trivial⟩ ?_
  · show PV.int .i64 (IntKind.i64.wrap (((l.map eI).length : Int) - 1)) = _
    rw [wrap_i64 (by rw [hsub]; omega) (by rw [hsub]; omega), hsub]
    exact congrArg I (by simp)
  rintro ⟨i, r⟩ s1 hr
  have h1 : r.length = l.length := hr.1
  have h2 : i ≤ l.length := hr.2.1
  repeat (first|refine pq_end rfl ?_|(refine zs rfl ?_ ?_;·repeat' constructor)|(refine zq rfl ?_ ?_;·repeat' constructor)|refine zw rfl ?_|refine zx rfl ?_|refine zb rfl ?_)
  refine pw_cond rfl (fun h => ?_) (fun h => ?_)
  · have hlt : 2 * i + 1 < l.length := by have := of_decide_eq_true h; omega
    clear h
    obtain ⟨u, hu⟩ := get_lt (show i < r.length by omega)
    obtain ⟨v, hv⟩ := get_lt (show l.length - 1 - i < r.length by omega)
    have hj : ((l.length : Int) - 1 - i) = ((l.length - 1 - i : Nat) : Int) := by omega
    have hui : (r.map eI)[i]? = some (eI u) := by rw [List.getElem?_map, hu]; rfl
    have hvj : (r.map eI)[l.length - 1 - i]? = some (eI v) := by rw [List.getElem?_map, hv]; rfl
    have hll : (l.map eI).length = l.length := by simp
    repeat (first|refine pq_end rfl ?_|(refine zs rfl ?_ ?_;·repeat' constructor)|(refine zq rfl ?_ ?_;·repeat' constructor)|refine zw rfl ?_|refine zx rfl ?_|refine zb rfl ?_)
    refine pw_draw2 13 0 [14, 15, 16, 17, 18, 19, 20, 21, 22, 23, 24, 25, 26] [2,3] (by decide +kernel) rfl ?_
    repeat (first|refine pq_end rfl ?_|(refine zs rfl ?_ ?_;·repeat' constructor)|(refine zq rfl ?_ ?_;·repeat' constructor)|refine zw rfl ?_|refine zx rfl ?_|refine zb rfl ?_)
    rw [hj]
    refine pq_q (q_idxA rfl rfl rfl rfl rfl rfl rfl (by omega) (by rw [hll]; omega)) ?_
    rw [Int.toNat_natCast, Nat.zero_add (l.length - 1 - i)]
    refine pq_q (q_ldp rfl rfl rfl hvj rfl) ?_
    repeat (first|refine pq_end rfl ?_|(refine zs rfl ?_ ?_;·repeat' constructor)|(refine zq rfl ?_ ?_;·repeat' constructor)|refine zw rfl ?_|refine zx rfl ?_|refine zb rfl ?_)
    refine pq_q (q_idxA rfl rfl rfl rfl rfl rfl rfl (by omega) (by rw [hll]; omega)) ?_
    rw [Int.toNat_natCast, Nat.zero_add i]
    refine pq_q (q_ldp rfl rfl rfl hui rfl) ?_
    repeat (first|refine pq_end rfl ?_|(refine zs rfl ?_ ?_;·repeat' constructor)|(refine zq rfl ?_ ?_;·repeat' constructor)|refine zw rfl ?_|refine zx rfl ?_|refine zb rfl ?_)
    refine pq_q (q_idxA rfl rfl rfl rfl rfl rfl rfl (by omega) (by rw [hll]; omega)) ?_
    rw [Int.toNat_natCast, Nat.zero_add i]
    repeat (first|refine pq_end rfl ?_|(refine zs rfl ?_ ?_;·repeat' constructor)|(refine zq rfl ?_ ?_;·repeat' constructor)|refine zw rfl ?_|refine zx rfl ?_|refine zb rfl ?_)
    refine ps_run0 (o_store (kd' := 0) rfl rfl rfl hui rfl rfl (by repeat' constructor) rfl rfl rfl rfl ?_)
    refine ps_q (q_idxA rfl rfl rfl rfl rfl rfl rfl (by omega) (by rw [hll]; omega)) ?_
    rw [Int.toNat_natCast, Nat.zero_add (l.length - 1 - i)]
    refine ps_run0 (o_store (kd' := 0) rfl rfl rfl (row := eI v) (by
      show ((r.map eI).set i _)[l.length - 1 - i]? = _
      rw [List.getElem?_set_ne (by omega)]; exact hvj) rfl rfl (by repeat' constructor) rfl rfl rfl rfl ?_)
    repeat (first|refine pq_end rfl ?_|(refine zs rfl ?_ ?_;·repeat' constructor)|(refine zq rfl ?_ ?_;·repeat' constructor)|refine zw rfl ?_|refine zx rfl ?_|refine zb rfl ?_)
    refine ⟨(i + 1, (r.set i v).set (l.length - 1 - i) u), hr.step hlt hu hv, by show l.length - (i + 1) < l.length - i; omega, rfl, ?_, ?_, rfl, rfl, rfl, ?_, trivial⟩
    · exact i64_next (by omega) (by omega)
    · show PV.int .i64 (IntKind.i64.wrap (((l.length - 1 - i : Nat) : Int) - 1)) = _
      rw [wrap_i64 (by omega) (by omega)]
      exact congrArg I (by show ((l.length - 1 - i : Nat) : Int) - 1 = (l.length : Int) - 1 - ((i + 1 : Nat) : Int); omega)
    · refine Eq.trans (b := (g, some (Cont.mk 3 1 (((r.map eI).set i (eI v)).set (l.length - 1 - i) (eI u)) 0))) rfl ?_
      rw [← List.map_set, ← List.map_set]
  · have hd := hr.done (by have := of_decide_eq_false h; omega)
    subst hd
    repeat (first|refine pq_end rfl ?_|(refine zs rfl ?_ ?_;·repeat' constructor)|(refine zq rfl ?_ ?_;·repeat' constructor)|refine zw rfl ?_|refine zx rfl ?_|refine zb rfl ?_)
    exact inl_end0 rfl (hK s1)

def fillL (n : Nat) (days : Int) (k : Nat) : List Int := List.replicate k days ++ List.replicate (n - k) 0
theorem fillL_len {n k : Nat} (days : Int) (hk : k ≤ n) : (fillL n days k).length = n := by simp [fillL]; omega
theorem fillL_set {n k : Nat} {days : Int} (hk : k < n) : (fillL n days k).set k days = fillL n days (k + 1) := by
  unfold fillL
  rw [List.set_append, if_neg (by simp), List.length_replicate, Nat.sub_self, show n - k = (n - (k + 1)) + 1 by omega, List.replicate_succ, List.set_cons_zero, List.replicate_succ', List.append_assoc]
  rfl
theorem eI_at {l : List Int} {i : Nat} (h : i < l.length) : (l.map eI)[0 + (i : Int).toNat]? = some (eI (l.getD i 0)) := by
  rw [Nat.zero_add, Int.toNat_natCast, List.getElem?_map, List.getD_eq_getElem?_getD, List.getElem?_eq_getElem h]; rfl

set_option maxRecDepth 20000 in
theorem latest0_ret (w : SWork) (hw : Sane w) (hv : Well w) (days : Int) (hd : 0 ≤ days ∧ days ≤ 1000000000) : Ret Try.prog .shared 86 [.agg (eWork w), I days] (.sl ((latS w days).map eI)) := by
  have h1 := hw.items
  have hn40 := hv.n40
  have hbl : ((bef w).map eL).length = w.items.length := by simp [bef]
  have hol := ordS_len w
  have hLl : ((ordS w).map eI).length = (ordS w).reverse.length := by simp
  refine Ret.of_pwp layOk mixed Go.Proofs.Try.func86 rfl (by decide) rfl rfl ?_
  repeat (first|refine pq_end rfl ?_|(refine zs rfl ?_ ?_;·repeat' constructor)|(refine zq rfl ?_ ?_;·repeat' constructor)|refine zw rfl ?_|refine zx rfl ?_|refine zb rfl ?_)
  (first|refine zsq rfl (q_call rfl (before_ret w h1 hw.after) rfl (by repeat' constructor) rfl) ?_|refine zqq rfl (q_call rfl (before_ret w h1 hw.after) rfl (by repeat' constructor) rfl) ?_)
  repeat (first|refine pq_end rfl ?_|(refine zs rfl ?_ ?_;·repeat' constructor)|(refine zq rfl ?_ ?_;·repeat' constructor)|refine zw rfl ?_|refine zx rfl ?_|refine zb rfl ?_)
  refine ps_run (o_make rfl rfl rfl rfl rfl rfl rfl rfl (by omega) (by rw [hbl]; show ((8 : Nat) : Int) * _ ≤ _; omega) (by rw [hbl]; omega) ?_)
  repeat (first|refine pq_end rfl ?_|(refine zs rfl ?_ ?_;·repeat' constructor)|(refine zq rfl ?_ ?_;·repeat' constructor)|refine zw rfl ?_|refine zx rfl ?_|refine zb rfl ?_)
  refine pw_loop (fun k => k ≤ w.items.length) (fun k => [(1, I days), (2, .ptr 2 1 0 0), (5, .sl ((bef w).map eL)), (6, .als 20 1 0 w.items.length), (22, I w.items.length), (23, I k)])
    (fun k => [(2, 1, ⟨28, 9, [eWork w], 2⟩), (20, 1, ⟨3, 1, (fillL w.items.length days k).map eI, 0⟩)]) (fun k => w.items.length - k) 0 (Nat.zero_le _) ⟨rfl, rfl, rfl, ?_, ?_, rfl, rfl, ?_, trivial⟩ ?_
  · show PV.als 20 1 0 (List.length (List.replicate (Int.toNat ((bef w).map eL).length) _)) = _
    rw [hbl]; simp
  · show I ((List.replicate (Int.toNat ((bef w).map eL).length) _ : List (List PV)).length) = _
    rw [hbl]; simp
  · show (1, some (Cont.mk 3 1 (List.replicate (Int.toNat ((bef w).map eL).length) _) 0)) = _
    rw [hbl]; simp [fillL, eI]
  intro k s hk
  have hfl := fillL_len days hk
  repeat (first|refine pq_end rfl ?_|(refine zs rfl ?_ ?_;·repeat' constructor)|(refine zq rfl ?_ ?_;·repeat' constructor)|refine zw rfl ?_|refine zx rfl ?_|refine zb rfl ?_)
  refine pw_cond rfl (fun h => ?_) (fun h => ?_)
  · have hlt : k < w.items.length := by have := of_decide_eq_true h; omega
    clear h
    have hs := fillL_set (days := days) hlt
    have r1 := eI_at (l := fillL w.items.length days k) (i := k) (by omega)
    repeat (first|refine pq_end rfl ?_|(refine zs rfl ?_ ?_;·repeat' constructor)|(refine zq rfl ?_ ?_;·repeat' constructor)|refine zw rfl ?_|refine zx rfl ?_|refine zb rfl ?_)
    refine ps_q (q_idxA rfl rfl rfl rfl rfl rfl rfl (by omega) (by omega)) ?_
    repeat (first|refine pq_end rfl ?_|(refine zs rfl ?_ ?_;·repeat' constructor)|(refine zq rfl ?_ ?_;·repeat' constructor)|refine zw rfl ?_|refine zx rfl ?_|refine zb rfl ?_)
    refine ps_run0 (o_store (kd' := 0) rfl rfl rfl r1 rfl rfl (by repeat' constructor) rfl rfl rfl rfl ?_)
    repeat (first|refine pq_end rfl ?_|(refine zs rfl ?_ ?_;·repeat' constructor)|(refine zq rfl ?_ ?_;·repeat' constructor)|refine zw rfl ?_|refine zx rfl ?_|refine zb rfl ?_)
    refine ⟨k + 1, hlt, by omega, rfl, rfl, rfl, rfl, rfl, i64_next (by omega) (by omega), rfl, ?_, trivial⟩
    rw [← hs, List.map_set]
    show (1, some (Cont.mk 3 1 (((fillL w.items.length days k).map eI).set (0 + (k : Int).toNat) [I days]) 0)) = _
    rw [Nat.zero_add, Int.toNat_natCast]; rfl
  have hge : k = w.items.length := by have := of_decide_eq_false h; omega
  subst hge
  clear h
  repeat (first|refine pq_end rfl ?_|(refine zs rfl ?_ ?_;·repeat' constructor)|(refine zq rfl ?_ ?_;·repeat' constructor)|refine zw rfl ?_|refine zx rfl ?_|refine zb rfl ?_)
  refine ps_run (o_make rfl rfl rfl rfl rfl rfl rfl rfl (by omega) (by rw [hbl]; show ((8 : Nat) : Int) * _ ≤ _; omega) (by rw [hbl]; omega) ?_)
  refine ps_v rfl trivial ?_
  refine ps_nil ?_
  refine x_norm ?_
  refine pw_seq ?_
  refine pw_regionS 1 ?_
  first | refine ps_v rfl trivial ?_ | refine ps_v rfl rfl ?_
  refine ps_nil ?_
  refine psem_sm rfl (sm_callO rfl (ordered_own w h1 hw.after) rfl (by repeat' constructor) rfl ?_)
  refine psem_ops ?_
  refine ps_v rfl trivial ?_
  refine ps_nil ?_
  refine x_norm ?_
  refine pw_seq ?_
  refine pw_regionS 1 ?_
  first | refine ps_v rfl trivial ?_ | refine ps_v rfl rfl ?_
  refine ps_nil ?_
  refine psem_sm rfl (reverse35 w ((s.own 33).1 + 1) ((s.own 35).1 + 1) ((fillL w.items.length days w.items.length).map eI) (List.replicate w.items.length [I 0]) (ordS w) (by omega) rfl ⟨rfl, rfl, ?_, rfl, trivial⟩ (fun s1 => ?_))
  · show ((s.own 33).1 + 1, some (Cont.mk 3 1 (List.replicate (Int.toNat ((bef w).map eL).length) _) 0)) = _
    rw [hbl]; rfl
  refine psem_ops ?_
  have hfn : fillL w.items.length days w.items.length = List.replicate w.items.length days := by simp [fillL]
  rw [hfn]
  generalize (s.own 33).1 + 1 = g2
  generalize (s.own 35).1 + 1 = g
  repeat (first|refine pq_end rfl ?_|(refine zs rfl ?_ ?_;·repeat' constructor)|(refine zq rfl ?_ ?_;·repeat' constructor)|refine zw rfl ?_|refine zx rfl ?_|refine zb rfl ?_)
  refine pw_loop (fun k => k ≤ (ordS w).reverse.length) (fun k => [(2, .ptr 2 1 0 0), (5, .sl ((bef w).map eL)), (6, .als 20 1 0 w.items.length), (8, .als 33 g2 0 w.items.length), (38, .als 35 g 0 ((ordS w).map eI).length), (39, I ((ordS w).map eI).length), (40, I k)])
    (fun k => [(2, 1, ⟨28, 9, [eWork w], 2⟩), (20, 1, ⟨3, 1, (latK w days k).1.map eI, 0⟩), (33, g2, ⟨3, 1, (latK w days k).2.map eI, 0⟩), (35, g, ⟨3, 1, (ordS w).reverse.map eI, 0⟩)]) (fun k => (ordS w).reverse.length - k) 0 (Nat.zero_le _) ⟨rfl, rfl, rfl, ?_, rfl, rfl, rfl, rfl, ?_, ?_, rfl, trivial⟩ ?_
  · show PV.als 33 g2 0 (List.length (List.replicate (Int.toNat ((bef w).map eL).length) _)) = _
    rw [hbl]; simp
  · rfl
  · show (g2, some (Cont.mk 3 1 (List.replicate w.items.length [I 0]) 0)) = _
    simp [latK, eI]
  intro k s hk
  have hrl : (ordS w).reverse.length = (ordS w).length := by simp
  obtain ⟨hc1, hc2, hc3, hc4⟩ := latK_ok hv hd.1 k (by omega)
  repeat (first|refine pq_end rfl ?_|(refine zs rfl ?_ ?_;·repeat' constructor)|(refine zq rfl ?_ ?_;·repeat' constructor)|refine zw rfl ?_|refine zx rfl ?_|refine zb rfl ?_)
  refine pw_cond rfl (fun h => ?_) (fun h => ?_)
  · have hlt : k < (ordS w).reverse.length := by have := of_decide_eq_true h; omega
    clear h
    obtain ⟨y0, hy0⟩ := get_lt hlt
    obtain ⟨i, x, rfl, hx⟩ := rev_known hv hy0
    have hil := (List.getElem?_eq_some_iff.1 hx).1
    have hxm := List.mem_of_getElem? hx
    have hax := hw.after x hxm
    have hal : (aft w x).length = x.after.length := by simp [aft]
    have hio := hv.item x hxm
    have hlb := leastP_bound hio
    have hbx : (bef w)[i]? = some (aft w x) := by rw [bef, List.getElem?_map, hx]; rfl
    have hkr := known_row hv hxm
    have hsucc := latK_succ (days := days) hy0 hx
    generalize latK w days k = st at *
    obtain ⟨en, out⟩ := st
    replace hc1 : en.length = w.items.length := hc1
    replace hc2 : BndR en (days - 60 * k) days := hc2
    replace hc3 : out.length = w.items.length := hc3
    replace hsucc : latK w days (k + 1) = (rowL (en.getD i 0 - leastP x) (aft w x) en, out.set i (en.getD i 0 - leastP x)) := hsucc
    have be := hc2.get (d := i) (by omega)
    have hro := fun j hj => rowL_ok (w := w) (o := en.getD i 0 - leastP x) (A := days - 60 * ((k + 1 : Nat) : Int)) (B := days) (by omega) hkr hc1 (hc2.mono (by omega) (by omega)) j hj
    have hwr : IntKind.i64.wrap (en.getD i 0 - leastP x) = en.getD i 0 - leastP x := wrap_i64 (by omega) (by omega)
    have hyr : ((ordS w).reverse.map eI)[0 + (k : Int).toNat]? = some (eI i) := by rw [Nat.zero_add, Int.toNat_natCast, List.getElem?_map, hy0]; rfl
    have r1 := eI_at (l := en) (i := i) (by omega)
    have r2 := eI_at (l := out) (i := i) (by omega)
    repeat (first|refine pq_end rfl ?_|(refine zs rfl ?_ ?_;·repeat' constructor)|(refine zq rfl ?_ ?_;·repeat' constructor)|refine zw rfl ?_|refine zx rfl ?_|refine zb rfl ?_)
    refine ps_q (q_idxA rfl rfl rfl rfl rfl rfl rfl (by omega) (by omega)) ?_
    repeat (first|refine pq_end rfl ?_|(refine zs rfl ?_ ?_;·repeat' constructor)|(refine zq rfl ?_ ?_;·repeat' constructor)|refine zw rfl ?_|refine zx rfl ?_|refine zb rfl ?_)
    refine ps_q (q_ldp rfl rfl rfl hyr rfl) ?_
    repeat (first|refine pq_end rfl ?_|(refine zs rfl ?_ ?_;·repeat' constructor)|(refine zq rfl ?_ ?_;·repeat' constructor)|refine zw rfl ?_|refine zx rfl ?_|refine zb rfl ?_)
    (first|refine zsq rfl (q_idxm rfl rfl rfl rfl rfl (by omega) hx rfl) ?_|refine zqq rfl (q_idxm rfl rfl rfl rfl rfl (by omega) hx rfl) ?_)
    repeat (first|refine pq_end rfl ?_|(refine zs rfl ?_ ?_;·repeat' constructor)|(refine zq rfl ?_ ?_;·repeat' constructor)|refine zw rfl ?_|refine zx rfl ?_|refine zb rfl ?_)
    (first|refine zsq rfl (q_callP rfl (least_ret x hio.modes.1 (by have := hio.modes; omega) (fun m hm => by have := hio.mode m hm; exact ⟨this.1, this.2.1⟩)) rfl (by repeat' constructor) rfl rfl) ?_|refine zqq rfl (q_callP rfl (least_ret x hio.modes.1 (by have := hio.modes; omega) (fun m hm => by have := hio.mode m hm; exact ⟨this.1, this.2.1⟩)) rfl (by repeat' constructor) rfl rfl) ?_)
    repeat (first|refine pq_end rfl ?_|(refine zs rfl ?_ ?_;·repeat' constructor)|(refine zq rfl ?_ ?_;·repeat' constructor)|refine zw rfl ?_|refine zx rfl ?_|refine zb rfl ?_)
    refine ps_q (q_idxA rfl rfl rfl rfl rfl rfl rfl (by omega) (by omega)) ?_
    repeat (first|refine pq_end rfl ?_|(refine zs rfl ?_ ?_;·repeat' constructor)|(refine zq rfl ?_ ?_;·repeat' constructor)|refine zw rfl ?_|refine zx rfl ?_|refine zb rfl ?_)
    refine ps_q (q_ldp rfl rfl rfl r1 rfl) ?_
    repeat (first|refine pq_end rfl ?_|(refine zs rfl ?_ ?_;·repeat' constructor)|(refine zq rfl ?_ ?_;·repeat' constructor)|refine zw rfl ?_|refine zx rfl ?_|refine zb rfl ?_)
    rw [hwr]
    refine ps_q (q_idxA rfl rfl rfl rfl rfl rfl rfl (by omega) (by omega)) ?_
    repeat (first|refine pq_end rfl ?_|(refine zs rfl ?_ ?_;·repeat' constructor)|(refine zq rfl ?_ ?_;·repeat' constructor)|refine zw rfl ?_|refine zx rfl ?_|refine zb rfl ?_)
    refine ps_run0 (o_store (kd' := 0) rfl rfl rfl r2 rfl rfl (by repeat' constructor) rfl rfl rfl rfl ?_)
    repeat (first|refine pq_end rfl ?_|(refine zs rfl ?_ ?_;·repeat' constructor)|(refine zq rfl ?_ ?_;·repeat' constructor)|refine zw rfl ?_|refine zx rfl ?_|refine zb rfl ?_)
    (first|refine zsq rfl (q_idxm rfl rfl rfl rfl rfl (by omega) hbx rfl) ?_|refine zqq rfl (q_idxm rfl rfl rfl rfl rfl (by omega) hbx rfl) ?_)
    repeat (first|refine pq_end rfl ?_|(refine zs rfl ?_ ?_;·repeat' constructor)|(refine zq rfl ?_ ?_;·repeat' constructor)|refine zw rfl ?_|refine zx rfl ?_|refine zb rfl ?_)
    generalize hO : en.getD i 0 - leastP x = o at *
    refine pw_loop (fun j => j ≤ (aft w x).length) (fun j => [(2, .ptr 2 1 0 0), (5, .sl ((bef w).map eL)), (6, .als 20 1 0 w.items.length), (8, .als 33 g2 0 w.items.length), (11, I i), (38, .als 35 g 0 ((ordS w).map eI).length), (39, I ((ordS w).map eI).length), (40, I k), (65, .sl ((aft w x).map eI)), (66, I (aft w x).length), (67, I j)])
      (fun j => [(2, 1, ⟨28, 9, [eWork w], 2⟩), (20, 1, ⟨3, 1, (rowL o ((aft w x).take j) en).map eI, 0⟩), (33, g2, ⟨3, 1, (out.set i o).map eI, 0⟩), (35, g, ⟨3, 1, (ordS w).reverse.map eI, 0⟩)]) (fun j => (aft w x).length - j) 0 (Nat.zero_le _) ⟨rfl, rfl, rfl, rfl, rfl, rfl, rfl, rfl, rfl, ?_, rfl, rfl, rfl, ?_, rfl, trivial⟩ ?_
    · show I (((aft w x).map eI).length) = _
      rw [List.length_map]
    · rw [List.map_set]
      show (g2, some (Cont.mk 3 1 ((out.map eI).set (0 + (i : Int).toNat) [I o]) 0)) = _
      rw [Nat.zero_add, Int.toNat_natCast]; rfl
    intro j s2 hj
    obtain ⟨ho1, ho2⟩ := hro j hj
    repeat (first|refine pq_end rfl ?_|(refine zs rfl ?_ ?_;·repeat' constructor)|(refine zq rfl ?_ ?_;·repeat' constructor)|refine zw rfl ?_|refine zx rfl ?_|refine zb rfl ?_)
    refine pw_cond rfl (fun h => ?_) (fun h => ?_)
    · have hlt' : j < (aft w x).length := by have := of_decide_eq_true h; omega
      clear h
      obtain ⟨m0, hm0⟩ := get_lt hlt'
      obtain ⟨m, y, rfl, hy⟩ := hkr m0 (List.mem_of_getElem? hm0)
      have hml := (List.getElem?_eq_some_iff.1 hy).1
      have hs : rowL o ((aft w x).take (j + 1)) en = cutL o (rowL o ((aft w x).take j) en) m := by rw [rowL, take_snoc hm0, List.foldl_append]; rfl
      rw [cutL, Int.toNat_natCast] at hs
      generalize rowL o ((aft w x).take j) en = EN at *
      have r3 := eI_at (l := EN) (i := m) (by omega)
      have r4 := eI_at (l := out.set i o) (i := i) (by rw [List.length_set]; omega)
      have hoi : (out.set i o).getD i 0 = o := by rw [List.getD_eq_getElem?_getD, List.getElem?_set_self (by omega)]; rfl
      rw [hoi] at r4
      have hol2 : (out.set i o).length = w.items.length := by rw [List.length_set, hc3]
      repeat (first|refine pq_end rfl ?_|(refine zs rfl ?_ ?_;·repeat' constructor)|(refine zq rfl ?_ ?_;·repeat' constructor)|refine zw rfl ?_|refine zx rfl ?_|refine zb rfl ?_)
      (first|refine zsq rfl (q_idxm rfl rfl rfl rfl rfl (by omega) hm0 rfl) ?_|refine zqq rfl (q_idxm rfl rfl rfl rfl rfl (by omega) hm0 rfl) ?_)
      repeat (first|refine pq_end rfl ?_|(refine zs rfl ?_ ?_;·repeat' constructor)|(refine zq rfl ?_ ?_;·repeat' constructor)|refine zw rfl ?_|refine zx rfl ?_|refine zb rfl ?_)
      refine pw_draw 12 [71, 72, 73, 74, 75, 76, 77, 78, 79, 80, 81, 82] (by decide +kernel) ?_
      repeat (first|refine pq_end rfl ?_|(refine zs rfl ?_ ?_;·repeat' constructor)|(refine zq rfl ?_ ?_;·repeat' constructor)|refine zw rfl ?_|refine zx rfl ?_|refine zb rfl ?_)
      refine zqq rfl (q_idxA rfl rfl rfl rfl rfl rfl rfl (by omega) (by omega)) ?_
      repeat (first|refine pq_end rfl ?_|(refine zs rfl ?_ ?_;·repeat' constructor)|(refine zq rfl ?_ ?_;·repeat' constructor)|refine zw rfl ?_|refine zx rfl ?_|refine zb rfl ?_)
      refine zqq rfl (q_ldp rfl rfl rfl r3 rfl) ?_
      repeat (first|refine pq_end rfl ?_|(refine zs rfl ?_ ?_;·repeat' constructor)|(refine zq rfl ?_ ?_;·repeat' constructor)|refine zw rfl ?_|refine zx rfl ?_|refine zb rfl ?_)
      refine zqq rfl (q_idxA rfl rfl rfl rfl rfl rfl rfl (by omega) (by omega)) ?_
      repeat (first|refine pq_end rfl ?_|(refine zs rfl ?_ ?_;·repeat' constructor)|(refine zq rfl ?_ ?_;·repeat' constructor)|refine zw rfl ?_|refine zx rfl ?_|refine zb rfl ?_)
      refine zqq rfl (q_ldp rfl rfl rfl r4 rfl) ?_
      repeat (first|refine pq_end rfl ?_|(refine zs rfl ?_ ?_;·repeat' constructor)|(refine zq rfl ?_ ?_;·repeat' constructor)|refine zw rfl ?_|refine zx rfl ?_|refine zb rfl ?_)
      refine zqq rfl (q_idxA rfl rfl rfl rfl rfl rfl rfl (by omega) (by omega)) ?_
      repeat (first|refine pq_end rfl ?_|(refine zs rfl ?_ ?_;·repeat' constructor)|(refine zq rfl ?_ ?_;·repeat' constructor)|refine zw rfl ?_|refine zx rfl ?_|refine zb rfl ?_)
      refine ps_run0 (o_store (kd' := 0) rfl rfl rfl r3 rfl rfl (by repeat' constructor) rfl rfl rfl rfl ?_)
      repeat (first|refine pq_end rfl ?_|(refine zs rfl ?_ ?_;·repeat' constructor)|(refine zq rfl ?_ ?_;·repeat' constructor)|refine zw rfl ?_|refine zx rfl ?_|refine zb rfl ?_)
      refine ⟨j + 1, hlt', by omega, rfl, rfl, rfl, rfl, rfl, rfl, rfl, rfl, rfl, rfl, i64_next (by omega) (by omega), rfl, ?_, rfl, rfl, trivial⟩
      rw [hs]
      show (1, some (Cont.mk 3 1 ((EN.map eI).set (0 + (m : Int).toNat) [I (imin (EN.getD m 0) o)]) 0)) = _
      rw [Nat.zero_add, Int.toNat_natCast, List.map_set (l := EN)]
      rfl
    · have hge : j = (aft w x).length := by have := of_decide_eq_false h; omega
      subst hge
      clear h
      rw [List.take_length] at ho1 ho2 ⊢
      repeat (first|refine pq_end rfl ?_|(refine zs rfl ?_ ?_;·repeat' constructor)|(refine zq rfl ?_ ?_;·repeat' constructor)|refine zw rfl ?_|refine zx rfl ?_|refine zb rfl ?_)
      refine ⟨k + 1, hlt, by omega, rfl, rfl, rfl, rfl, rfl, rfl, i64_next (by omega) (by omega), rfl, ?_, ?_, rfl, trivial⟩
      · rw [hsucc]; rfl
      · rw [hsucc]; rfl
  · have hge : k = (ordS w).reverse.length := by have := of_decide_eq_false h; omega
    subst hge
    have hfin : (latK w days (ordS w).reverse.length).2 = latS w days := by rw [latK, List.take_length, latS]
    rw [hfin] at hc3 ⊢
    repeat (first|refine pq_end rfl ?_|(refine zs rfl ?_ ?_;·repeat' constructor)|(refine zq rfl ?_ ?_;·repeat' constructor)|refine zw rfl ?_|refine zx rfl ?_|refine zb rfl ?_)
    exact end1 rfl rfl rfl ⟨rfl, rfl, by rw [List.length_map, hc3]⟩ rfl
end Go.Pv
