/- Texts of one hand, gathered: PvBd, AzF, AzH, AzI, Shelf, AzG, AzJ, AzK, AzL, AzM, SeE, SeF, SeN, AzN, SeD, SeH, SeI, SeJ, SeK, AzO. -/
import Derived.Test.YtfnjhhndbgidmaaGreatDoorAs5
import Derived.Shelf.Strings.Builder1
import Derived.Shelf.Strings.BuilderF
import Derived.Shelf.Strings.BuilderK
import Derived.Shelf.Strconv.Itoa0
import Derived.Shelf.Strconv.Itoa1
import Derived.Shelf.LaysM
import Derived.Shelf.Strconv.Itoa2
import Derived.Shelf.Strconv.Itoa3
import Derived.Shelf.Strings.BuilderCap
import Derived.Test.YtfnjhhndbgidmaaGreatDoorProg
import Derived.Lib.AppendIntMem
import Derived.KernelRfl
import Derived.Test.YtfnjhhndbgidmaaGreatDoorRows
import Derived.WalkKit
import Derived.ProofKit
import Derived.Handy
import Derived.Lay
import Derived.OpenShut
import Derived.Stop.Joined
import Derived.MakeChecks
import Derived.Stop.LaidErr
import Derived.Lib.LaidTab
set_option linter.unusedSectionVars false
set_option linter.unusedSimpArgs false
set_option linter.unusedVariables false
set_option linter.unnecessarySimpa false
set_option linter.unusedVariables false
namespace Go.Pv
open Go.RowKit
variable [Globs]
def rowB (c : UInt8) : List PV := [.int .u8 c.toNat]
def bldC (T kb gb n : Nat) : Cont := ⟨T + 1, 0, [[.int .i64 T, .als kb gb 0 n]], 5⟩
omit [Globs] in
theorem flat_cells (E : Env) (l : List UInt8) : FlatRep E 0 1 (l.map rowB) (Lib.byteCells l) := by
  refine ⟨by simp [Lib.byteCells], fun row hr => ?_, fun i j row pv e1 e2 => ?_⟩
  · obtain ⟨c, _, rfl⟩ := List.mem_map.1 hr
    rfl
  · rw [List.getElem?_map, Option.map_eq_some_iff] at e1
    obtain ⟨c, h1, rfl⟩ := e1
    have hj : j = 0 := by
      rcases j with _ | j
      · rfl
      · simp [rowB] at e2
    subst hj
    simp only [rowB, List.getElem?_cons_zero, Option.some.injEq] at e2
    subst e2
    refine ⟨.int .u8 c.toNat, by simp [Lib.byteCells, h1], rfl, ?_⟩
    exact .int _ _
omit [Globs] in
theorem flat_bytes {E : Env} {l : List UInt8} {olds : List Value} (h : FlatRep E 0 1 (l.map rowB) olds) : olds = Lib.byteCells l := by
  have hl : olds.length = l.length := by have := h.len; simpa using this
  refine List.ext_getElem? fun i => ?_
  rcases Nat.lt_or_ge i l.length with hi | hi
  · obtain ⟨v, h1, _, h3⟩ := h.at_ i 0 (rowB l[i]) (.int .u8 l[i].toNat) (by simp [hi]) rfl
    rw [show i * 1 + 0 = i by omega] at h1
    rw [h1]
    have h3 : DRep _ _ _ _ := h3
    cases h3
    simp [Lib.byteCells, hi]
  · rw [List.getElem?_eq_none (by omega), List.getElem?_eq_none (by simp [Lib.byteCells]; omega)]
section
variable {P : Program} {L : Lay} {s : St}
theorem pw_at (id : Nat) {ops : Array Oper} {d : Bool} {Q : Exit → St → Prop} (h : PWP P L (.region id ops d) Q s) : PWP P L (.region id ops d) Q s := h
theorem whole_als {w : World} {e : TypeId} {blk blk2 : Option Nat} {n : Nat} {v : Value} {vals : List Value} (h : Whole w e 1 blk v n vals) : AlsAt w ⟨blk, e, 1, n⟩ 0 n v := by
  rcases h.2 with ⟨rfl, rfl, h0⟩ | ⟨b, cap, cur, rfl, rfl, f1, f2, f3, f4, f5⟩
  · exact .inl ⟨rfl, rfl, h0, rfl⟩
  · exact .inr ⟨b, cap, cur, rfl, by simp, f1, f2, f3, by rw [f4, Nat.zero_add], by simp⟩
theorem Sim.bld {C : Ctx} {γ : Nat → Option Nat} {a : Act} {w : World} (hs : Sim C γ s a w) {x : Operand} {k g T e kb gb n : Nat} {l : List UInt8} (hx : s.ev x = .mi k g) (ho : s.own k = (g, some (bldC T kb gb n))) (hob : s.own kb = (gb, some ⟨e, 1, l.map rowB, 0⟩)) (hn : n = l.length) :
    ∃ b p v, γ k = some b ∧ a.eval x = .pointer (some ⟨b, 0, none⟩) ∧ w.heap[b]? = some (.cells #[p, v] T (0, 0)) ∧ (p = .pointer none ∨ p = .pointer (some ⟨b, 0, none⟩)) ∧ Whole w e 1 (γ kb) v l.length (Lib.byteCells l) := by
  have hxr := hs.ev x
  rw [hx] at hxr
  obtain ⟨_, b, hb, hv⟩ := hs.mi_at hxr ho
  have hit := (hs.sites k _ (by rw [ho])).it b hb rfl (show (3:Nat) ≤ 5 by decide)
  obtain ⟨T', kb', gb', n', p, v, h1, h2, h3, h4⟩ : BldAt (envOf C γ s w) b (bldC T kb gb n).rows := hit
  simp only [bldC, List.cons.injEq, PV.int.injEq, PV.als.injEq, and_true, true_and, Int.natCast_inj] at h1
  obtain ⟨rfl, rfl, rfl, rfl⟩ := h1
  refine ⟨b, p, v, hb, hv, h2, h3, ?_⟩
  rcases hs.als_at h4 hob with ⟨h5, _, h6, rfl⟩ | ⟨b2, cap, cur, f1, rfl, f3, f4, f5, f6, f7⟩
  · have hl : l = [] := List.eq_nil_of_length_eq_zero (by omega)
    subst hl
    exact ⟨rfl, .inl ⟨h5, rfl, rfl⟩⟩
  · simp only at f1 f3 f4 f5 f6
    have hsite := hs.sites kb _ (by rw [hob])
    rw [f1] at hsite
    obtain ⟨cur', g1, g2, g3, g4⟩ := hsite.flat (show 0 < 1 by decide)
    have g1 : w.heap[b2]? = some (.cells cur' e (0, 0)) := g1
    rw [g1] at f3
    simp only [Option.some.injEq, Obj.cells.injEq, and_true] at f3
    subst f3
    have hbytes := flat_bytes g4
    refine ⟨by simp [Lib.byteCells], .inr ⟨b2, cap, cur', f1, by simp [hn], g1, by omega, f5, by omega, ?_⟩⟩
    simpa using hbytes
theorem sm_bnew {d : Nat} {ty : TypeId} {pos : String} {af : Array Edge} {T : TypeId} {K : St → Prop} (k kb : Nat) (e : TypeId) {gk gkb : Nat} {oc ocb : Option Cont} (hne : Nat.beq k kb = false) (ho : s.own k = (gk, oc)) (hob : s.own kb = (gkb, ocb))
    (hz : ((P.info? T).bind (·.zero)).map (·.cells) = some #[.pointer none, .slice none 0 0])
    (h : K (((s.setOwn kb (gkb + 1) (some ⟨e, 1, [], 0⟩)).setOwn k (gk + 1) (some (bldC T kb (gkb + 1) 0))).putR d (.mi k (gk + 1)))) : Sm P L s ⟨some d, .alloc T, ty, pos, af, none⟩ K := by
  intro C a w Q hG ⟨γ, hs⟩ hN
  have hkk : k ≠ kb := fun e => by rw [e] at hne; simp at hne
  obtain ⟨zv, hzv, hzc⟩ := Option.map_eq_some_iff.1 hz
  obtain ⟨i, hi, hiz⟩ := Option.bind_eq_some_iff.1 hzv
  have ht1 : Turn C γ s w w kb none := ⟨rfl, rfl, rfl, Nat.le_refl _, fun b _ => .inl rfl, fun b hb => by cases hb⟩
  have hs1 := ht1.sim hs (c := ⟨e, 1, [], 0⟩) (.none_ rfl)
  have hfin1 : s.fin kb ⟨e, 1, [], 0⟩ = s.setOwn kb (gkb + 1) (some ⟨e, 1, [], 0⟩) := by rw [St.fin, hob]
  rw [hfin1] at hs1
  have ht2 : Turn C (upg γ kb none) (s.setOwn kb (gkb + 1) (some ⟨e, 1, [], 0⟩)) w (w.alloc (.cells #[.pointer none, .slice none 0 0] T)) k (some w.heap.size) := Turn.alloc _ k
  have hfin2 : (s.setOwn kb (gkb + 1) (some ⟨e, 1, [], 0⟩)).fin k (bldC T kb (gkb + 1) 0) = (s.setOwn kb (gkb + 1) (some ⟨e, 1, [], 0⟩)).setOwn k (gk + 1) (some (bldC T kb (gkb + 1) 0)) := by
    rw [St.fin, setOwn_ne hkk, ho]
  have hs2 := ht2.sim hs1 (c := bldC T kb (gkb + 1) 0) ⟨(fun e => by cases e), (fun b' _ _ hk => by simp [bldC] at hk), (fun b' hb' _ _ => by
    simp at hb'; subst hb'
    show BldAt _ _ _
    refine ⟨T, kb, gkb + 1, 0, .pointer none, .slice none 0 0, rfl, heap_alloc_at _ _, .inl rfl, ?_⟩
    rw [hfin2]
    refine .als ?_ fun _ l hl => ?_
    · show _ ≤ (((s.setOwn kb (gkb + 1) (some ⟨e, 1, [], 0⟩)).setOwn k (gk + 1) (some (bldC T kb (gkb + 1) 0))).own kb).1
      rw [setOwn_ne (Ne.symm hkk), setOwn_same]; exact Nat.le_refl _
    · simp only [envOf, setOwn_ne (Ne.symm hkk), setOwn_same, upg_ne (Ne.symm hkk), upg_same, Option.map_some, Option.some.injEq] at hl
      subst hl
      exact .inl ⟨rfl, rfl, rfl, rfl⟩), (fun b' _ hz => by simp [bldC] at hz)⟩
  rw [hfin2] at hs2
  have hrun : (execOp a.eval ⟨some d, .alloc T, ty, pos, af, none⟩).run P w = .ok (.value (.pointer (some ⟨w.heap.size, 0, none⟩))) (w.alloc (.cells #[.pointer none, .slice none 0 0] T)) := by
    simp [execOp, Instr.alloc, zeroValue, typeInfo, hi, hiz, hzc, newVar, newRow]
  unfold Oper.wp
  rw [hrun, Oper.upon_value]
  refine ⟨_, ⟨_, hs2.put (d := some d) hN (.mi ?_ fun _ l hl => ?_)⟩, h⟩
  · show _ ≤ (((s.setOwn kb (gkb + 1) (some ⟨e, 1, [], 0⟩)).setOwn k (gk + 1) (some (bldC T kb (gkb + 1) 0))).own k).1
    rw [setOwn_same]; exact Nat.le_refl _
  · simp only [envOf, setOwn_same, upg_same, Option.map_some, Option.some.injEq] at hl
    subst hl
    exact ⟨rfl, _, rfl, rfl⟩
theorem sm_bwrite {d : Nat} {ty : TypeId} {pos : String} {af : Array Edge} {f : FuncId} {x y : Operand} {tys : Array TypeId} {K : St → Prop} {k g T e kb gb n : Nat} {l s2 : List UInt8} (hc : callable P f) (hw : WStr P f T e) (hTe : Nat.beq T e = false) (hne : Nat.beq k kb = false)
    (hx : s.ev x = .mi k g) (hy : s.ev y = .str s2) (ho : s.own k = (g, some (bldC T kb gb n))) (hob : s.own kb = (gb, some ⟨e, 1, l.map rowB, 0⟩)) (hn : n = l.length) (hlen : l.length + s2.length ≤ 140737488355328)
    (h : K (((s.setOwn kb (gb + 1) (some ⟨e, 1, (l ++ s2).map rowB, 0⟩)).setOwn k g (some (bldC T kb (gb + 1) (l ++ s2).length))).putR d (.tup [.int .i64 s2.length, .raw .nilIface]))) :
    Sm P L s ⟨some d, .call ⟨.value (.func f), #[x, y], tys⟩, ty, pos, af, none⟩ K := by
  intro C a w Q hG ⟨γ, hs⟩ hN
  have hkk : k ≠ kb := fun e => by rw [e] at hne; simp at hne
  have hTe' : T ≠ e := fun h => by rw [h] at hTe; simp at hTe
  obtain ⟨b, p, v, hb, hv, hheap, hp, hwh⟩ := hs.bld hx ho hob hn
  have hyv := hs.ev y
  rw [hy] at hyv
  have hyv := hyv.str_inv
  have hblt : b < w.heap.size := (Array.getElem?_eq_some_iff.1 hheap).1
  unfold Oper.wp
  rw [run_call (f := f) (a := a) (vs := []) rfl rfl hc, Oper.upon_enter]
  rw [show (((#[x, y] : Array Operand).toList.map a.eval ++ ([] : List Value)).toArray : Array Value) = #[Value.pointer (some ⟨b, 0, none⟩), Value.string ⟨s2.toArray⟩] by simp [hv, hyv]]
  refine (hw b p v (γ kb) l.length (Lib.byteCells l) ⟨s2.toArray⟩ w hheap hp hwh (by rw [bytes_size]; exact hlen)).mono ?_
  rintro _ w' ⟨rfl, v', blk', q1, q2, q3, q4, q5, q6, q7, q8⟩
  rw [bytes_size] at q2
  have hcells : Lib.byteCells l ++ Lib.strCells ⟨s2.toArray⟩ = Lib.byteCells (l ++ s2) := by
    simp [Lib.byteCells, Lib.strCells]
  rw [hcells] at q2
  have hll : (l ++ s2).length = l.length + s2.length := List.length_append
  obtain ⟨w1, hw1⟩ : ∃ w1 : World, w1 = { w' with heap := w'.heap.setIfInBounds b (.cells #[p, v] T) } := ⟨_, rfl⟩
  have hb1 : w1.heap[b]? = some (.cells #[p, v] T (0, 0)) := by rw [hw1]; exact (put_set q1).2
  have ho1 : ∀ j, j ≠ b → w1.heap[j]? = w'.heap[j]? := fun j hj => by rw [hw1]; exact (put_set q1).1.other j hj
  have hsz1 : w1.heap.size = w'.heap.size := by rw [hw1]; simp
  have hblk : ∀ j, blk' = some j → j ≠ b := by
    rintro j hj rfl
    rcases q2.2 with ⟨e1, _⟩ | ⟨b2, cap, cur, e1, _, e3, _⟩
    · rw [e1] at hj; cases hj
    · rw [e1] at hj; cases hj
      rw [q1] at e3
      simp only [Option.some.injEq, Obj.cells.injEq] at e3
      exact hTe' e3.2.1
  have hwh1 : Whole w1 e 1 blk' v' (l.length + s2.length) (Lib.byteCells (l ++ s2)) := whole_frame q2 fun j hj => ho1 j (hblk j hj)
  have ht : Turn C γ s w w1 kb blk' := by
    refine ⟨by rw [hw1]; exact q3, by rw [hw1]; exact q4, by rw [hw1]; exact q5, by rw [hsz1]; exact q6, fun j hj => ?_, fun j hj => ?_⟩
    · by_cases hjb : j = b
      · subst hjb; exact .inl (by rw [hb1, hheap])
      · rw [ho1 j hjb]
        exact (q7 j hj hjb).imp id fun h => ⟨by rw [hob]; rfl, h⟩
    · rw [hsz1]
      exact ⟨(q8 j hj).1, (q8 j hj).2.imp id fun h => ⟨by rw [hob]; rfl, h⟩⟩
  have hfin : s.fin kb ⟨e, 1, (l ++ s2).map rowB, 0⟩ = s.setOwn kb (gb + 1) (some ⟨e, 1, (l ++ s2).map rowB, 0⟩) := by rw [St.fin, hob]
  have hs1 := ht.sim hs (c := ⟨e, 1, (l ++ s2).map rowB, 0⟩) (by
    rcases hwh1.2 with ⟨e1, e2, e3⟩ | ⟨b2, cap, cur, e1, e2, e3, e4, e5, e6, e7⟩
    · have hnil : l ++ s2 = [] := List.eq_nil_of_length_eq_zero (by omega)
      rw [hnil, e1]; exact .none_ rfl
    · rw [e1]
      refine SiteOk.of_flat (flat_cells _ _) (by decide) e3 ?_ ?_
      · simp; omega
      · rw [List.length_map, hll]; exact e7)
  rw [hfin] at hs1
  have hput : Put w1 w' b := ⟨by rw [hw1], by rw [hw1], by rw [hw1], hsz1.symm, fun j hj => (ho1 j hj).symm⟩
  have hs2 := put_simT (c' := bldC T kb (gb + 1) (l ++ s2).length) hs1 (k := k) (g := g) (b := b) (c := bldC T kb gb n) (by rw [setOwn_ne hkk]; exact ho) (by rw [upg_ne hkk]; exact hb) (fun cur => by
    rw [hb1]
    intro h
    exact absurd (Obj.cells.inj (Option.some.inj h)).2.1 (by show ¬ T = T + 1; omega)) hput rfl rfl (Nat.le_refl _) ⟨(fun e => by cases e), (fun b' _ _ hk => by simp [bldC] at hk), (fun b' hb' _ _ => by
    simp at hb'; subst hb'
    show BldAt _ _ _
    refine ⟨T, kb, gb + 1, (l ++ s2).length, _, v', rfl, q1, .inr rfl, .als ?_ fun _ lc hl => ?_⟩
    · show _ ≤ (((s.setOwn kb (gb + 1) (some ⟨e, 1, (l ++ s2).map rowB, 0⟩)).setOwn k g (some (bldC T kb (gb + 1) (l ++ s2).length))).own kb).1
      rw [setOwn_ne (Ne.symm hkk), setOwn_same]; exact Nat.le_refl _
    · simp only [envOf, setOwn_ne (Ne.symm hkk), setOwn_same, upg_same, Option.map_some, Option.some.injEq] at hl
      subst hl
      rw [List.length_map, hll]
      exact whole_als (blk2 := none) q2), (fun b' _ hz => by simp [bldC] at hz)⟩
  refine ⟨_, ⟨_, hs2.put (d := some d) hN ?_⟩, h⟩
  refine .d (.tup _ [.int .i64 s2.length, .nilIface] rfl fun i c u e1 e2 => ?_)
  rcases i with _ | _ | i
  · simp at e1 e2; subst e1; subst e2; exact .int _ _
  · simp at e1 e2; subst e1; subst e2; exact .raw _
  · simp at e1
theorem sm_bread {d : Nat} {ty : TypeId} {pos : String} {af : Array Edge} {f : FuncId} {x : Operand} {tys : Array TypeId} {K : St → Prop} {k g T e kb gb n : Nat} {l : List UInt8} (hc : callable P f) (hw : SStr P f T e)
    (hx : s.ev x = .mi k g) (ho : s.own k = (g, some (bldC T kb gb n))) (hob : s.own kb = (gb, some ⟨e, 1, l.map rowB, 0⟩)) (hn : n = l.length)
    (h : K ((s.setOwn kb (gb + 1) (some ⟨e, 1, [], 0⟩)).putR d (.str l))) :
    Sm P L s ⟨some d, .call ⟨.value (.func f), #[x], tys⟩, ty, pos, af, none⟩ K := by
  intro C a w Q hG ⟨γ, hs⟩ hN
  obtain ⟨b, p, v, hb, hv, hheap, hp, hwh⟩ := hs.bld hx ho hob hn
  unfold Oper.wp
  rw [run_call (f := f) (a := a) (vs := []) rfl rfl hc, Oper.upon_enter]
  rw [show (((#[x] : Array Operand).toList.map a.eval ++ ([] : List Value)).toArray : Array Value) = #[Value.pointer (some ⟨b, 0, none⟩)] by simp [hv]]
  refine (hw b p v (γ kb) l w hheap hwh).mono ?_
  rintro _ w' ⟨rfl, q3, q4, q5, q6, q7⟩
  have ht : Turn C γ s w w' kb none := ⟨q3, q4, q5, q6, fun j hj => (q7 j hj).imp id fun h => ⟨by rw [hob]; rfl, h⟩, fun b hb => by cases hb⟩
  have hfin : s.fin kb ⟨e, 1, [], 0⟩ = s.setOwn kb (gb + 1) (some ⟨e, 1, [], 0⟩) := by rw [St.fin, hob]
  have hs1 := ht.sim hs (c := ⟨e, 1, [], 0⟩) (.none_ rfl)
  rw [hfin] at hs1
  exact ⟨_, ⟨_, hs1.put (d := some d) hN (.d (.str _))⟩, h⟩
end
end Go.Pv


set_option maxHeartbeats 2000000
namespace Go.Pv
attribute [local irreducible] PWP POps PQuiet PSem XThen XBlock RetPost InlPost
open Go.Proofs
def dayI (l : List SPl) : List (Nat × SPl) := sortR dayE (en l)
set_option maxRecDepth 20000 in
theorem stable_sm {K : St → Prop} {s : St} {d g : Nat} {x z c : Operand} {tys : Array TypeId} {ty : TypeId} {pos : String} {af : Array Edge} (l : List SPl) (hl : l.length ≤ 19)
    (hx : s.ev x = .als 3 g 0 ((en l).map eIx).length) (hz : s.ev z = I l.length) (hc : s.ev c = .clo 83 [.ptr 1 1 0 0])
    (hd : ∀ p ∈ l, 0 ≤ p.day ∧ p.day ≤ 1000000)
    (ho : FitO s [(1, 1, ⟨87, 1, [[.sl (l.map ePl)]], 2⟩), (3, g, ⟨3, 1, (en l).map eIx, 0⟩)])
    (hK : ∀ s1 : St, K (({ reg := s.reg, own := (s1.over [] [(1, 1, ⟨87, 1, [[.sl (l.map ePl)]], 2⟩), (3, g, ⟨3, 1, (dayI l).map eIx, 0⟩)]).own } : St).putR d (.tup []))) :
    Sm Tryz.prog lay.get s ⟨some d, .call ⟨.value (.func 121), #[x, z, c], tys⟩, ty, pos, af, none⟩ K := by
  refine sm_inline layOk rfl rfl Tryz.func121 rfl (by decide) rfl rfl ?_
  show PWP _ _ _ _ (callSt s (([x, z, c] : List Operand).map s.ev ++ []))
  rw [show (([x, z, c] : List Operand).map s.ev ++ ([] : List PV)) = [.als 3 g 0 ((en l).map eIx).length, I l.length, .clo 83 [.ptr 1 1 0 0]] by simp [hx, hz, hc]]
  rw [show callSt s [.als 3 g 0 ((en l).map eIx).length, I l.length, .clo 83 [.ptr 1 1 0 0]] = callSt (s.over [] [(1, 1, ⟨87, 1, [[.sl (l.map ePl)]], 2⟩), (3, g, ⟨3, 1, (en l).map eIx, 0⟩)]) [.als 3 g 0 ((en l).map eIx).length, I l.length, .clo 83 [.ptr 1 1 0 0]] by rw [Fit.over (l := []) ho]]
  repeat (refine stp rfl ?_ ?_;·repeat' constructor)
  refine pw_loop (fun _ : Unit => True) (fun _ => [(0, .als 3 g 0 ((en l).map eIx).length), (1, I l.length), (2, .clo 83 [.ptr 1 1 0 0]), (6, I 20), (7, I 0), (8, I 20)])
    (fun _ => [(1, 1, ⟨87, 1, [[.sl (l.map ePl)]], 2⟩), (3, g, ⟨3, 1, (en l).map eIx, 0⟩)]) (fun _ => 0) () trivial ⟨rfl, rfl, rfl, rfl, rfl, rfl, rfl, rfl, trivial⟩ ?_
  rintro _ s1 -
  repeat (refine stp rfl ?_ ?_;·repeat' constructor)
  refine pw_cond rfl (fun h => ?_) (fun h => ?_)
  · have := of_decide_eq_true h; omega
  clear h
  ((repeat ((fail_if_success (with_reducible refine pw_at 6 ?_)); (refine stp rfl ?_ ?_;·repeat' (first|exact True.intro|exact rfl|refine And.intro ?_ ?_)))); refine pw_regionS 4 ?_)
  repeat (refine stp rfl ?_ ?_;·repeat' constructor)
  refine psem_sm rfl (ins_sm l (by omega) rfl rfl rfl rfl hd ⟨rfl, rfl, trivial⟩ fun s2 => ?_)
  refine psem_ops ?_
  repeat (refine stp rfl ?_ ?_;·repeat' constructor)
  refine pw_loop (fun _ : Unit => True) (fun _ => [(1, I l.length), (6, I 20)])
    (fun _ => [(1, 1, ⟨87, 1, [[.sl (l.map ePl)]], 2⟩), (3, g, ⟨3, 1, (dayI l).map eIx, 0⟩)]) (fun _ => 0) () trivial ⟨rfl, rfl, rfl, rfl, trivial⟩ ?_
  rintro _ s3 -
  repeat (refine stp rfl ?_ ?_;·repeat' constructor)
  refine pw_cond rfl (fun h => ?_) (fun h => ?_)
  · have := of_decide_eq_true h; omega
  clear h
  repeat (refine stp rfl ?_ ?_;·repeat' constructor)
  exact inl_end0 rfl (hK s3)
set_option maxRecDepth 20000 in
theorem sort_sm {K : St → Prop} {s : St} {d g : Nat} {x c : Operand} {tys : Array TypeId} {ty : TypeId} {pos : String} {af : Array Edge} (l : List SPl) (hl : l.length ≤ 19)
    (hx : s.ev x = .als 3 g 0 ((en l).map eIx).length) (hc : s.ev c = .clo 83 [.ptr 1 1 0 0])
    (hd : ∀ p ∈ l, 0 ≤ p.day ∧ p.day ≤ 1000000)
    (ho : FitO s [(1, 1, ⟨87, 1, [[.sl (l.map ePl)]], 2⟩), (3, g, ⟨3, 1, (en l).map eIx, 0⟩)])
    (hK : ∀ s1 : St, K (({ reg := s.reg, own := (s1.over [] [(1, 1, ⟨87, 1, [[.sl (l.map ePl)]], 2⟩), (3, g, ⟨3, 1, (dayI l).map eIx, 0⟩)]).own } : St).putR d (.tup []))) :
    Sm Tryz.prog lay.get s ⟨some d, .call ⟨.value (.func 82), #[x, c], tys⟩, ty, pos, af, none⟩ K := by
  refine sm_inline layOk rfl rfl Tryz.func82 rfl (by decide) rfl rfl ?_
  show PWP _ _ _ _ (callSt s (([x, c] : List Operand).map s.ev ++ []))
  rw [show (([x, c] : List Operand).map s.ev ++ ([] : List PV)) = [.als 3 g 0 ((en l).map eIx).length, .clo 83 [.ptr 1 1 0 0]] by simp [hx, hc]]
  rw [show callSt s [.als 3 g 0 ((en l).map eIx).length, .clo 83 [.ptr 1 1 0 0]] = callSt (s.over [] [(1, 1, ⟨87, 1, [[.sl (l.map ePl)]], 2⟩), (3, g, ⟨3, 1, (en l).map eIx, 0⟩)]) [.als 3 g 0 ((en l).map eIx).length, .clo 83 [.ptr 1 1 0 0]] by rw [Fit.over (l := []) ho]]
  have hen : ((en l).map eIx).length = l.length := by rw [List.length_map, en_len]
  ((repeat ((fail_if_success (with_reducible refine pw_at 0 ?_)); (refine stp rfl ?_ ?_;·repeat' (first|exact True.intro|exact rfl|refine And.intro ?_ ?_)))); refine pw_regionS 4 ?_)
  repeat (refine stp rfl ?_ ?_;·repeat' constructor)
  refine psem_sm rfl (stable_sm l hl rfl (congrArg (fun n : Nat => I n) hen) rfl hd ⟨rfl, rfl, trivial⟩ fun s2 => ?_)
  refine psem_ops ?_
  repeat (refine stp rfl ?_ ?_;·repeat' constructor)
  exact inl_end0 rfl (hK s2)
end Go.Pv


set_option maxHeartbeats 2000000
namespace Go.Pv
attribute [local irreducible] PWP POps PQuiet PSem XThen XBlock RetPost InlPost
open Go.Proofs
theorem enT {α : Type} {l : List α} {k : Nat} (hk : k ≤ l.length) : ((en l).take k).length = k := by rw [List.length_take, en_len]; omega
set_option maxRecDepth 20000 in
theorem byDay_ret (l : List SPl) (hl : l.length ≤ 19) (hd : ∀ p ∈ l, 0 ≤ p.day ∧ p.day ≤ 1000000) : Ret Tryz.prog .shared 48 [.sl (l.map ePl)] (.sl ((dayI l).map eIx)) := by
  refine Ret.of_pwp layOk mixed Go.Proofs.Tryz.func48 rfl (by decide) rfl rfl ?_
  ((repeat (first | refine ps_nil ?_ | refine pq_nil ?_ | refine x_norm ?_ | refine pw_seq ?_)); refine pw_region ?_)
  refine ps_run (o_box rfl rfl rfl (by repeat' constructor) rfl ?_)
  refine ps_v rfl trivial ?_
  ((repeat (first | refine ps_nil ?_ | refine pq_nil ?_ | refine x_norm ?_ | refine pw_seq ?_)); refine pw_region ?_)
  (first | refine ps_run (o_nilm 3 1 0 rfl rfl ?_) | refine ps_run (o_nila 3 1 0 rfl rfl ?_))
  repeat (refine stp rfl ?_ ?_;·repeat' constructor)
  refine pw_loop (fun k => k ≤ l.length) (fun k => [(1, .ptr 1 1 0 0), (3, .als 3 (1 + ((en l).take k).length) 0 (((en l).take k).map eIx).length), (6, I l.length), (7, I k)])
    (fun k => [(1, 1, ⟨87, 1, [[.sl (l.map ePl)]], 2⟩), (3, 1 + ((en l).take k).length, ⟨3, 1, ((en l).take k).map eIx, 0⟩)]) (fun k => l.length - k) 0 (Nat.zero_le _) ⟨rfl, rfl, ?_, rfl, rfl, rfl, trivial⟩ ?_
  · show I ((l.map ePl).length) = _
    simp
  intro k s hk
  have hkl := enT hk
  repeat (refine stp rfl ?_ ?_;·repeat' constructor)
  refine pw_cond rfl (fun h => ?_) (fun h => ?_)
  · have hlt : k < l.length := by have := of_decide_eq_true h; omega
    clear h
    obtain ⟨p, hp⟩ := get_lt hlt
    have htk : (en l).take (k + 1) = (en l).take k ++ [(k, p)] := take_snoc (en_at hp)
    repeat (refine stp rfl ?_ ?_;·repeat' constructor)
    apply qst;exact rfl;exact rfl;exact q_slit rfl rfl rfl rfl rfl rfl rfl rfl rfl rfl (by repeat' constructor) rfl
    repeat (refine stp rfl ?_ ?_;·repeat' constructor)
    refine ps_run (o_app 0 rfl rfl rfl rfl rfl rfl rfl rfl rfl rfl rfl (by repeat' constructor) (by intro row hr; first | (simp at hr; subst hr; rfl) | simp at hr) rfl rfl (by simp; omega) (by simp; omega) ?_)
    repeat (refine stp rfl ?_ ?_;·repeat' constructor)
    refine ⟨k + 1, by omega, by omega, rfl, ?_, rfl, ?_, rfl, ?_, trivial⟩
    · rw [htk]; exact als_snoc eIx 3 1 ((en l).take k) (k, p)
    · exact i64_next (by omega) (by omega)
    · rw [htk]; exact cont_snoc eIx 1 3 1 0 ((en l).take k) (k, p)
  · have hge : k = l.length := by have := of_decide_eq_false h; omega
    subst hge
    clear h
    rw [show (en l).take l.length = en l from List.take_of_length_le (by rw [en_len]; exact Nat.le_refl _)]
    ((repeat ((fail_if_success (with_reducible refine pw_at 7 ?_)); (refine stp rfl ?_ ?_;·repeat' (first|exact True.intro|exact rfl|refine And.intro ?_ ?_)))); refine pw_regionS 2 ?_)
    repeat (refine stp rfl ?_ ?_;·repeat' constructor)
    refine psem_sm rfl (sort_sm l hl rfl rfl hd ⟨rfl, rfl, trivial⟩ fun s2 => ?_)
    refine psem_ops ?_
    repeat (refine stp rfl ?_ ?_;·repeat' constructor)
    exact end1 rfl rfl rfl ⟨rfl, rfl, (by show ((en l).map eIx).length = ((dayI l).map eIx).length; rw [List.length_map, List.length_map, dayI, sortR_len])⟩ rfl
end Go.Pv


set_option maxHeartbeats 2000000
namespace Go.Pv
attribute [local irreducible] PWP POps PQuiet PSem XThen XBlock RetPost InlPost
open Go.Proofs
def askE (w : SWork) (e : Nat × SPl) : List SAsk := askQ (itP w e.1, e.2)
def asksI (w : SWork) (l : List SPl) : List SAsk := (dayI l).flatMap (askE w)
theorem fm_snoc {α β : Type} {f : α → List β} {l : List α} {k : Nat} {a : α} (h : l[k]? = some a) : (l.take (k + 1)).flatMap f = (l.take k).flatMap f ++ f a := by
  rw [take_snoc h, List.flatMap_append]; simp
theorem askQ_len (q : SItem × SPl) : (askQ q).length ≤ 1 := by unfold askQ; split <;> simp
theorem dayI_mem {l : List SPl} {e : Nat × SPl} (h : e ∈ dayI l) : l[e.1]? = some e.2 := en_mem ((sortR_perm _ _).mem_iff.1 h)
theorem dayI_len (l : List SPl) : (dayI l).length = l.length := by rw [dayI, sortR_len, en_len]
def asksR (w : SWork) (s : List SSlot) : PV := if planE w s = 0 then .tup [.sl ((asksI w (placed w s)).map eAsk), I 0] else .tup [.nil, I (planE w s)]
theorem full_day {w : SWork} {l : List SPl} (hf : Full w l) : ∀ p ∈ l, 0 ≤ p.day ∧ p.day ≤ 1000000 := by
  intro p hp
  obtain ⟨k, hk⟩ := List.getElem?_of_mem hp
  obtain ⟨x, hx⟩ := get_lt (show k < w.items.length by have := (List.getElem?_eq_some_iff.1 hk).1; have := hf.len; omega)
  have := (hf.at_ hx hk).day
  omega
theorem asks_ret (w : SWork) (hw : Sane w) (hn : w.items.length ≤ 19 ∨ 40 < w.items.length) (s : List SSlot) : Ret Tryz.prog .shared 17 [.agg (eWork w), .sl (s.map eSlot)] (asksR w s) := by
  have h45 := plan_ret w hw s
  by_cases hz : planE w s = 0
  · obtain ⟨hv, hf⟩ := full_of (planE_zero hz).1
    have hn : w.items.length ≤ 19 := by have := hv.n40; omega
    have hlen := hf.len
    rw [planR, if_pos hz] at h45
    rw [asksR, if_pos hz]
    generalize placed w s = l at *
    have hbd := byDay_ret l (by omega) (full_day hf)
    have hdl := dayI_len l
    refine Ret.of_pwp layOk mixed Go.Proofs.Tryz.func17 rfl (by decide) rfl rfl ?_
    repeat (refine stp rfl ?_ ?_;·repeat' constructor)
    apply qst;exact rfl;exact rfl;exact q_call rfl (h45) rfl (by repeat' constructor) rfl
    (repeat ((fail_if_success (with_reducible refine pw_at 4 ?_)); (refine stp rfl ?_ ?_;·repeat' (first|exact True.intro|exact rfl|refine And.intro ?_ ?_))))
    ((repeat (first | refine ps_nil ?_ | refine pq_nil ?_ | refine x_norm ?_ | refine pw_seq ?_)); refine pw_region ?_)
    (first | refine ps_run (o_nilm 53 5 0 rfl rfl ?_) | refine ps_run (o_nila 53 5 0 rfl rfl ?_))
    repeat (refine stp rfl ?_ ?_;·repeat' constructor)
    apply qst;exact rfl;exact rfl;exact q_call rfl (hbd) rfl (by repeat' constructor) rfl
    repeat (refine stp rfl ?_ ?_;·repeat' constructor)
    refine pw_loop (fun k => k ≤ (dayI l).length) (fun k => [(2, .ptr 2 1 0 0), (6, .sl (l.map ePl)), (8, .als 8 (1 + (((dayI l).take k).flatMap (askE w)).length) 0 ((((dayI l).take k).flatMap (askE w)).map eAsk).length), (22, .sl ((dayI l).map eIx)), (23, I (dayI l).length), (24, I k)])
      (fun k => [(2, 1, ⟨28, 9, [eWork w], 2⟩), (8, 1 + (((dayI l).take k).flatMap (askE w)).length, ⟨53, 5, (((dayI l).take k).flatMap (askE w)).map eAsk, 0⟩)]) (fun k => (dayI l).length - k) 0 (Nat.zero_le _) ⟨rfl, rfl, rfl, rfl, ?_, rfl, rfl, rfl, trivial⟩ ?_
    · show I (((dayI l).map eIx).length) = _
      simp
    intro k st hk
    repeat (refine stp rfl ?_ ?_;·repeat' constructor)
    refine pw_cond rfl (fun h => ?_) (fun h => ?_)
    · have hlt : k < (dayI l).length := by have := of_decide_eq_true h; omega
      clear h
      obtain ⟨e, he⟩ := get_lt hlt
      have hle := dayI_mem (List.mem_of_getElem? he)
      obtain ⟨x, hx⟩ := get_lt (show e.1 < w.items.length by have := (List.getElem?_eq_some_iff.1 hle).1; omega)
      have hpo := hf.at_ hx hle
      have hxi : itP w e.1 = x := itP_at hx
      have hfl := flatMap_len (f := askE w) (fun q => askQ_len (itP w q.1, q.2)) ((dayI l).take k)
      have htl : ((dayI l).take k).length ≤ 19 := by rw [List.length_take]; omega
      have hsn := fm_snoc (f := askE w) he
      rw [show askE w e = askQ (x, e.2) by rw [askE, hxi]] at hsn
      generalize ((dayI l).take k).flatMap (askE w) = acc at *
      repeat (refine stp rfl ?_ ?_;·repeat' constructor)
      apply qst;exact rfl;exact rfl;exact q_idxm rfl rfl rfl rfl rfl (by omega) he rfl
      repeat (refine stp rfl ?_ ?_;·repeat' constructor)
      apply qst;exact rfl;exact rfl;exact q_idxm rfl rfl rfl rfl rfl (by omega) hx rfl
      repeat (refine stp rfl ?_ ?_;·repeat' constructor)
      refine pw_cond rfl (fun h => ?_) (fun h => ?_)
      · have hk0 : 0 ≤ x.kind := of_decide_eq_true h
        clear h
        rw [askQ, if_pos hk0] at hsn
        refine pw_draw2 19 0 [36, 37, 38, 39, 40, 41, 42, 43, 44, 45, 46, 47, 48, 49, 50, 51, 52, 53, 54] [0] (by decide +kernel) rfl ?_
        repeat (refine stp rfl ?_ ?_;·repeat' constructor)
        apply qst;exact rfl;exact rfl;exact q_idxm rfl rfl rfl rfl rfl (by omega) hle rfl
        repeat (refine stp rfl ?_ ?_;·repeat' constructor)
        apply qst;exact rfl;exact rfl;exact q_idxm rfl rfl rfl rfl rfl (by omega) hle rfl
        repeat (refine stp rfl ?_ ?_;·repeat' constructor)
        apply qst;exact rfl;exact rfl;exact q_callP rfl (end_ret x e.2 hpo) rfl (by repeat' constructor) rfl rfl
        repeat (refine stp rfl ?_ ?_;·repeat' constructor)
        apply qst;exact rfl;exact rfl;exact q_slit rfl rfl rfl rfl rfl rfl rfl rfl rfl rfl (by repeat' constructor) rfl
        repeat (refine stp rfl ?_ ?_;·repeat' constructor)
        refine ps_run (o_app 0 rfl rfl rfl rfl rfl rfl rfl rfl rfl rfl rfl (by repeat' constructor) (by intro row hr; first | (simp at hr; subst hr; rfl) | simp at hr) rfl rfl (by simp; omega) (by simp; omega) ?_)
        repeat (refine stp rfl ?_ ?_;·repeat' constructor)
        refine ⟨k + 1, by omega, by omega, rfl, rfl, ?_, rfl, rfl, ?_, rfl, ?_, trivial⟩
        · rw [hsn]; exact als_snoc eAsk 8 1 acc ⟨x.name, x.space, x.kind, e.2.day, endP x e.2⟩
        · exact i64_next (by omega) (by omega)
        · rw [hsn]; exact cont_snoc eAsk 1 53 5 0 acc ⟨x.name, x.space, x.kind, e.2.day, endP x e.2⟩
      · have hk0 : ¬ 0 ≤ x.kind := of_decide_eq_false h
        clear h
        rw [askQ, if_neg hk0, List.append_nil] at hsn
        repeat (refine stp rfl ?_ ?_;·repeat' constructor)
        refine ⟨k + 1, by omega, by omega, rfl, rfl, ?_, rfl, rfl, ?_, rfl, ?_, trivial⟩
        · rw [hsn]; rfl
        · exact i64_next (by omega) (by omega)
        · rw [hsn]; rfl
    · have hge : k = (dayI l).length := by have := of_decide_eq_false h; omega
      subst hge
      clear h
      rw [List.take_length]
      repeat (refine stp rfl ?_ ?_;·repeat' constructor)
      exact end2 rfl rfl rfl rfl rfl ⟨rfl, rfl, rfl⟩ trivial rfl
  · rw [planR, if_neg hz] at h45
    rw [asksR, if_neg hz]
    refine Ret.of_pwp layOk mixed Go.Proofs.Tryz.func17 rfl (by decide) rfl rfl ?_
    repeat (refine stp rfl ?_ ?_;·repeat' constructor)
    apply qst;exact rfl;exact rfl;exact q_call rfl (h45) rfl (by repeat' constructor) rfl
    repeat (refine stp rfl ?_ ?_;·repeat' constructor)
    refine pw_cond rfl (fun h => ?_) (fun h => ?_)
    · repeat (refine stp rfl ?_ ?_;·repeat' constructor)
      exact end2 rfl rfl rfl rfl rfl trivial trivial rfl
    · exact absurd (by simpa using h) hz
end Go.Pv


namespace Go.Proofs
open Go.Shelf
def Tryz.lays169_ren : Go.Shelf.Ren := ⟨fun | 169 => 53 | n => n, fun | 70 => 101 | 9 => 9 | 0 => 0 | 72 => 104 | 37 => 102 | 127 => 156 | 3 => 3 | 5 => 5 | n => n, fun | n => n⟩
theorem Tryz.lays169 : Go.Proofs.Lays.n169 Tryz.prog Tryz.lays169_ren := {
  mixed := by kernel_rfl
  f169 := Tryz.func53.trans (congrArg some (by kernel_rfl))
  t0 := Tryz.underlying0
  a0 := Tryz.isAgg0
  z0 := Tryz.sizeOf0
  v0 := Tryz.zeroValue0
  t3 := Tryz.underlying3
  a3 := Tryz.isAgg3
  z3 := Tryz.sizeOf3
  v3 := Tryz.zeroValue3
  t9 := Tryz.underlying9
  a9 := Tryz.isAgg9
  z9 := Tryz.sizeOf9
  v9 := Tryz.zeroValue9
  t37 := Tryz.underlying102
  a37 := Tryz.isAgg102
  z37 := Tryz.sizeOf102
  v37 := Tryz.zeroValue102
  t70 := Tryz.underlying101
  a70 := Tryz.isAgg101
  z70 := Tryz.sizeOf101
  v70 := Tryz.zeroValue101
  t72 := Tryz.underlying104
  a72 := Tryz.isAgg104
  z72 := Tryz.sizeOf104
  v72 := Tryz.zeroValue104
  t127 := Tryz.underlying156
  a127 := Tryz.isAgg156
  z127 := Tryz.sizeOf156
  v127 := Tryz.zeroValue156 }
theorem Tryz.Builder_Extra_169 : Builder.Extra Tryz.prog Tryz.lays169_ren := {
  sizeBuilder := by kernel_rfl
  liesBuilder := by kernel_rfl
  t5 := Tryz.underlying5
  a5 := Tryz.isAgg5
  z5 := Tryz.sizeOf5
  v5 := Tryz.zeroValue5
  infoByte := by kernel_rfl
  cellsByte := by kernel_rfl
  sizeByte := by kernel_rfl
  neB5 := by decide }
def Tryz.laysM171_ren : Go.Shelf.Ren := ⟨fun | 171 => 52 | 243 => 86 | 246 => 123 | 283 => 153 | 284 => 154 | 285 => 155 | 286 => 156 | 129 => 163 | 317 => 162 | 318 => 164 | 319 => 165 | 320 => 166 | 337 => 168 | 338 => 169 | n => n, fun | 3 => 3 | 9 => 9 | 2 => 2 | 4 => 4 | 171 => 204 | 0 => 0 | 53 => 205 | 37 => 102 | 5 => 5 | 173 => 208 | 212 => 218 | 51 => 219 | 20 => 20 | 213 => 220 | 46 => 215 | 232 => 223 | 233 => 224 | n => n, fun | 17 => 0 | 18 => 1 | 19 => 2 | n => n⟩
theorem Tryz.laysM171 : Go.Proofs.LaysM.n171 Tryz.prog Tryz.laysM171_ren := {
  mixed := by kernel_rfl
  f129 := Tryz.func163.trans (congrArg some (by kernel_rfl))
  f171 := Tryz.func52.trans (congrArg some (by kernel_rfl))
  f243 := Tryz.func86.trans (congrArg some (by kernel_rfl))
  f246 := Tryz.func123.trans (congrArg some (by kernel_rfl))
  f283 := Tryz.func153.trans (congrArg some (by kernel_rfl))
  f284 := Tryz.func154.trans (congrArg some (by kernel_rfl))
  f285 := Tryz.func155.trans (congrArg some (by kernel_rfl))
  f286 := Tryz.func156.trans (congrArg some (by kernel_rfl))
  f317 := Tryz.func162.trans (congrArg some (by kernel_rfl))
  f318 := Tryz.func164.trans (congrArg some (by kernel_rfl))
  f319 := Tryz.func165.trans (congrArg some (by kernel_rfl))
  f320 := Tryz.func166.trans (congrArg some (by kernel_rfl))
  f337 := Tryz.func168.trans (congrArg some (by kernel_rfl))
  f338 := Tryz.func169.trans (congrArg some (by kernel_rfl))
  t0 := Tryz.underlying0
  a0 := Tryz.isAgg0
  z0 := Tryz.sizeOf0
  v0 := Tryz.zeroValue0
  t2 := Tryz.underlying2
  a2 := Tryz.isAgg2
  z2 := Tryz.sizeOf2
  v2 := Tryz.zeroValue2
  t3 := Tryz.underlying3
  a3 := Tryz.isAgg3
  z3 := Tryz.sizeOf3
  v3 := Tryz.zeroValue3
  t4 := Tryz.underlying4
  a4 := Tryz.isAgg4
  z4 := Tryz.sizeOf4
  v4 := Tryz.zeroValue4
  t5 := Tryz.underlying5
  a5 := Tryz.isAgg5
  z5 := Tryz.sizeOf5
  v5 := Tryz.zeroValue5
  t9 := Tryz.underlying9
  a9 := Tryz.isAgg9
  z9 := Tryz.sizeOf9
  v9 := Tryz.zeroValue9
  t20 := Tryz.underlying20
  a20 := Tryz.isAgg20
  z20 := Tryz.sizeOf20
  v20 := Tryz.zeroValue20
  t37 := Tryz.underlying102
  a37 := Tryz.isAgg102
  z37 := Tryz.sizeOf102
  v37 := Tryz.zeroValue102
  t46 := Tryz.underlying215
  a46 := Tryz.isAgg215
  z46 := Tryz.sizeOf215
  v46 := Tryz.zeroValue215
  t51 := Tryz.underlying219
  a51 := Tryz.isAgg219
  z51 := Tryz.sizeOf219
  v51 := Tryz.zeroValue219
  t53 := Tryz.underlying205
  a53 := Tryz.isAgg205
  z53 := Tryz.sizeOf205
  v53 := Tryz.zeroValue205
  t171 := Tryz.underlying204
  a171 := Tryz.isAgg204
  z171 := Tryz.sizeOf204
  v171 := Tryz.zeroValue204
  t173 := Tryz.underlying208
  a173 := Tryz.isAgg208
  z173 := Tryz.sizeOf208
  v173 := Tryz.zeroValue208
  t212 := Tryz.underlying218
  a212 := Tryz.isAgg218
  z212 := Tryz.sizeOf218
  v212 := Tryz.zeroValue218
  t213 := Tryz.underlying220
  a213 := Tryz.isAgg220
  z213 := Tryz.sizeOf220
  t232 := Tryz.underlying223
  a232 := Tryz.isAgg223
  z232 := Tryz.sizeOf223
  v232 := Tryz.zeroValue223
  t233 := Tryz.underlying224
  a233 := Tryz.isAgg224
  z233 := Tryz.sizeOf224
  v233 := Tryz.zeroValue224
  g17 := by kernel_rfl
  g18 := by kernel_rfl
  g19 := by kernel_rfl
  i0 := by kernel_rfl
  i2 := by kernel_rfl
  i3 := by kernel_rfl
  i4 := by kernel_rfl
  i5 := by kernel_rfl
  i9 := by kernel_rfl
  i20 := by kernel_rfl
  i37 := by kernel_rfl
  i46 := by kernel_rfl
  i51 := by kernel_rfl
  i53 := by kernel_rfl
  i171 := by kernel_rfl
  i173 := by kernel_rfl
  i212 := by kernel_rfl
  i232 := by kernel_rfl
  i233 := by kernel_rfl
  m17 := by kernel_rfl
  m18 := by kernel_rfl
  m19 := by kernel_rfl }
open Go.RowKit Go.Sort Go.Lib in
theorem Tryz.strconv_Itoa (n : Int) (h0 : -9223372036854775808 ≤ n) (h1 : n ≤ 9223372036854775807) (w : World) (htab : Lib.TabIs Tryz.prog w "internal/strconv.uint64pow10" .u64 Lib.pow10Tab) :
    Calls Tryz.prog 52 #[.int .i64 n] w fun e w' => e = .returned (.string ⟨(Lib.itoa n).toArray⟩) ∧ ∃ k os, w' = grow (w.drewN k) os := Any.strconv_Itoa Tryz.laysM171 n h0 h1 w htab
end Go.Proofs


namespace Go.Proofs
open Go.Shelf
def Tryz.wren : Go.Shelf.Ren := ⟨fun | 166 => 51 | 240 => 85 | 276 => 122 | n => n, fun | 0 => 0 | 3 => 3 | 4 => 4 | 9 => 9 | 20 => 20 | 37 => 102 | 70 => 101 | 72 => 104 | 75 => 106 | 80 => 112 | 164 => 184 | 5 => 5 | n => n, fun | n => n⟩
theorem Tryz.wlays166 : Go.Proofs.Lays.n166 Tryz.prog Tryz.wren := {
  mixed := by kernel_rfl
  f166 := Tryz.func51.trans (congrArg some (by kernel_rfl))
  f240 := Tryz.func85.trans (congrArg some (by kernel_rfl))
  f276 := Tryz.func122.trans (congrArg some (by kernel_rfl))
  t0 := Tryz.underlying0
  a0 := Tryz.isAgg0
  z0 := Tryz.sizeOf0
  v0 := Tryz.zeroValue0
  t3 := Tryz.underlying3
  a3 := Tryz.isAgg3
  z3 := Tryz.sizeOf3
  v3 := Tryz.zeroValue3
  t4 := Tryz.underlying4
  a4 := Tryz.isAgg4
  z4 := Tryz.sizeOf4
  v4 := Tryz.zeroValue4
  t9 := Tryz.underlying9
  a9 := Tryz.isAgg9
  z9 := Tryz.sizeOf9
  v9 := Tryz.zeroValue9
  t20 := Tryz.underlying20
  a20 := Tryz.isAgg20
  z20 := Tryz.sizeOf20
  v20 := Tryz.zeroValue20
  t37 := Tryz.underlying102
  a37 := Tryz.isAgg102
  z37 := Tryz.sizeOf102
  v37 := Tryz.zeroValue102
  t70 := Tryz.underlying101
  a70 := Tryz.isAgg101
  z70 := Tryz.sizeOf101
  v70 := Tryz.zeroValue101
  t72 := Tryz.underlying104
  a72 := Tryz.isAgg104
  z72 := Tryz.sizeOf104
  v72 := Tryz.zeroValue104
  t75 := Tryz.underlying106
  a75 := Tryz.isAgg106
  z75 := Tryz.sizeOf106
  v75 := Tryz.zeroValue106
  t164 := Tryz.underlying184
  a164 := Tryz.isAgg184
  z164 := Tryz.sizeOf184
  v164 := Tryz.zeroValue184 }
theorem Tryz.Builder_Extra_w : Builder.Extra Tryz.prog Tryz.wren := {
  sizeBuilder := by kernel_rfl
  liesBuilder := by kernel_rfl
  t5 := Tryz.underlying5
  a5 := Tryz.isAgg5
  z5 := Tryz.sizeOf5
  v5 := Tryz.zeroValue5
  infoByte := by kernel_rfl
  cellsByte := by kernel_rfl
  sizeByte := by kernel_rfl
  neB5 := by decide }
end Go.Proofs
set_option maxHeartbeats 2000000
namespace Go.Pv
attribute [local irreducible] PWP POps PQuiet PSem XThen XBlock RetPost InlPost
open Go.Proofs Go.RowKit
theorem wstr51 : WStr Tryz.prog 51 104 5 := wstr Tryz.wlays166 Tryz.Builder_Extra_w
theorem sstr53 : SStr Tryz.prog 53 104 5 := sstr Tryz.lays169 Tryz.Builder_Extra_169
theorem itoa_ret (n : Int) (h0 : -9223372036854775808 ≤ n) (h1 : n ≤ 9223372036854775807) : Ret Tryz.prog .shared 52 [I n] (.str (Lib.itoa n)) := by
  refine ⟨⟨_, Go.Proofs.Tryz.func52, by decide, rfl⟩, fun w X args hg hX hl hargs => ?_⟩
  match args, hl with
  | [v], _ =>
    have hv := hargs 0 _ v rfl rfl
    cases hv
    have hg := pow_of hg
    refine (Go.Proofs.Tryz.strconv_Itoa n h0 h1 w hg).mono ?_
    rintro e w' ⟨rfl, k, os, rfl⟩
    exact ⟨_, rfl, Lib.below_grow w.heap.size w (Nat.le_refl _) k os, .str _⟩
end Go.Pv


set_option maxHeartbeats 2000000
namespace Go.Pv
attribute [local irreducible] PWP POps PQuiet PSem XThen XBlock RetPost InlPost
open Go.Proofs
theorem nDig_le : ∀ (u : Nat), Lib.nDigits u ≤ u + 1 := fun u => by
  induction u using Nat.strongRecOn with
  | _ u ih =>
    by_cases h : u < 10
    · rw [Lib.nDigits_small h]; omega
    · rw [Lib.nDigits_big h]
      have := ih (u / 10) (by omega)
      omega
theorem itoa_le {n : Int} (h0 : -2000 ≤ n) (h1 : n ≤ 2000) : (Lib.itoa n).length ≤ 2010 := by
  rw [Lib.itoa]
  split
  · rw [List.length_cons, Lib.decDigits_length]
    have := nDig_le n.natAbs
    omega
  · rw [Lib.decDigits_length]
    have := nDig_le n.toNat
    omega
def lineQ (q : SItem × SPl) : Str := q.1.name ++ [32] ++ Lib.itoa q.2.day ++ [45] ++ Lib.itoa (endP q.1 q.2 - 1) ++ [32] ++ Lib.itoa (modeAt q.1 q.2.mode).crew ++ [10]
def printI (w : SWork) (l : List SPl) (k : Nat) : Str := ((dayI l).take k).flatMap fun e => lineQ (itP w e.1, e.2)
def printR (w : SWork) (s : List SSlot) : PV := if slE w s = 0 then .tup [.str (printI w (placed w s) w.items.length), I 0] else .tup [.str [], I (slE w s)]
set_option maxRecDepth 20000 in
theorem print_ret (w : SWork) (hw : Sane w) (hn : w.items.length ≤ 19 ∨ 40 < w.items.length) (hnm : ∀ x ∈ w.items, x.name.length ≤ 40) (s : List SSlot) : Ret Tryz.prog .shared 18 [.agg (eWork w), .sl (s.map eSlot)] (printR w s) := by
  have h43 := slotsErr_ret w hw s
  by_cases hz : slE w s = 0
  · obtain ⟨hv, hf⟩ := full_of hz
    have hn : w.items.length ≤ 19 := by have := hv.n40; omega
    have hlen := hf.len
    rw [slotsR, if_pos hz] at h43
    rw [printR, if_pos hz]
    generalize placed w s = l at *
    have hbd := byDay_ret l (by omega) (full_day hf)
    have hdl := dayI_len l
    rw [← hlen, ← hdl]
    refine Ret.of_pwp layOk mixed Go.Proofs.Tryz.func18 rfl (by decide) rfl rfl ?_
    repeat (refine stp rfl ?_ ?_;·repeat' constructor)
    apply qst;exact rfl;exact rfl;exact q_call rfl (h43) rfl (by repeat' constructor) rfl
    ((repeat ((fail_if_success (with_reducible refine pw_at 4 ?_)); (refine stp rfl ?_ ?_;·repeat' (first|exact True.intro|exact rfl|refine And.intro ?_ ?_)))); refine pw_regionS 0 ?_)
    refine ps_nil ?_
    refine psem_sm rfl (sm_bnew 8 1008 5 rfl rfl rfl (by kernel_rfl) ?_)
    refine psem_ops ?_
    repeat (refine stp rfl ?_ ?_;·repeat' constructor)
    apply qst;exact rfl;exact rfl;exact q_call rfl (hbd) rfl (by repeat' constructor) rfl
    repeat (refine stp rfl ?_ ?_;·repeat' constructor)
    refine pw_loop (fun k => k ≤ (dayI l).length ∧ (printI w l k).length ≤ k * 7000) (fun k => [(2, .ptr 2 1 0 0), (6, .sl (l.map ePl)), (8, .mi 8 1), (22, .sl ((dayI l).map eIx)), (23, I (dayI l).length), (24, I k)])
      (fun k => [(2, 1, ⟨28, 9, [eWork w], 2⟩), (8, 1, bldC 104 1008 (1 + k) (printI w l k).length), (1008, 1 + k, ⟨5, 1, (printI w l k).map rowB, 0⟩)]) (fun k => (dayI l).length - k) 0 ⟨Nat.zero_le _, by simp [printI]⟩ ⟨rfl, rfl, rfl, rfl, ?_, rfl, rfl, rfl, rfl, trivial⟩ ?_
    · show I (((dayI l).map eIx).length) = _
      simp
    rintro k st ⟨hk, hpl⟩
    repeat (refine stp rfl ?_ ?_;·repeat' constructor)
    refine pw_cond rfl (fun h => ?_) (fun h => ?_)
    · have hlt : k < (dayI l).length := by have := of_decide_eq_true h; omega
      clear h
      obtain ⟨e, he⟩ := get_lt hlt
      have hle := dayI_mem (List.mem_of_getElem? he)
      obtain ⟨x, hx⟩ := get_lt (show e.1 < w.items.length by have := (List.getElem?_eq_some_iff.1 hle).1; omega)
      have hpo := hf.at_ hx hle
      have hmo := hpo.mode
      have hml := hpo.lo
      have q1 := hpo.day
      have q2 := hpo.days
      have q3 := hpo.crew
      have hxi : itP w e.1 = x := itP_at hx
      have hsn : printI w l (k + 1) = printI w l k ++ lineQ (x, e.2) := by rw [printI, fm_snoc he, hxi]; rfl
      have hep : endP x e.2 = e.2.day + (modeAt x e.2.mode).days := rfl
      have hn1 := hnm x (List.mem_of_getElem? hx)
      have c1 := itoa_ret e.2.day (by omega) (by omega)
      have c2 := itoa_ret (endP x e.2 - 1) (by omega) (by omega)
      have c3 := itoa_ret (modeAt x e.2.mode).crew (by omega) (by omega)
      have l1 := itoa_le (n := e.2.day) (by omega) (by omega)
      have l2 := itoa_le (n := endP x e.2 - 1) (by omega) (by omega)
      have l3 := itoa_le (n := (modeAt x e.2.mode).crew) (by omega) (by omega)
      have hw1 : IntKind.i64.wrap (endP x e.2 - 1) = endP x e.2 - 1 := wrap_i64 (by omega) (by omega)
      have hlq : (lineQ (x, e.2)).length ≤ 7000 := by
        simp only [lineQ, List.length_append, List.length_cons, List.length_nil]; omega
      have hlq2 : lineQ (x, e.2) = x.name ++ [32] ++ Lib.itoa e.2.day ++ [45] ++ Lib.itoa (endP x e.2 - 1) ++ [32] ++ Lib.itoa (modeAt x e.2.mode).crew ++ [10] := rfl
      generalize lineQ (x, e.2) = line at *
      generalize printI w l k = acc at *
      generalize Lib.itoa e.2.day = i1 at *
      generalize Lib.itoa (endP x e.2 - 1) = i2 at *
      generalize Lib.itoa (modeAt x e.2.mode).crew = i3 at *
      repeat (refine stp rfl ?_ ?_;·repeat' constructor)
      apply qst;exact rfl;exact rfl;exact q_idxm rfl rfl rfl rfl rfl (by omega) he rfl
      repeat (refine stp rfl ?_ ?_;·repeat' constructor)
      apply qst;exact rfl;exact rfl;exact q_idxm rfl rfl rfl rfl rfl (by omega) hx rfl
      repeat (refine stp rfl ?_ ?_;·repeat' constructor)
      refine pw_drawS 34 [33, 34, 35, 36, 37, 38, 39, 40, 41, 42, 43, 44, 45, 46, 47, 48, 49, 50, 51, 52, 53, 54, 55, 56, 57, 58, 59, 60, 61, 62, 63, 64, 65, 66] (by decide +kernel) ?_
      repeat (refine stp rfl ?_ ?_;·repeat' (first|exact True.intro|exact rfl|refine And.intro ?_ ?_))
      apply qst;exact rfl;exact rfl;exact QOp.v rfl (by simp only [List.length_append, List.length_cons, List.length_nil]; omega)
      repeat (refine stp rfl ?_ ?_;·repeat' (first|exact True.intro|exact rfl|refine And.intro ?_ ?_))
      apply qst;exact rfl;exact rfl;exact q_idxm rfl rfl rfl rfl rfl (by omega) hle rfl
      repeat (refine stp rfl ?_ ?_;·repeat' (first|exact True.intro|exact rfl|refine And.intro ?_ ?_))
      apply qst;exact rfl;exact rfl;exact q_callP rfl (c1) rfl (by repeat' constructor) rfl rfl
      apply qst;exact rfl;exact rfl;exact QOp.v rfl (by simp only [List.length_append, List.length_cons, List.length_nil]; omega)
      apply qst;exact rfl;exact rfl;exact QOp.v rfl (by simp only [List.length_append, List.length_cons, List.length_nil]; omega)
      repeat (refine stp rfl ?_ ?_;·repeat' (first|exact True.intro|exact rfl|refine And.intro ?_ ?_))
      apply qst;exact rfl;exact rfl;exact q_idxm rfl rfl rfl rfl rfl (by omega) hle rfl
      repeat (refine stp rfl ?_ ?_;·repeat' (first|exact True.intro|exact rfl|refine And.intro ?_ ?_))
      apply qst;exact rfl;exact rfl;exact q_callP rfl (end_ret x e.2 hpo) rfl (by repeat' constructor) rfl rfl
      repeat (refine stp rfl ?_ ?_;·repeat' (first|exact True.intro|exact rfl|refine And.intro ?_ ?_))
      rw [hw1]
      apply qst;exact rfl;exact rfl;exact q_callP rfl (c2) rfl (by repeat' constructor) rfl rfl
      apply qst;exact rfl;exact rfl;exact QOp.v rfl (by simp only [List.length_append, List.length_cons, List.length_nil]; omega)
      apply qst;exact rfl;exact rfl;exact QOp.v rfl (by simp only [List.length_append, List.length_cons, List.length_nil]; omega)
      repeat (refine stp rfl ?_ ?_;·repeat' (first|exact True.intro|exact rfl|refine And.intro ?_ ?_))
      apply qst;exact rfl;exact rfl;exact q_idxm rfl rfl rfl rfl rfl (by omega) hle rfl
      repeat (refine stp rfl ?_ ?_;·repeat' (first|exact True.intro|exact rfl|refine And.intro ?_ ?_))
      apply qst;exact rfl;exact rfl;exact q_idxm (n := (e.2.mode : Int)) rfl rfl rfl rfl rfl (by omega) hmo rfl
      repeat (refine stp rfl ?_ ?_;·repeat' (first|exact True.intro|exact rfl|refine And.intro ?_ ?_))
      apply qst;exact rfl;exact rfl;exact q_callP rfl (c3) rfl (by repeat' constructor) rfl rfl
      apply qst;exact rfl;exact rfl;exact QOp.v rfl (by simp only [List.length_append, List.length_cons, List.length_nil]; omega)
      apply qst;exact rfl;exact rfl;exact QOp.v rfl (by simp only [List.length_append, List.length_cons, List.length_nil]; omega)
      repeat (refine stp rfl ?_ ?_;·repeat' (first|exact True.intro|exact rfl|refine And.intro ?_ ?_))
      refine psem_sm rfl (sm_bwrite (T := 104) (e := 5) ⟨_, Go.Proofs.Tryz.func51, by decide, rfl⟩ wstr51 rfl rfl rfl rfl rfl rfl rfl (by rw [← hlq2]; omega) ?_)
      rw [← hlq2]
      refine psem_ops ?_
      repeat (refine stp rfl ?_ ?_;·repeat' constructor)
      refine ⟨k + 1, ⟨by omega, by rw [hsn, List.length_append]; omega⟩, by omega, ?_⟩
      rw [hsn]
      exact ⟨rfl, rfl, rfl, rfl, rfl, i64_next (by omega) (by omega), rfl, rfl, rfl, trivial⟩
    · have hge : k = (dayI l).length := by have := of_decide_eq_false h; omega
      subst hge
      clear h
      generalize printI w l (dayI l).length = acc at *
      ((repeat ((fail_if_success (with_reducible refine pw_at 11 ?_)); (refine stp rfl ?_ ?_;·repeat' (first|exact True.intro|exact rfl|refine And.intro ?_ ?_)))); refine pw_regionS 0 ?_)
      refine ps_nil ?_
      refine psem_sm rfl (sm_bread (T := 104) (e := 5) ⟨_, Go.Proofs.Tryz.func53, by decide, rfl⟩ sstr53 rfl rfl rfl rfl ?_)
      refine psem_ops ?_
      repeat (refine stp rfl ?_ ?_;·repeat' constructor)
      exact end2 rfl rfl rfl rfl rfl trivial trivial rfl
  · rw [slotsR, if_neg hz] at h43
    rw [printR, if_neg hz]
    refine Ret.of_pwp layOk mixed Go.Proofs.Tryz.func18 rfl (by decide) rfl rfl ?_
    repeat (refine stp rfl ?_ ?_;·repeat' constructor)
    apply qst;exact rfl;exact rfl;exact q_call rfl (h43) rfl (by repeat' constructor) rfl
    repeat (refine stp rfl ?_ ?_;·repeat' constructor)
    refine pw_cond rfl (fun h => ?_) (fun h => ?_)
    · repeat (refine stp rfl ?_ ?_;·repeat' constructor)
      exact end2 rfl rfl rfl rfl rfl trivial trivial rfl
    · exact absurd (by simpa using h) hz
end Go.Pv


set_option maxHeartbeats 2000000
namespace Go.Pv
attribute [local irreducible] PWP POps PQuiet PSem XThen XBlock RetPost InlPost
open Go.Proofs
theorem decd_small {u : Nat} (h : u < 10) : Lib.decDigits u = [UInt8.ofNat (48 + u)] := by rw [Lib.decDigits, dif_pos h]
theorem decd_big {u : Nat} (h : ¬ u < 10) : Lib.decDigits u = Lib.decDigits (u / 10) ++ [UInt8.ofNat (48 + u % 10)] := by rw [Lib.decDigits, dif_neg h]
def DecR (u0 : Nat) (k : Nat × List UInt8) : Prop := k.1 ≤ u0 / 10 ∧ k.2.length + k.1 ≤ u0 + 1 ∧ Lib.decDigits u0 = (if k.1 = 0 then k.2 else Lib.decDigits k.1 ++ k.2)
theorem DecR.step {u0 : Nat} {k : Nat × List UInt8} (h : DecR u0 k) (hc : 0 < k.1) : DecR u0 (k.1 / 10, UInt8.ofNat (48 + k.1 % 10) :: k.2) := by
  obtain ⟨h1, h2, h3⟩ := h
  rw [if_neg (by omega)] at h3
  refine ⟨by simp only; omega, by simp only [List.length_cons]; omega, ?_⟩
  rw [h3]
  by_cases hs : k.1 < 10
  · rw [if_pos (by simp only; omega), decd_small hs, show k.1 % 10 = k.1 by omega]; rfl
  · rw [if_neg (by simp only; omega), decd_big hs]; simp
theorem u8_dig (d : Nat) (h : d < 10) : IntKind.wrap .u8 (IntKind.wrap .i64 (48 + (d : Int))) = ((UInt8.ofNat (48 + d)).toNat : Int) := by
  have : ∀ i : Fin 10, IntKind.wrap .u8 (IntKind.wrap .i64 (48 + (i.val : Int))) = ((UInt8.ofNat (48 + i.val)).toNat : Int) := by decide
  exact this ⟨d, h⟩
theorem tdiv10 (u : Nat) (hu : u ≤ 1000000000000000) : IntKind.wrap .i64 ((u : Int).tdiv 10) = ((u / 10 : Nat) : Int) := by rw [Int.tdiv_eq_ediv_of_nonneg (by omega), wrap_i64 (by omega) (by omega)]; omega
theorem tmod10 (u : Nat) : ((u : Int)).tmod 10 = ((u % 10 : Nat) : Int) := by rw [Int.tmod_eq_emod_of_nonneg (by omega)]; omega
theorem decimal_ref (u : Nat) (hu : u ≤ 1000000000000000) : Ret Tryz.prog .shared 55 [I u] (.str (Lib.decDigits u)) := by
  refine Ret.of_pwp layOk mixed Go.Proofs.Tryz.func55 rfl (by decide) rfl rfl ?_
  repeat (refine stp rfl ?_ ?_;·repeat' constructor)
  refine ps_v rfl (show ¬ (10 : Int) = 0 by decide) ?_
  rw [tmod10]
  repeat (refine stp rfl ?_ ?_;·repeat' constructor)
  rw [u8_dig _ (Nat.mod_lt _ (by decide))]
  apply qst;exact rfl;exact rfl;exact q_slit rfl rfl rfl rfl rfl rfl rfl rfl rfl rfl (by repeat' constructor) rfl
  apply qst;exact rfl;exact rfl;exact q_b2s (l := [UInt8.ofNat (48 + u % 10)]) rfl rfl rfl rfl rfl rfl (by simp) rfl
  repeat (refine stp rfl ?_ ?_;·repeat' constructor)
  refine ps_v rfl (show ¬ (10 : Int) = 0 by decide) ?_
  rw [tdiv10 u hu]
  repeat (refine stp rfl ?_ ?_;·repeat' constructor)
  refine pw_loop (DecR u) (fun k => [(0, I k.1), (3, .str k.2)]) (fun _ => []) (fun k => k.1) (u / 10, [UInt8.ofNat (48 + u % 10)]) ⟨Nat.le_refl _, by simp only [List.length_cons, List.length_nil]; omega, ?_⟩ ⟨rfl, rfl, trivial⟩ ?_
  · by_cases hs : u < 10
    · rw [if_pos (by simp only; omega), decd_small hs, show u % 10 = u by omega]
    · rw [if_neg (by simp only; omega), decd_big hs]
  intro k s hk
  have hk1 := hk.1
  have hk2 := hk.2.1
  repeat (refine stp rfl ?_ ?_;·repeat' constructor)
  refine pw_cond rfl (fun h => ?_) (fun h => ?_)
  · have hc : 0 < k.1 := by have := of_decide_eq_true h; omega
    clear h
    repeat (refine stp rfl ?_ ?_;·repeat' constructor)
    refine ps_v rfl (show ¬ (10 : Int) = 0 by decide) ?_
    rw [tmod10]
    repeat (refine stp rfl ?_ ?_;·repeat' constructor)
    rw [u8_dig _ (Nat.mod_lt _ (by decide))]
    apply qst;exact rfl;exact rfl;exact q_slit rfl rfl rfl rfl rfl rfl rfl rfl rfl rfl (by repeat' constructor) rfl
    apply qst;exact rfl;exact rfl;exact q_b2s (l := [UInt8.ofNat (48 + k.1 % 10)]) rfl rfl rfl rfl rfl rfl (by simp) rfl
    repeat (refine stp rfl ?_ ?_;·repeat' constructor)
    refine ps_v rfl (show ((([UInt8.ofNat (48 + k.1 % 10)] : List UInt8).length : Nat) : Int) + (k.2.length : Nat) ≤ 9223372036854775807 by simp; omega) ?_
    repeat (refine stp rfl ?_ ?_;·repeat' constructor)
    refine ps_v rfl (show ¬ (10 : Int) = 0 by decide) ?_
    rw [tdiv10 _ (by omega)]
    repeat (refine stp rfl ?_ ?_;·repeat' constructor)
    exact ⟨(k.1 / 10, UInt8.ofNat (48 + k.1 % 10) :: k.2), hk.step hc, (by simp only; omega), rfl, rfl, trivial⟩
  · have hc : k.1 = 0 := by have := of_decide_eq_false h; omega
    have hd := hk.2.2
    rw [if_pos hc] at hd
    rw [hd]
    repeat (refine stp rfl ?_ ?_;·repeat' constructor)
    exact end1 rfl rfl rfl trivial rfl
end Go.Pv


set_option maxHeartbeats 2000000
namespace Go.Pv
attribute [local irreducible] PWP POps PQuiet PSem XThen XBlock RetPost InlPost
open Go.Proofs
def sDay (s : SSlot) : Int := s.day
set_option maxRecDepth 20000 in
theorem byDay_ref (w : SWork) (s : List SSlot) (S : List SSlot) (hS : S.length ≤ 1000) (hsort : Ret Tryz.prog .shared 87 [.agg (eWork w), .sl (s.map eSlot)] (.sl (S.map eSlot))) :
    Ret Tryz.prog .shared 54 [.agg (eWork w), .sl (s.map eSlot)] (.sl ((sortR sDay S).map eSlot)) := by
  refine Ret.of_pwp layOk mixed Go.Proofs.Tryz.func54 rfl (by decide) rfl rfl ?_
  ((repeat (first | refine ps_nil ?_ | refine pq_nil ?_ | refine x_norm ?_ | refine pw_seq ?_)); refine pw_region ?_)
  refine ps_run (o_box rfl rfl rfl (by repeat' constructor) rfl ?_)
  refine ps_v rfl trivial ?_
  ((repeat (first | refine ps_nil ?_ | refine pq_nil ?_ | refine x_norm ?_ | refine pw_seq ?_)); refine pw_region ?_)
  repeat (refine stp rfl ?_ ?_;·repeat' constructor)
  apply qst;exact rfl;exact rfl;exact q_call rfl (hsort) rfl (by repeat' constructor) rfl
  (repeat ((fail_if_success (with_reducible refine pw_at 2 ?_)); (refine stp rfl ?_ ?_;·repeat' (first|exact True.intro|exact rfl|refine And.intro ?_ ?_))))
  ((repeat (first | refine ps_nil ?_ | refine pq_nil ?_ | refine x_norm ?_ | refine pw_seq ?_)); refine pw_region ?_)
  (first | refine ps_run (o_nilm 64 3 0 rfl rfl ?_) | refine ps_run (o_nila 64 3 0 rfl rfl ?_))
  repeat (refine stp rfl ?_ ?_;·repeat' constructor)
  refine pw_loop (fun i => i ≤ S.length) (fun i => [(2, .ptr 2 1 0 0), (5, .sl (S.map eSlot)), (6, .als 6 (1 + i) 0 ((sortR sDay (S.take i)).map eSlot).length), (7, I i)])
    (fun i => [(2, 1, ⟨28, 9, [eWork w], 2⟩), (6, 1 + i, ⟨64, 3, (sortR sDay (S.take i)).map eSlot, 0⟩)]) (fun i => S.length - i) 0 (Nat.zero_le _) ⟨rfl, rfl, rfl, rfl, rfl, rfl, trivial⟩ ?_
  intro i s1 hi
  repeat (refine stp rfl ?_ ?_;·repeat' constructor)
  refine pw_cond rfl (fun h => ?_) (fun h => ?_)
  · have hlt : i < S.length := by have := of_decide_eq_true h; simp at this; omega
    clear h
    obtain ⟨x, hx⟩ := get_lt hlt
    have hins : sortR sDay (S.take (i + 1)) = insR sDay (sortR sDay (S.take i)) x := by rw [take_snoc hx, sortR_snoc]
    generalize hP : sortR sDay (S.take i) = P at *
    have hPl : P.length = i := by rw [← hP, sortR_len, List.length_take]; omega
    have hpl := posR_le sDay P x
    (repeat ((fail_if_success (with_reducible refine pw_at 6 ?_)); (refine stp rfl ?_ ?_;·repeat' (first|exact True.intro|exact rfl|refine And.intro ?_ ?_))))
    ((repeat (first | refine ps_nil ?_ | refine pq_nil ?_ | refine x_norm ?_ | refine pw_seq ?_)); refine pw_region ?_)
    iterate 3 (refine stp rfl ?_ ?_;·repeat' constructor)
    refine ps_nil ?_
    refine x_norm ?_
    refine pw_cut [(2, .ptr 2 1 0 0), (5, .sl (S.map eSlot)), (6, .als 6 (1 + i) 0 (P.map eSlot).length), (7, I i), (8, I (posR sDay P x))] [(2, 1, ⟨28, 9, [eWork w], 2⟩), (6, 1 + i, ⟨64, 3, P.map eSlot, 0⟩)] ?_ (fun s3 => ?_)
    rotate_left
    · generalize hk : posR sDay P x = k at *
      have hzz : P.map eSlot ++ [[.str [], I 0, I 0]] = (P ++ [(⟨[], 0, 0⟩ : SSlot)]).map eSlot := by rw [List.map_append]; rfl
      have hml : (P.map eSlot ++ [[.str [], I 0, I 0]]).length = P.length + 1 := by simp
      have hw1 : IntKind.i64.wrap ((k : Int) + 1) = ((k + 1 : Nat) : Int) := by rw [wrap_i64 (by omega) (by omega)]; omega
      have hcpy := cpy_ins (l := P) (x := x) (z := ⟨[], 0, 0⟩) hpl
      have hrow : ∀ j, j < P.length + 1 → ∃ y, (cpy (P.map eSlot ++ [[.str [], I 0, I 0]]) (k + 1) k (P.length - k))[j]? = some (eSlot y) := by
        intro j hj
        rw [hzz, cpy_map, List.getElem?_map]
        have hl2 : (cpy (P ++ [⟨[], 0, 0⟩]) (k + 1) k (P.length - k)).length = P.length + 1 := by
          have := congrArg List.length hcpy
          rw [List.length_set] at this
          rw [this]; simp [insAt]; omega
        obtain ⟨y, hy⟩ := get_lt (show j < (cpy (P ++ [⟨[], 0, 0⟩]) (k + 1) k (P.length - k)).length by omega)
        exact ⟨y, by rw [hy]; rfl⟩
      obtain ⟨yk, hrk⟩ := hrow k (by omega)
      have hset : (cpy (P.map eSlot ++ [[.str [], I 0, I 0]]) (k + 1) k (P.length - k)).set k (eSlot x) = (insAt P x k).map eSlot := by
        rw [hzz, cpy_map, ← List.map_set, hcpy]
      repeat (refine stp rfl ?_ ?_;·repeat' constructor)
      apply qst;exact rfl;exact rfl;exact q_slit rfl rfl rfl rfl rfl rfl rfl rfl rfl rfl (by repeat' constructor) rfl
      refine ps_run (o_app 0 rfl rfl rfl rfl rfl rfl rfl rfl rfl rfl rfl (by repeat' constructor) (by intro row hr; first | (simp at hr; subst hr; rfl) | simp at hr) rfl rfl (by simp; omega) (by simp; omega) ?_)
      repeat (refine stp rfl ?_ ?_;·repeat' constructor)
      refine pw_drawS 7 [42, 43, 44, 45, 46, 47, 48] (by decide +kernel) ?_
      repeat (refine stp rfl ?_ ?_;·repeat' constructor)
      rw [hw1]
      by_cases hlt2 : k < P.length
      · apply qst;exact rfl;exact rfl;exact q_slA (k + 1) (P.length + 1) rfl rfl rfl rfl rfl rfl (.inr ⟨_, _, rfl, rfl⟩) (.inl ⟨rfl, hml.symm⟩) (by omega) (by simp)
        rw [Nat.zero_add (k + 1)]
        repeat (refine stp rfl ?_ ?_;·repeat' constructor)
        apply qst;exact rfl;exact rfl;exact q_slA k (P.length + 1) rfl rfl rfl rfl rfl rfl (.inr ⟨_, _, rfl, rfl⟩) (.inl ⟨rfl, hml.symm⟩) (by omega) (by simp)
        rw [Nat.zero_add k]
        repeat (refine stp rfl ?_ ?_;·repeat' constructor)
        refine psem_sm rfl (sm_copy (n := P.length - k) layOk rfl rfl rfl rfl (by show 0 < 3; decide) (by simp) rfl rfl rfl (by have := Nat.min_eq_right (show P.length + 1 - (k + 1) ≤ P.length + 1 - k by omega); show P.length - k = min (P.length + 1 - k) (P.length + 1 - (k + 1)); rw [this]; omega) ?_)
        refine psem_ops ?_
        repeat (refine stp rfl ?_ ?_;·repeat' constructor)
        apply qst;exact rfl;exact rfl;exact q_idxm rfl rfl rfl rfl rfl (by omega) hx rfl
        repeat (refine stp rfl ?_ ?_;·repeat' constructor)
        apply qst;exact rfl;exact rfl;exact q_idxA rfl rfl rfl rfl rfl rfl rfl (by omega) (by simp; omega)
        rw [Int.toNat_natCast, Nat.zero_add k]
        refine ps_run0 (o_store (kd' := 0) rfl rfl rfl hrk rfl rfl (by repeat' constructor) rfl rfl rfl rfl ?_)
        repeat (refine stp rfl ?_ ?_;·repeat' constructor)
        refine ⟨i + 1, by omega, by omega, rfl, rfl, ?_, i64_next (by omega) (by omega), rfl, ?_, trivial⟩
        · show PV.als 6 (1 + i + 1) 0 _ = PV.als 6 (1 + (i + 1)) 0 _
          rw [List.length_map, sortR_len, List.length_take, Nat.min_eq_left (by omega)]
          congr 1
          simp; omega
        · refine Eq.trans (b := (1 + i + 1, some (Cont.mk 64 3 ((cpy (P.map eSlot ++ [[.str [], I 0, I 0]]) (k + 1) k (P.length - k)).set k (eSlot x)) 0))) rfl ?_
          rw [hset, hins, insR, hk]; rfl
      · have hkP : k = P.length := by omega
        have hc0 : cpy (P.map eSlot ++ [[.str [], I 0, I 0]]) (k + 1) k (P.length - k) = P.map eSlot ++ [[.str [], I 0, I 0]] := by
          rw [hkP, Nat.sub_self, cpy, List.take_zero, List.append_nil, Nat.add_zero, List.take_append_drop]
        rw [hc0] at hrk hset
        apply qst;exact rfl;exact rfl;exact q_slE (P.length + 1) rfl rfl rfl rfl rfl (.inr ⟨_, _, rfl, by rw [← hkP]; rfl⟩) (.inl ⟨rfl, hml.symm⟩) (by simp)
        repeat (refine stp rfl ?_ ?_;·repeat' constructor)
        apply qst;exact rfl;exact rfl;exact q_slA k (P.length + 1) rfl rfl rfl rfl rfl rfl (.inr ⟨_, _, rfl, rfl⟩) (.inl ⟨rfl, hml.symm⟩) (by omega) (by simp)
        rw [Nat.zero_add k]
        repeat (refine stp rfl ?_ ?_;·repeat' constructor)
        refine psem_sm rfl (sm_copy0 layOk rfl rfl rfl rfl rfl rfl ?_)
        refine psem_ops ?_
        repeat (refine stp rfl ?_ ?_;·repeat' constructor)
        apply qst;exact rfl;exact rfl;exact q_idxm rfl rfl rfl rfl rfl (by omega) hx rfl
        repeat (refine stp rfl ?_ ?_;·repeat' constructor)
        apply qst;exact rfl;exact rfl;exact q_idxA rfl rfl rfl rfl rfl rfl rfl (by omega) (by simp; omega)
        rw [Int.toNat_natCast, Nat.zero_add k]
        refine ps_run0 (o_store (kd' := 0) rfl rfl rfl hrk rfl rfl (by repeat' constructor) rfl rfl rfl rfl ?_)
        repeat (refine stp rfl ?_ ?_;·repeat' constructor)
        refine ⟨i + 1, by omega, by omega, rfl, rfl, ?_, i64_next (by omega) (by omega), rfl, ?_, trivial⟩
        · show PV.als 6 (1 + i + 1) 0 _ = PV.als 6 (1 + (i + 1)) 0 _
          rw [List.length_map, sortR_len, List.length_take, Nat.min_eq_left (by omega)]
          congr 1
          simp; omega
        · refine Eq.trans (b := (1 + i + 1, some (Cont.mk 64 3 ((P.map eSlot ++ [[.str [], I 0, I 0]]).set k (eSlot x)) 0))) rfl ?_
          rw [hset, hins, insR, hk]; rfl
    repeat (refine stp rfl ?_ ?_;·repeat' constructor)
    refine pw_loop (fun k => k ≤ P.length ∧ ∀ q y, k ≤ q → P[q]? = some y → sDay x < sDay y) (fun k => [(2, .ptr 2 1 0 0), (5, .sl (S.map eSlot)), (6, .als 6 (1 + i) 0 (P.map eSlot).length), (7, I i), (8, I k)])
      (fun k => [(2, 1, ⟨28, 9, [eWork w], 2⟩), (6, 1 + i, ⟨64, 3, P.map eSlot, 0⟩)]) (fun k => k) P.length ⟨Nat.le_refl _, fun q y hq hy => by rw [List.getElem?_eq_none (by omega)] at hy; cases hy⟩ ⟨rfl, rfl, rfl, rfl, ?_, rfl, rfl, trivial⟩ ?_
    · show I ((P.map eSlot).length) = _
      simp
    rintro k s2 ⟨hk, hpre⟩
    repeat (refine stp rfl ?_ ?_;·repeat' constructor)
    refine pw_draw 16 [20, 21, 22, 23, 24, 25, 26, 27, 28, 29, 30, 31, 32, 33, 34, 35] (by decide +kernel) ?_
    repeat (refine stp rfl ?_ ?_;·repeat' constructor)
    (first | refine ps_split rfl rfl (fun h => ?_) (fun h => ?_) | refine pq_split rfl rfl (fun h => ?_) (fun h => ?_) | refine p3_split rfl rfl (fun h => ?_) (fun h => ?_))
    · have hk0 : 0 < k := by have := of_decide_eq_true h; omega
      clear h
      obtain ⟨j, rfl⟩ : ∃ j, k = j + 1 := ⟨k - 1, by omega⟩
      obtain ⟨y, hy⟩ := get_lt (show j < P.length by omega)
      have hrow : (P.map eSlot)[j]? = some (eSlot y) := by rw [List.getElem?_map, hy]; rfl
      have hw1 : IntKind.i64.wrap (((j + 1 : Nat) : Int) - 1) = (j : Nat) := by rw [wrap_i64 (by omega) (by omega)]; omega
      repeat (refine stp rfl ?_ ?_;·repeat' constructor)
      rw [hw1]
      apply qst;exact rfl;exact rfl;exact q_idxA rfl rfl rfl rfl rfl rfl rfl (by omega) (by rw [List.length_map]; omega)
      rw [Int.toNat_natCast, Nat.zero_add j]
      repeat (refine stp rfl ?_ ?_;·repeat' constructor)
      apply qst;exact rfl;exact rfl;exact q_ldp rfl rfl rfl hrow rfl
      repeat (refine stp rfl ?_ ?_;·repeat' constructor)
      apply qst;exact rfl;exact rfl;exact q_idxm rfl rfl rfl rfl rfl (by omega) hx rfl
      repeat (refine stp rfl ?_ ?_;·repeat' constructor)
      refine pw_cond rfl (fun h => ?_) (fun h => ?_)
      · have hlt2 : x.day < y.day := by have := of_decide_eq_true h; omega
        clear h
        repeat (refine stp rfl ?_ ?_;·repeat' constructor)
        refine ⟨j, ⟨by omega, fun q z hq hz => ?_⟩, by omega, rfl, rfl, rfl, rfl, ?_, rfl, rfl, trivial⟩
        · by_cases hqk : q = j
          · subst hqk; rw [hy] at hz; cases hz; exact hlt2
          · exact hpre q z (by omega) hz
        · exact congrArg I hw1
      · have hge2 : y.day ≤ x.day := by have := of_decide_eq_false h; omega
        clear h
        have hpos : posR sDay P x = j + 1 := posR_at (by omega) hpre (.inr ⟨y, hy, hge2⟩)
        rw [← hpos]
        repeat (refine stp rfl ?_ ?_;·repeat' constructor)
        exact ⟨rfl, rfl, rfl, rfl, rfl, rfl, rfl, trivial⟩
    · have hk0 : k = 0 := by have := of_decide_eq_false h; omega
      subst hk0
      clear h
      have hpos : posR sDay P x = 0 := posR_at (by omega) hpre (.inl rfl)
      rw [show ((0 : Nat) : Int) = ((posR sDay P x : Nat) : Int) by rw [hpos]]
      repeat (refine stp rfl ?_ ?_;·repeat' constructor)
      exact ⟨rfl, rfl, rfl, rfl, rfl, rfl, rfl, trivial⟩
  · have hge : i = S.length := by have := of_decide_eq_false h; simp at this; omega
    subst hge
    clear h
    rw [List.take_length]
    repeat (refine stp rfl ?_ ?_;·repeat' constructor)
    exact end1 rfl rfl rfl ⟨rfl, rfl, rfl⟩ rfl
end Go.Pv


set_option maxHeartbeats 2000000
namespace Go.Pv
attribute [local irreducible] PWP POps PQuiet PSem XThen XBlock RetPost InlPost
open Go.Proofs
def dayP (q : List (SItem × SPl)) : List (SItem × SPl) := sortR (fun q => q.2.day) q
theorem day_qS (q : List (SItem × SPl)) : sortR sDay (qS q) = qS (dayP q) := by rw [qS, sortR_map]; rfl
theorem dayP_len (q : List (SItem × SPl)) : (dayP q).length = q.length := by rw [dayP, sortR_len]
theorem slotAt_q {w : SWork} (hv : Well w) {x : SItem} {p : SPl} (hx : x ∈ w.items) (hok : PlOk x p) : SlotAt w ⟨x.name, p.mode, p.day⟩ x (modeAt x p.mode) := by
  obtain ⟨k, hk⟩ := List.getElem?_of_mem hx
  have hu := hv.good.uniq k x hk
  exact ⟨by show 0 ≤ idx w.items (·.name == x.name); omega, by show w.items[(idx w.items (·.name == x.name)).toNat]? = _; rw [hu, Int.toNat_natCast]; exact hk, hok.lo, hok.mode, hok.day, hok.days⟩
set_option maxRecDepth 20000 in
theorem asks_ref (w : SWork) (hw : Sane w) (hv : Well w) (s : List SSlot) (q : List (SItem × SPl)) (hl : q.length ≤ 1000) (hq : ∀ e ∈ q, e.1 ∈ w.items ∧ PlOk e.1 e.2) (hby : Ret Tryz.prog .shared 54 [.agg (eWork w), .sl (s.map eSlot)] (.sl ((qS q).map eSlot))) :
    Ret Tryz.prog .shared 22 [.agg (eWork w), .sl (s.map eSlot)] (.sl ((q.flatMap askQ).map eAsk)) := by
  have hql : ((qS q).map eSlot).length = q.length := by rw [List.length_map, qS, List.length_map]
  refine Ret.of_pwp layOk mixed Go.Proofs.Tryz.func22 rfl (by decide) rfl rfl ?_
  ((repeat (first | refine ps_nil ?_ | refine pq_nil ?_ | refine x_norm ?_ | refine pw_seq ?_)); refine pw_region ?_)
  refine ps_run (o_box rfl rfl rfl (by repeat' constructor) rfl ?_)
  refine ps_v rfl trivial ?_
  ((repeat (first | refine ps_nil ?_ | refine pq_nil ?_ | refine x_norm ?_ | refine pw_seq ?_)); refine pw_region ?_)
  repeat (refine stp rfl ?_ ?_;·repeat' constructor)
  apply qst;exact rfl;exact rfl;exact q_call rfl (hby) rfl (by repeat' constructor) rfl
  (repeat ((fail_if_success (with_reducible refine pw_at 2 ?_)); (refine stp rfl ?_ ?_;·repeat' (first|exact True.intro|exact rfl|refine And.intro ?_ ?_))))
  ((repeat (first | refine ps_nil ?_ | refine pq_nil ?_ | refine x_norm ?_ | refine pw_seq ?_)); refine pw_region ?_)
  (first | refine ps_run (o_nilm 53 5 0 rfl rfl ?_) | refine ps_run (o_nila 53 5 0 rfl rfl ?_))
  repeat (refine stp rfl ?_ ?_;·repeat' constructor)
  refine pw_loop (fun k => k ≤ q.length) (fun k => [(2, .ptr 2 1 0 0), (5, .sl ((qS q).map eSlot)), (6, .als 6 (1 + ((q.take k).flatMap askQ).length) 0 (((q.take k).flatMap askQ).map eAsk).length), (7, I k)])
    (fun k => [(2, 1, ⟨28, 9, [eWork w], 2⟩), (6, 1 + ((q.take k).flatMap askQ).length, ⟨53, 5, ((q.take k).flatMap askQ).map eAsk, 0⟩)]) (fun k => q.length - k) 0 (Nat.zero_le _) ⟨rfl, rfl, rfl, rfl, rfl, rfl, trivial⟩ ?_
  intro k st hk
  repeat (refine stp rfl ?_ ?_;·repeat' constructor)
  refine pw_cond rfl (fun h => ?_) (fun h => ?_)
  · have hlt : k < q.length := by have := of_decide_eq_true h; rw [hql] at this; omega
    clear h
    obtain ⟨⟨x, p⟩, he⟩ := get_lt hlt
    obtain ⟨hx, hok⟩ := hq _ (List.mem_of_getElem? he)
    have hsl := slotAt_q hv hx hok
    have hqs := qS_at he
    have hfl := flatMap_len (f := askQ) askQ_len (q.take k)
    have htl : (q.take k).length ≤ 1000 := by rw [List.length_take]; omega
    have hsn := fm_snoc (f := askQ) he
    have hen : endP x p = p.day + (modeAt x p.mode).days := rfl
    generalize (q.take k).flatMap askQ = acc at *
    repeat (refine stp rfl ?_ ?_;·repeat' constructor)
    refine pw_draw3 [8] [6, 7] (by decide +kernel) ?_
    repeat (refine stp rfl ?_ ?_;·repeat' constructor)
    apply qst;exact rfl;exact rfl;exact q_idxm rfl rfl rfl rfl rfl (by omega) hqs rfl
    repeat (refine stp rfl ?_ ?_;·repeat' constructor)
    apply qst;exact rfl;exact rfl;exact q_call rfl (item_ref w hw ⟨x.name, p.mode, p.day⟩ hsl) rfl (by repeat' constructor) rfl
    repeat (refine stp rfl ?_ ?_;·repeat' constructor)
    refine pw_cond rfl (fun h => ?_) (fun h => ?_)
    · have hk0 : 0 ≤ x.kind := of_decide_eq_true h
      clear h
      rw [askQ, if_pos hk0] at hsn
      refine pw_draw2 20 0 [27, 28, 29, 30, 31, 32, 33, 34, 35, 36, 37, 38, 39, 40, 41, 42, 43, 44, 45, 46] [0] (by decide +kernel) rfl ?_
      repeat (refine stp rfl ?_ ?_;·repeat' constructor)
      apply qst;exact rfl;exact rfl;exact q_idxm rfl rfl rfl rfl rfl (by omega) hqs rfl
      repeat (refine stp rfl ?_ ?_;·repeat' constructor)
      apply qst;exact rfl;exact rfl;exact q_idxm rfl rfl rfl rfl rfl (by omega) hqs rfl
      repeat (refine stp rfl ?_ ?_;·repeat' constructor)
      apply qst;exact rfl;exact rfl;exact q_callP rfl (end_ref w hw ⟨x.name, p.mode, p.day⟩ hsl) rfl (by repeat' constructor) rfl rfl
      repeat (refine stp rfl ?_ ?_;·repeat' constructor)
      apply qst;exact rfl;exact rfl;exact q_slit rfl rfl rfl rfl rfl rfl rfl rfl rfl rfl (by repeat' constructor) rfl
      repeat (refine stp rfl ?_ ?_;·repeat' constructor)
      refine ps_run (o_app 0 rfl rfl rfl rfl rfl rfl rfl rfl rfl rfl rfl (by repeat' constructor) (by intro row hr; first | (simp at hr; subst hr; rfl) | simp at hr) rfl rfl (by simp; omega) (by simp; omega) ?_)
      repeat (refine stp rfl ?_ ?_;·repeat' constructor)
      refine ⟨k + 1, by omega, by omega, rfl, rfl, ?_, ?_, rfl, ?_, trivial⟩
      · rw [hsn]; exact als_snoc eAsk 6 1 acc ⟨x.name, x.space, x.kind, p.day, endP x p⟩
      · exact i64_next (by omega) (by omega)
      · rw [hsn]; exact cont_snoc eAsk 1 53 5 0 acc ⟨x.name, x.space, x.kind, p.day, endP x p⟩
    · have hk0 : ¬ 0 ≤ x.kind := of_decide_eq_false h
      clear h
      rw [askQ, if_neg hk0, List.append_nil] at hsn
      repeat (refine stp rfl ?_ ?_;·repeat' constructor)
      refine ⟨k + 1, by omega, by omega, rfl, rfl, ?_, ?_, rfl, ?_, trivial⟩
      · rw [hsn]; rfl
      · exact i64_next (by omega) (by omega)
      · rw [hsn]; rfl
  · have hge : k = q.length := by have := of_decide_eq_false h; rw [hql] at this; omega
    subst hge
    clear h
    rw [List.take_length]
    repeat (refine stp rfl ?_ ?_;·repeat' constructor)
    exact end1 rfl rfl rfl ⟨rfl, rfl, rfl⟩ rfl
def linesQ (q : List (SItem × SPl)) (k : Nat) : Str := (q.take k).flatMap lineQ
theorem itoa_nn {n : Int} (h : 0 ≤ n) : Lib.itoa n = Lib.decDigits n.toNat := by rw [Lib.itoa, if_neg (by omega)]
theorem dec_at {n : Int} (h0 : 0 ≤ n) (h1 : n ≤ 1000000) : Ret Tryz.prog .shared 55 [I n] (.str (Lib.itoa n)) := by
  have := decimal_ref n.toNat (by omega)
  rwa [itoa_nn h0, show n = ((n.toNat : Nat) : Int) by omega, Int.toNat_natCast]
set_option maxRecDepth 20000 in
theorem print_ref (w : SWork) (hw : Sane w) (hv : Well w) (hnm : ∀ x ∈ w.items, x.name.length ≤ 40) (s : List SSlot) (q : List (SItem × SPl)) (hl : q.length ≤ 1000) (hq : ∀ e ∈ q, e.1 ∈ w.items ∧ PlOk e.1 e.2) (hby : Ret Tryz.prog .shared 54 [.agg (eWork w), .sl (s.map eSlot)] (.sl ((qS q).map eSlot))) :
    Ret Tryz.prog .shared 20 [.agg (eWork w), .sl (s.map eSlot)] (.str (linesQ q q.length)) := by
  have hql : ((qS q).map eSlot).length = q.length := by rw [List.length_map, qS, List.length_map]
  refine Ret.of_pwp layOk mixed Go.Proofs.Tryz.func20 rfl (by decide) rfl rfl ?_
  ((repeat (first | refine ps_nil ?_ | refine pq_nil ?_ | refine x_norm ?_ | refine pw_seq ?_)); refine pw_region ?_)
  refine ps_run (o_box rfl rfl rfl (by repeat' constructor) rfl ?_)
  refine ps_v rfl trivial ?_
  ((repeat (first | refine ps_nil ?_ | refine pq_nil ?_ | refine x_norm ?_ | refine pw_seq ?_)); refine pw_region ?_)
  repeat (refine stp rfl ?_ ?_;·repeat' constructor)
  apply qst;exact rfl;exact rfl;exact q_call rfl (hby) rfl (by repeat' constructor) rfl
  repeat (refine stp rfl ?_ ?_;·repeat' constructor)
  refine pw_loop (fun k => k ≤ q.length ∧ (linesQ q k).length ≤ k * 7000) (fun k => [(2, .ptr 2 1 0 0), (5, .sl ((qS q).map eSlot)), (6, .str (linesQ q k)), (7, I k)])
    (fun k => [(2, 1, ⟨28, 9, [eWork w], 2⟩)]) (fun k => q.length - k) 0 ⟨Nat.zero_le _, by simp [linesQ]⟩ ⟨rfl, rfl, rfl, rfl, rfl, trivial⟩ ?_
  rintro k st ⟨hk, hpl⟩
  repeat (refine stp rfl ?_ ?_;·repeat' constructor)
  refine pw_cond rfl (fun h => ?_) (fun h => ?_)
  · have hlt : k < q.length := by have := of_decide_eq_true h; rw [hql] at this; omega
    clear h
    obtain ⟨⟨x, p⟩, he⟩ := get_lt hlt
    obtain ⟨hx, hpo⟩ := hq _ (List.mem_of_getElem? he)
    dsimp only at hx hpo
    have hsl := slotAt_q hv hx hpo
    have hqs := qS_at he
    have hmo := hpo.mode
    have q1 := hpo.day
    have q2 := hpo.days
    have q3 := hpo.crew
    have hsn : linesQ q (k + 1) = linesQ q k ++ lineQ (x, p) := fm_snoc he
    have hep : endP x p = p.day + (modeAt x p.mode).days := rfl
    have hn1 := hnm x hx
    have c1 := dec_at (n := p.day) (by omega) (by omega)
    have c2 := dec_at (n := endP x p - 1) (by omega) (by omega)
    have c3 := dec_at (n := (modeAt x p.mode).crew) (by omega) (by omega)
    have l1 := itoa_le (n := p.day) (by omega) (by omega)
    have l2 := itoa_le (n := endP x p - 1) (by omega) (by omega)
    have l3 := itoa_le (n := (modeAt x p.mode).crew) (by omega) (by omega)
    have hw1 : IntKind.i64.wrap (endP x p - 1) = endP x p - 1 := wrap_i64 (by omega) (by omega)
    have c4 := end_ref w hw ⟨x.name, p.mode, p.day⟩ hsl
    rw [show (⟨x.name, p.mode, p.day⟩ : SSlot).day + (modeAt x p.mode).days = endP x p from rfl] at c4
    have hlq : (lineQ (x, p)).length ≤ 7000 := by
      simp only [lineQ, List.length_append, List.length_cons, List.length_nil]; omega
    have hlq2 : lineQ (x, p) = x.name ++ [32] ++ Lib.itoa p.day ++ [45] ++ Lib.itoa (endP x p - 1) ++ [32] ++ Lib.itoa (modeAt x p.mode).crew ++ [10] := rfl
    generalize lineQ (x, p) = line at *
    generalize linesQ q k = acc at *
    generalize Lib.itoa p.day = i1 at *
    generalize Lib.itoa (endP x p - 1) = i2 at *
    generalize Lib.itoa (modeAt x p.mode).crew = i3 at *
    generalize endP x p = ep at *
    repeat (refine stp rfl ?_ ?_;·repeat' (first|exact True.intro|exact rfl|refine And.intro ?_ ?_))
    refine pw_draw 36 [17, 18, 19, 20, 21, 22, 23, 24, 25, 26, 27, 28, 29, 30, 31, 32, 33, 34, 35, 36, 37, 38, 39, 40, 41, 42, 43, 44, 45, 46, 47, 48, 49, 50, 51, 52] (by decide +kernel) ?_
    repeat (refine stp rfl ?_ ?_;·repeat' (first|exact True.intro|exact rfl|refine And.intro ?_ ?_))
    apply qst;exact rfl;exact rfl;exact q_idxm rfl rfl rfl rfl rfl (by omega) hqs rfl
    repeat (refine stp rfl ?_ ?_;·repeat' (first|exact True.intro|exact rfl|refine And.intro ?_ ?_))
    apply qst;exact rfl;exact rfl;exact QOp.v rfl (by simp only [List.length_append, List.length_cons, List.length_nil]; omega)
    apply qst;exact rfl;exact rfl;exact QOp.v rfl (by simp only [List.length_append, List.length_cons, List.length_nil]; omega)
    repeat (refine stp rfl ?_ ?_;·repeat' (first|exact True.intro|exact rfl|refine And.intro ?_ ?_))
    apply qst;exact rfl;exact rfl;exact q_idxm rfl rfl rfl rfl rfl (by omega) hqs rfl
    repeat (refine stp rfl ?_ ?_;·repeat' (first|exact True.intro|exact rfl|refine And.intro ?_ ?_))
    apply qst;exact rfl;exact rfl;exact q_callP rfl (c1) rfl (by repeat' constructor) rfl rfl
    apply qst;exact rfl;exact rfl;exact QOp.v rfl (by simp only [List.length_append, List.length_cons, List.length_nil]; omega)
    apply qst;exact rfl;exact rfl;exact QOp.v rfl (by simp only [List.length_append, List.length_cons, List.length_nil]; omega)
    repeat (refine stp rfl ?_ ?_;·repeat' (first|exact True.intro|exact rfl|refine And.intro ?_ ?_))
    apply qst;exact rfl;exact rfl;exact q_idxm rfl rfl rfl rfl rfl (by omega) hqs rfl
    repeat (refine stp rfl ?_ ?_;·repeat' (first|exact True.intro|exact rfl|refine And.intro ?_ ?_))
    apply qst;exact rfl;exact rfl;exact q_callP rfl (c4) rfl (by repeat' constructor) rfl rfl
    repeat (refine stp rfl ?_ ?_;·repeat' (first|exact True.intro|exact rfl|refine And.intro ?_ ?_))
    rw [hw1]
    apply qst;exact rfl;exact rfl;exact q_callP rfl (c2) rfl (by repeat' constructor) rfl rfl
    apply qst;exact rfl;exact rfl;exact QOp.v rfl (by simp only [List.length_append, List.length_cons, List.length_nil]; omega)
    apply qst;exact rfl;exact rfl;exact QOp.v rfl (by simp only [List.length_append, List.length_cons, List.length_nil]; omega)
    repeat (refine stp rfl ?_ ?_;·repeat' (first|exact True.intro|exact rfl|refine And.intro ?_ ?_))
    apply qst;exact rfl;exact rfl;exact q_idxm rfl rfl rfl rfl rfl (by omega) hqs rfl
    repeat (refine stp rfl ?_ ?_;·repeat' (first|exact True.intro|exact rfl|refine And.intro ?_ ?_))
    apply qst;exact rfl;exact rfl;exact q_call rfl (mode_ref w hw ⟨x.name, p.mode, p.day⟩ hsl) rfl (by repeat' constructor) rfl
    repeat (refine stp rfl ?_ ?_;·repeat' (first|exact True.intro|exact rfl|refine And.intro ?_ ?_))
    apply qst;exact rfl;exact rfl;exact q_callP rfl (c3) rfl (by repeat' constructor) rfl rfl
    apply qst;exact rfl;exact rfl;exact QOp.v rfl (by simp only [List.length_append, List.length_cons, List.length_nil]; omega)
    apply qst;exact rfl;exact rfl;exact QOp.v rfl (by simp only [List.length_append, List.length_cons, List.length_nil]; omega)
    repeat (refine stp rfl ?_ ?_;·repeat' constructor)
    refine ⟨k + 1, ⟨by omega, by rw [hsn, List.length_append]; omega⟩, by omega, rfl, rfl, ?_, i64_next (by omega) (by omega), rfl, trivial⟩
    rw [hsn, hlq2]
    simp only [List.append_assoc]
    rfl
  · have hge : k = q.length := by have := of_decide_eq_false h; rw [hql] at this; omega
    subst hge
    clear h
    generalize linesQ q q.length = acc at *
    repeat (refine stp rfl ?_ ?_;·repeat' constructor)
    exact end1 rfl rfl rfl trivial rfl
end Go.Pv


set_option maxHeartbeats 2000000
namespace Go.Pv
attribute [local irreducible] PWP POps PQuiet PSem XThen XBlock RetPost InlPost
open Go.Proofs
def longS (s : Str) : Bool := decide (40 < s.length)
def badT (t : STrade) : Bool := longS t.name
def badS (x : SSpace) : Bool := longS x.name || decide (20 < x.next.length) || x.next.any longS
def badI (x : SItem) : Bool := longS x.name || longS x.trade || longS x.space || decide (6 < x.modes.length) || decide (12 < x.after.length) || x.after.any longS
def badW (w : SWork) (most : Int) : Bool := decide (8 < w.trades.length) || decide (14 < w.spaces.length) || decide (32 < w.excls.length) || decide (22 < w.outs.length) || (decide (most < w.items.length) && decide (w.items.length ≤ 40)) || decide (45 < w.items.length)
def plainB (w : SWork) (most : Int) : Bool := !(badW w most || w.trades.any badT || w.spaces.any badS || w.items.any badI)
theorem plain_ret (w : SWork) (most : Int) : Ret Tryz.prog .shared 16 [.agg (eWork w), I most] (.bool (plainB w most)) := by
  have e1 : (w.trades.map eTrade).length = w.trades.length := by simp
  have e2 : (w.spaces.map eSpace).length = w.spaces.length := by simp
  have e3 : (w.excls.map eExcl).length = w.excls.length := by simp
  have e4 : (w.outs.map eOut).length = w.outs.length := by simp
  have e5 : (w.items.map eItem).length = w.items.length := by simp
  refine Ret.of_pwp layOk mixed Go.Proofs.Tryz.func16 rfl (by decide) rfl rfl ?_
  repeat (refine stp rfl ?_ ?_;·repeat' constructor)
  refine ps_cut 100 [(2, .ptr 2 1 0 0), (49, .bool (badW w most))] [(2, 1, ⟨28, 9, [eWork w], 2⟩)] ?_ ?_
  · repeat' (first|(refine stp rfl ?_ ?_;·repeat' constructor)|refine ps_split rfl rfl (fun h => ?_) (fun h => ?_)|refine pq_split rfl rfl (fun h => ?_) (fun h => ?_)|refine p3_split rfl rfl (fun h => ?_) (fun h => ?_))
    all_goals
      refine ⟨rfl, congrArg PV.bool ?_, rfl, trivial⟩
      simp only [e1, e2, e3, e4, e5] at *
      rw [Bool.eq_iff_iff]
      simp only [badW, Bool.or_eq_true, Bool.and_eq_true, decide_eq_true_eq, decide_eq_false_iff_not, true_iff, iff_true, Bool.false_eq_true, false_iff] at *
      omega
  intro s
  repeat (refine stp rfl ?_ ?_;·repeat' constructor)
  refine pw_cond rfl (fun h => ?_) (fun h => ?_)
  · have hb : badW w most = true := h
    repeat (refine stp rfl ?_ ?_;·repeat' constructor)
    exact end1b rfl rfl (by rw [plainB, hb]; rfl)
  have hb : badW w most = false := h
  have hsm : w.trades.length ≤ 8 ∧ w.spaces.length ≤ 14 ∧ w.items.length ≤ 45 := by
    simp only [badW, Bool.or_eq_false_iff, decide_eq_false_iff_not] at hb
    omega
  clear h
  repeat (refine stp rfl ?_ ?_;·repeat' constructor)
  refine pw_loop (Clear w.trades badT) (fun k => [(2, .ptr 2 1 0 0), (5, I k)]) (fun _ => [(2, 1, ⟨28, 9, [eWork w], 2⟩)]) (fun k => w.trades.length - k) 0 .zero ⟨rfl, rfl, rfl, trivial⟩ ?_
  intro k s hk
  repeat (refine stp rfl ?_ ?_;·repeat' constructor)
  refine pw_cond rfl (fun h => ?_) (fun h => ?_)
  · have hlt : k < w.trades.length := by simpa using h
    obtain ⟨t, ht⟩ := get_lt hlt
    clear h
    repeat (refine stp rfl ?_ ?_;·repeat' constructor)
    apply qst;exact rfl;exact rfl;exact q_idxm rfl rfl rfl rfl rfl (by omega) ht rfl
    repeat (refine stp rfl ?_ ?_;·repeat' constructor)
    refine pw_cond rfl (fun h => ?_) (fun h => ?_)
    · have hbad : badT t = true := by have := of_decide_eq_true h; simp [badT, longS]; omega
      repeat (refine stp rfl ?_ ?_;·repeat' constructor)
      exact end1b rfl rfl (by rw [plainB, any_of ht hbad]; simp)
    · have hok : badT t = false := by have := of_decide_eq_false h; simp [badT, longS]; omega
      repeat (refine stp rfl ?_ ?_;·repeat' constructor)
      refine ⟨k + 1, hk.succ ht hok, by omega, rfl, ?_, rfl, trivial⟩
      exact i64_next (by omega) (by omega)
  have ht := hk.any (by simpa using h)
  clear h hk
  repeat (refine stp rfl ?_ ?_;·repeat' constructor)
  refine pw_loop (Clear w.spaces badS) (fun k => [(2, .ptr 2 1 0 0), (6, I k)]) (fun _ => [(2, 1, ⟨28, 9, [eWork w], 2⟩)]) (fun k => w.spaces.length - k) 0 .zero ⟨rfl, rfl, rfl, trivial⟩ ?_
  intro k s hk
  repeat (refine stp rfl ?_ ?_;·repeat' constructor)
  refine pw_cond rfl (fun h => ?_) (fun h => ?_)
  · have hlt : k < w.spaces.length := by simpa using h
    obtain ⟨x, hx⟩ := get_lt hlt
    clear h
    have yes : badS x = true → PV.bool false = .bool (plainB w most) := fun h => by rw [plainB, any_of hx h]; simp
    repeat (refine stp rfl ?_ ?_;·repeat' constructor)
    apply qst;exact rfl;exact rfl;exact q_idxm rfl rfl rfl rfl rfl (by omega) hx rfl
    repeat (refine stp rfl ?_ ?_;·repeat' constructor)
    (first | refine ps_split rfl rfl (fun h => ?_) (fun h => ?_) | refine pq_split rfl rfl (fun h => ?_) (fun h => ?_) | refine p3_split rfl rfl (fun h => ?_) (fun h => ?_))
    · have h1 : longS x.name = true := by have := of_decide_eq_true h; simp [longS]; omega
      repeat (refine stp rfl ?_ ?_;·repeat' constructor)
      exact end1b rfl rfl (yes (by rw [badS, h1]; rfl))
    have h1 : longS x.name = false := by have := of_decide_eq_false h; simp [longS]; omega
    clear h
    repeat (refine stp rfl ?_ ?_;·repeat' constructor)
    apply qst;exact rfl;exact rfl;exact q_idxm rfl rfl rfl rfl rfl (by omega) hx rfl
    repeat (refine stp rfl ?_ ?_;·repeat' constructor)
    (first | refine ps_split rfl rfl (fun h => ?_) (fun h => ?_) | refine pq_split rfl rfl (fun h => ?_) (fun h => ?_) | refine p3_split rfl rfl (fun h => ?_) (fun h => ?_))
    · have h2 : decide (20 < x.next.length) = true := by have := of_decide_eq_true h; rw [List.length_map] at this; simp; omega
      repeat (refine stp rfl ?_ ?_;·repeat' constructor)
      exact end1b rfl rfl (yes (by rw [badS, h1, h2]; rfl))
    have h2 : decide (20 < x.next.length) = false := by have := of_decide_eq_false h; rw [List.length_map] at this; simp; omega
    have hl2 := of_decide_eq_false h2
    clear h
    repeat (refine stp rfl ?_ ?_;·repeat' constructor)
    apply qst;exact rfl;exact rfl;exact q_idxm rfl rfl rfl rfl rfl (by omega) hx rfl
    repeat (refine stp rfl ?_ ?_;·repeat' constructor)
    apply qst;exact rfl;exact rfl;exact q_callP rfl (texts_ret x.next (by omega)) rfl (by repeat' constructor) rfl rfl
    repeat (refine stp rfl ?_ ?_;·repeat' constructor)
    refine pw_cond rfl (fun h => ?_) (fun h => ?_)
    · have h3 : x.next.any longS = true := by simpa [longS] using h
      repeat (refine stp rfl ?_ ?_;·repeat' constructor)
      exact end1b rfl rfl (yes (by rw [badS, h1, h2, h3]; rfl))
    · have h3 : x.next.any longS = false := by
        have : (!(!x.next.any fun s => decide (40 < s.length))) = false := h
        simpa [longS] using this
      repeat (refine stp rfl ?_ ?_;·repeat' constructor)
      refine ⟨k + 1, hk.succ hx (by rw [badS, h1, h2, h3]; rfl), by omega, rfl, ?_, rfl, trivial⟩
      exact i64_next (by omega) (by omega)
  have hs := hk.any (by simpa using h)
  clear h hk
  repeat (refine stp rfl ?_ ?_;·repeat' constructor)
  refine pw_loop (Clear w.items badI) (fun k => [(2, .ptr 2 1 0 0), (7, I k)]) (fun _ => [(2, 1, ⟨28, 9, [eWork w], 2⟩)]) (fun k => w.items.length - k) 0 .zero ⟨rfl, rfl, rfl, trivial⟩ ?_
  intro k s hk
  repeat (refine stp rfl ?_ ?_;·repeat' constructor)
  refine pw_cond rfl (fun h => ?_) (fun h => ?_)
  · have hlt : k < w.items.length := by simpa using h
    obtain ⟨x, hx⟩ := get_lt hlt
    clear h
    have yes : badI x = true → PV.bool false = .bool (plainB w most) := fun h => by rw [plainB, any_of hx h]; simp
    repeat (refine stp rfl ?_ ?_;·repeat' constructor)
    apply qst;exact rfl;exact rfl;exact q_idxm rfl rfl rfl rfl rfl (by omega) hx rfl
    repeat (refine stp rfl ?_ ?_;·repeat' constructor)
    (first | refine ps_split rfl rfl (fun h => ?_) (fun h => ?_) | refine pq_split rfl rfl (fun h => ?_) (fun h => ?_) | refine p3_split rfl rfl (fun h => ?_) (fun h => ?_))
    · have h1 : longS x.name = true := by have := of_decide_eq_true h; simp [longS]; omega
      repeat (refine stp rfl ?_ ?_;·repeat' constructor)
      exact end1b rfl rfl (yes (by rw [badI, h1]; rfl))
    have h1 : longS x.name = false := by have := of_decide_eq_false h; simp [longS]; omega
    clear h
    repeat (refine stp rfl ?_ ?_;·repeat' constructor)
    (first | refine ps_split rfl rfl (fun h => ?_) (fun h => ?_) | refine pq_split rfl rfl (fun h => ?_) (fun h => ?_) | refine p3_split rfl rfl (fun h => ?_) (fun h => ?_))
    · have h2 : longS x.trade = true := by have := of_decide_eq_true h; simp [longS]; omega
      repeat (refine stp rfl ?_ ?_;·repeat' constructor)
      exact end1b rfl rfl (yes (by rw [badI, h1, h2]; rfl))
    have h2 : longS x.trade = false := by have := of_decide_eq_false h; simp [longS]; omega
    clear h
    repeat (refine stp rfl ?_ ?_;·repeat' constructor)
    (first | refine ps_split rfl rfl (fun h => ?_) (fun h => ?_) | refine pq_split rfl rfl (fun h => ?_) (fun h => ?_) | refine p3_split rfl rfl (fun h => ?_) (fun h => ?_))
    · have h3 : longS x.space = true := by have := of_decide_eq_true h; simp [longS]; omega
      repeat (refine stp rfl ?_ ?_;·repeat' constructor)
      exact end1b rfl rfl (yes (by rw [badI, h1, h2, h3]; rfl))
    have h3 : longS x.space = false := by have := of_decide_eq_false h; simp [longS]; omega
    clear h
    repeat (refine stp rfl ?_ ?_;·repeat' constructor)
    (first | refine ps_split rfl rfl (fun h => ?_) (fun h => ?_) | refine pq_split rfl rfl (fun h => ?_) (fun h => ?_) | refine p3_split rfl rfl (fun h => ?_) (fun h => ?_))
    · have h4 : decide (6 < x.modes.length) = true := by have := of_decide_eq_true h; rw [List.length_map] at this; simp; omega
      repeat (refine stp rfl ?_ ?_;·repeat' constructor)
      exact end1b rfl rfl (yes (by rw [badI, h1, h2, h3, h4]; rfl))
    have h4 : decide (6 < x.modes.length) = false := by have := of_decide_eq_false h; rw [List.length_map] at this; simp; omega
    clear h
    repeat (refine stp rfl ?_ ?_;·repeat' constructor)
    (first | refine ps_split rfl rfl (fun h => ?_) (fun h => ?_) | refine pq_split rfl rfl (fun h => ?_) (fun h => ?_) | refine p3_split rfl rfl (fun h => ?_) (fun h => ?_))
    · have h5 : decide (12 < x.after.length) = true := by have := of_decide_eq_true h; rw [List.length_map] at this; simp; omega
      repeat (refine stp rfl ?_ ?_;·repeat' constructor)
      exact end1b rfl rfl (yes (by rw [badI, h1, h2, h3, h4, h5]; rfl))
    have h5 : decide (12 < x.after.length) = false := by have := of_decide_eq_false h; rw [List.length_map] at this; simp; omega
    have hl5 := of_decide_eq_false h5
    clear h
    repeat (refine stp rfl ?_ ?_;·repeat' constructor)
    apply qst;exact rfl;exact rfl;exact q_callP rfl (texts_ret x.after (by omega)) rfl (by repeat' constructor) rfl rfl
    repeat (refine stp rfl ?_ ?_;·repeat' constructor)
    refine pw_cond rfl (fun h => ?_) (fun h => ?_)
    · have h6 : x.after.any longS = true := by simpa [longS] using h
      repeat (refine stp rfl ?_ ?_;·repeat' constructor)
      exact end1b rfl rfl (yes (by rw [badI, h1, h2, h3, h4, h5, h6]; rfl))
    · have h6 : x.after.any longS = false := by
        have : (!(!x.after.any fun s => decide (40 < s.length))) = false := h
        simpa [longS] using this
      repeat (refine stp rfl ?_ ?_;·repeat' constructor)
      refine ⟨k + 1, hk.succ hx (by rw [badI, h1, h2, h3, h4, h5, h6]; rfl), by omega, rfl, ?_, rfl, trivial⟩
      exact i64_next (by omega) (by omega)
  have hi := hk.any (by simpa using h)
  repeat (refine stp rfl ?_ ?_;·repeat' constructor)
  exact end1b rfl rfl (by rw [plainB, hb, ht, hs, hi]; rfl)
theorem sane_of {w : SWork} {most : Int} (h : plainB w most = true) : Sane w := by
  simp only [plainB, Bool.not_eq_true', Bool.or_eq_false_iff] at h
  obtain ⟨⟨⟨hb, ht⟩, hs⟩, hi⟩ := h
  simp only [badW, Bool.or_eq_false_iff, decide_eq_false_iff_not] at hb
  rw [List.any_eq_false] at hs hi
  refine ⟨by omega, by omega, by omega, by omega, by omega, fun x hx => ?_, fun x hx => ?_⟩
  · have := hs x hx
    simp only [badS, Bool.or_eq_true, decide_eq_true_eq, not_or] at this
    omega
  · have := hi x hx
    simp only [badI, Bool.or_eq_true, decide_eq_true_eq, not_or] at this
    omega
end Go.Pv


set_option maxHeartbeats 2000000
namespace Go.Pv
attribute [local irreducible] PWP POps PQuiet PSem XThen XBlock RetPost InlPost
open Go.Proofs
end Go.Pv


set_option maxHeartbeats 2000000
namespace Go.Pv
attribute [local irreducible] PWP POps PQuiet PSem XThen XBlock RetPost InlPost
open Go.Proofs
theorem index_names (w : SWork) (hw : Sane w) (a : Str) : Ret Tryz.prog .shared 62 [.sl ((w.items.map (·.name)).map eS), .str a] (I (idx w.items (·.name == a))) := by
  have h := index_ret (w.items.map (·.name)) a (by have := hw.items; simp; omega)
  rw [idx_map] at h
  exact h
theorem excl1R_ret (w : SWork) (hw : Sane w) (hz : workE w = 0) (a b : Str) (ha : ¬ idx w.items (·.name == a) < 0) (hb : ¬ idx w.items (·.name == b) < 0) {x y : SItem}
    (hx : w.items[(idx w.items (·.name == a)).toNat]? = some x) (hy : w.items[(idx w.items (·.name == b)).toNat]? = some y) : Ret Tryz.prog .shared 23 [.agg (eWork w), .str a, .str b] (.tup [.bool (exclP w x y), I 0]) := by
  have h20 := checkWork_ret w hw
  rw [hz] at h20
  have hi := hw.items
  refine Ret.of_pwp layOk mixed Go.Proofs.Tryz.func23 rfl (by decide) rfl rfl ?_
  repeat (refine stp rfl ?_ ?_;·repeat' constructor)
  apply qst;exact rfl;exact rfl;exact q_callP rfl (h20) rfl (by repeat' constructor) rfl rfl
  repeat (refine stp rfl ?_ ?_;·repeat' constructor)
  apply qst;exact rfl;exact rfl;exact q_call rfl (itemNames_ret w (by omega)) rfl (by repeat' constructor) rfl
  repeat (refine stp rfl ?_ ?_;·repeat' constructor)
  apply qst;exact rfl;exact rfl;exact q_callP rfl (index_names w hw a) rfl (by repeat' constructor) rfl rfl
  repeat (refine stp rfl ?_ ?_;·repeat' constructor)
  apply qst;exact rfl;exact rfl;exact q_callP rfl (index_names w hw b) rfl (by repeat' constructor) rfl rfl
  repeat (refine stp rfl ?_ ?_;·repeat' constructor)
  (first | refine ps_split rfl rfl (fun h => ?_) (fun h => ?_) | refine pq_split rfl rfl (fun h => ?_) (fun h => ?_) | refine p3_split rfl rfl (fun h => ?_) (fun h => ?_))
  · exact absurd (of_decide_eq_true h) ha
  clear h
  repeat (refine stp rfl ?_ ?_;·repeat' constructor)
  refine pw_cond rfl (fun h => ?_) (fun h => ?_)
  · exact absurd (of_decide_eq_true h) hb
  clear h
  repeat (refine stp rfl ?_ ?_;·repeat' constructor)
  refine pw_draw 14 [31, 32, 33, 34, 35, 36, 37, 38, 39, 40, 41, 42, 6, 7] (by decide +kernel) ?_
  repeat (refine stp rfl ?_ ?_;·repeat' constructor)
  apply qst;exact rfl;exact rfl;exact q_idxm rfl rfl rfl rfl rfl (by omega) hx rfl
  repeat (refine stp rfl ?_ ?_;·repeat' constructor)
  apply qst;exact rfl;exact rfl;exact q_idxm rfl rfl rfl rfl rfl (by omega) hy rfl
  repeat (refine stp rfl ?_ ?_;·repeat' constructor)
  apply qst;exact rfl;exact rfl;exact q_callP rfl (excludes_ret w hw x y) rfl (by repeat' constructor) rfl rfl
  repeat (refine stp rfl ?_ ?_;·repeat' constructor)
  exact end2 rfl rfl rfl rfl rfl trivial trivial rfl
end Go.Pv


set_option maxHeartbeats 2000000
namespace Go.Pv
attribute [local irreducible] PWP POps PQuiet PSem XThen XBlock RetPost InlPost
open Go.Proofs
theorem prs_en {w : SWork} {l : List SPl} (hl : l.length = w.items.length) : prs w l = (en l).map fun e => (itP w e.1, e.2) := by
  apply List.ext_getElem?
  intro k
  rw [List.getElem?_map]
  by_cases hk : k < l.length
  · obtain ⟨p, hp⟩ := get_lt hk
    obtain ⟨x, hx⟩ := get_lt (show k < w.items.length by omega)
    rw [en_at hp, prs_at hx hp]
    show some (x, p) = some (itP w k, p)
    rw [itP_at hx]
  · rw [List.getElem?_eq_none (by rw [prs, List.length_zip]; omega), List.getElem?_eq_none (by rw [en_len]; omega)]
    rfl
theorem dayI_P {w : SWork} {l : List SPl} (hl : l.length = w.items.length) : dayP (prs w l) = (dayI l).map fun e => (itP w e.1, e.2) := by
  rw [prs_en hl, dayP, sortR_map]; rfl
theorem asksI_eq {w : SWork} {l : List SPl} (hl : l.length = w.items.length) : asksI w l = (dayP (prs w l)).flatMap askQ := by
  rw [dayI_P hl, List.flatMap_map]; rfl
theorem printI_eq {w : SWork} {l : List SPl} (hl : l.length = w.items.length) : printI w l w.items.length = linesQ (dayP (prs w l)) (dayP (prs w l)).length := by
  have h1 : (dayP (prs w l)).length = w.items.length := by rw [dayP_len, prs, List.length_zip]; omega
  rw [linesQ, List.take_length, printI, List.take_of_length_le (by rw [dayI_len]; omega), dayI_P hl, List.flatMap_map]
theorem names40 {w : SWork} {most : Int} (h : plainB w most = true) : ∀ x ∈ w.items, x.name.length ≤ 40 := by
  simp only [plainB, Bool.not_eq_true', Bool.or_eq_false_iff] at h
  obtain ⟨_, hi⟩ := h
  rw [List.any_eq_false] at hi
  intro x hx
  have := hi x hx
  simp only [badI, longS, Bool.or_eq_true, decide_eq_true_eq, not_or] at this
  omega
theorem few12 {w : SWork} (h : plainB w 12 = true) : w.items.length ≤ 19 ∨ 40 < w.items.length := by
  simp only [plainB, Bool.not_eq_true', Bool.or_eq_false_iff] at h
  have hb := h.1.1.1
  simp only [badW, Bool.or_eq_false_iff, Bool.and_eq_false_iff, decide_eq_false_iff_not] at hb
  omega
theorem ask_mem {w : SWork} {l : List SPl} {a : SAsk} (h : a ∈ (dayP (prs w l)).flatMap askQ) : ∃ q ∈ prs w l, a = ⟨q.1.name, q.1.space, q.1.kind, q.2.day, endP q.1 q.2⟩ := by
  obtain ⟨q, hq, ha⟩ := List.mem_flatMap.1 h
  refine ⟨q, (sortR_perm _ _).mem_iff.1 hq, ?_⟩
  unfold askQ at ha
  split at ha
  · simpa using ha
  · cases ha
theorem askT : eqT Tryz.prog 53 [.str, .str, .int .i64, .int .i64, .int .i64] = true := by kernel_rfl
theorem excl_of {w : SWork} (hw : Sane w) (hv : Well w) (hz : workE w = 0) {x y : SItem} (hx : x ∈ w.items) (hy : y ∈ w.items) : Ret Tryz.prog .shared 23 [.agg (eWork w), .str x.name, .str y.name] (.tup [.bool (exclP w x y), I 0]) := by
  obtain ⟨i, hi⟩ := List.getElem?_of_mem hx
  obtain ⟨k, hk⟩ := List.getElem?_of_mem hy
  have h1 := hv.good.uniq i x hi
  have h2 := hv.good.uniq k y hk
  exact excl1R_ret w hw hz x.name y.name (by omega) (by omega) (by rw [h1, Int.toNat_natCast]; exact hi) (by rw [h2, Int.toNat_natCast]; exact hk)
set_option maxRecDepth 20000 in
theorem asks_law (aw : Ret Tryz.prog .shared 6 [] (.bool true)) (w : SWork) (s : List SSlot) : Ret Tryz.prog .shared 4 [.agg (eWork w), .sl (s.map eSlot)] (.bool true) := by
  have h11 := plain_ret w 12
  have h12 := few_ret s
  cases hp : plainB w 12 with
  | false =>
    rw [hp] at h11
    refine Ret.of_pwp layOk mixed Go.Proofs.Tryz.func4 rfl (by decide) rfl rfl ?_
    repeat (refine stp rfl ?_ ?_;·repeat' constructor)
    apply qst;exact rfl;exact rfl;exact q_callP rfl (aw) rfl (by repeat' constructor) rfl rfl
    repeat (refine stp rfl ?_ ?_;·repeat' constructor)
    apply qst;exact rfl;exact rfl;exact q_callP rfl (h11) rfl (by repeat' constructor) rfl rfl
    repeat (refine stp rfl ?_ ?_;·repeat' constructor)
    exact end1b rfl rfl rfl
  | true =>
    rw [hp] at h11
    have hw := sane_of hp
    have hnm := names40 hp
    have hn := few12 hp
    cases hfew : (decide (s.length ≤ 50) && !s.any fun s => decide (40 < s.item.length)) with
    | false =>
      rw [hfew] at h12
      refine Ret.of_pwp layOk mixed Go.Proofs.Tryz.func4 rfl (by decide) rfl rfl ?_
      repeat (refine stp rfl ?_ ?_;·repeat' constructor)
      apply qst;exact rfl;exact rfl;exact q_callP rfl (aw) rfl (by repeat' constructor) rfl rfl
      repeat (refine stp rfl ?_ ?_;·repeat' constructor)
      apply qst;exact rfl;exact rfl;exact q_callP rfl (h11) rfl (by repeat' constructor) rfl rfl
      repeat (refine stp rfl ?_ ?_;·repeat' constructor)
      apply qst;exact rfl;exact rfl;exact q_callP rfl (h12) rfl (by repeat' constructor) rfl rfl
      repeat (refine stp rfl ?_ ?_;·repeat' constructor)
      exact end1b rfl rfl rfl
    | true =>
      rw [hfew] at h12
      have hs : s.length ≤ 1000 := by
        simp only [Bool.and_eq_true, decide_eq_true_eq] at hfew
        omega
      have hA := asks_ret w hw hn s
      have hP := print_ret w hw hn hnm s
      have h15 := refCheckWork_ret w hw
      rw [printR] at hP
      by_cases h0 : slE w s = 0
      · obtain ⟨hv, hf⟩ := full_of h0
        have hz := (slE_parts h0).1
        have hpl := checkPlan_ref w hw s hs hz
        have h16 := checkSlots_ref w hw (modes_le hv) s
        rw [(slE_parts h0).2] at h16
        rw [hz] at h15
        rw [if_pos h0] at hP
        have hlen := hf.len
        have hsort := sorted_ref w (by have := hv.n40; omega) s hs
        rw [sorted_eq h0] at hsort
        replace hsort : Ret Tryz.prog .shared 87 [.agg (eWork w), .sl (s.map eSlot)] (.sl ((qS (prs w (placed w s))).map eSlot)) := hsort
        have hql : (prs w (placed w s)).length = w.items.length := by rw [prs, List.length_zip]; omega
        have hn40 := hv.n40
        have hby := byDay_ref w s (qS (prs w (placed w s))) (by rw [qS, List.length_map]; omega) hsort
        rw [day_qS] at hby
        have hmem : ∀ e ∈ dayP (prs w (placed w s)), e.1 ∈ w.items ∧ PlOk e.1 e.2 := by
          intro e he
          have he2 := (sortR_perm _ _).mem_iff.1 he
          obtain ⟨k, hk⟩ := List.getElem?_of_mem he2
          rw [prs, List.getElem?_zip_eq_some] at hk
          exact ⟨List.mem_of_getElem? hk.1, hf.at_ hk.1 hk.2⟩
        have hPr := print_ref w hw hv hnm s (dayP (prs w (placed w s))) (by rw [dayP_len]; omega) hmem hby
        have hAr := asks_ref w hw hv s (dayP (prs w (placed w s))) (by rw [dayP_len]; omega) hmem hby
        rw [printI_eq hlen] at hP
        rw [asksR, asksI_eq hlen] at hA
        by_cases hpz : planE w s = 0
        · have hcl : clashP w (placed w s) = [] := by
            have := (planE_zero hpz).2
            rw [breachP, partsP] at this
            simp only [List.flatten_cons, List.append_eq_nil_iff] at this
            exact this.2.2.1
          rw [if_pos hpz] at hA
          rw [hpz] at hpl
          have hLm : ∀ a ∈ (dayP (prs w (placed w s))).flatMap askQ, ∃ q ∈ prs w (placed w s), a = ⟨q.1.name, q.1.space, q.1.kind, q.2.day, endP q.1 q.2⟩ := fun a ha => ask_mem ha
          have hLl : ((dayP (prs w (placed w s))).flatMap askQ).length ≤ 1000 := by
            have := flatMap_len (f := askQ) askQ_len (dayP (prs w (placed w s)))
            rw [dayP_len] at this; omega
          have hprs : ∀ q ∈ prs w (placed w s), q.1 ∈ w.items := fun q hq => by
            obtain ⟨k, hk⟩ := List.getElem?_of_mem hq
            rw [prs, List.getElem?_zip_eq_some] at hk
            exact List.mem_of_getElem? hk.1
          have hap := fun q r hq hr => apart_ok (q := q) (r := r) hf hcl hq hr
          generalize (dayP (prs w (placed w s))).flatMap askQ = B at *
          generalize linesQ (dayP (prs w (placed w s))) (dayP (prs w (placed w s))).length = text at *
          have hB : (B.map eAsk).length = B.length := by simp
          refine Ret.of_pwp layOk mixed Go.Proofs.Tryz.func4 rfl (by decide) rfl rfl ?_
          repeat (refine stp rfl ?_ ?_;·repeat' constructor)
          apply qst;exact rfl;exact rfl;exact q_callP rfl (aw) rfl (by repeat' constructor) rfl rfl
          repeat (refine stp rfl ?_ ?_;·repeat' constructor)
          apply qst;exact rfl;exact rfl;exact q_callP rfl (h11) rfl (by repeat' constructor) rfl rfl
          repeat (refine stp rfl ?_ ?_;·repeat' constructor)
          apply qst;exact rfl;exact rfl;exact q_callP rfl (h12) rfl (by repeat' constructor) rfl rfl
          repeat (refine stp rfl ?_ ?_;·repeat' constructor)
          apply qst;exact rfl;exact rfl;exact q_call rfl (hA) rfl (by repeat' constructor) rfl
          repeat (refine stp rfl ?_ ?_;·repeat' constructor)
          apply qst;exact rfl;exact rfl;exact q_callP rfl (hP) rfl (by repeat' constructor) rfl rfl
          repeat (refine stp rfl ?_ ?_;·repeat' constructor)
          apply qst;exact rfl;exact rfl;exact q_callP rfl (h15) rfl (by repeat' constructor) rfl rfl
          repeat (refine stp rfl ?_ ?_;·repeat' constructor)
          apply qst;exact rfl;exact rfl;exact q_callP rfl (h16) rfl (by repeat' constructor) rfl rfl
          repeat (refine stp rfl ?_ ?_;·repeat' constructor)
          apply qst;exact rfl;exact rfl;exact q_callP rfl (hPr) rfl (by repeat' constructor) rfl rfl
          repeat (refine stp rfl ?_ ?_;·repeat' constructor)
          refine pw_cond rfl (fun h => ?_) (fun h => ?_)
          · simp at h
          clear h
          repeat (refine stp rfl ?_ ?_;·repeat' constructor)
          apply qst;exact rfl;exact rfl;exact q_callP rfl (hpl) rfl (by repeat' constructor) rfl rfl
          repeat (refine stp rfl ?_ ?_;·repeat' constructor)
          apply qst;exact rfl;exact rfl;exact q_call rfl (hAr) rfl (by repeat' constructor) rfl
          repeat (refine stp rfl ?_ ?_;·repeat' constructor)
          refine pw_cond rfl (fun h => ?_) (fun h => ?_)
          · simp at h
          clear h
          repeat (refine stp rfl ?_ ?_;·repeat' constructor)
          refine pw_loop (fun k => k ≤ B.length) (fun k => [(2, .ptr 2 1 0 0), (5, .sl (B.map eAsk)), (10, .sl (B.map eAsk)), (11, I k)]) (fun _ => [(2, 1, ⟨28, 9, [eWork w], 2⟩)]) (fun k => B.length - k) 0 (Nat.zero_le _) ⟨rfl, rfl, rfl, rfl, rfl, trivial⟩ ?_
          intro k s1 hk
          repeat (refine stp rfl ?_ ?_;·repeat' constructor)
          refine pw_cond rfl (fun h => ?_) (fun h => ?_)
          · have hlt : k < B.length := by have := of_decide_eq_true h; rw [hB] at this; omega
            clear h
            obtain ⟨b, hb⟩ := get_lt hlt
            repeat (refine stp rfl ?_ ?_;·repeat' constructor)
            refine pw_draw 9 [103, 104, 105, 106, 107, 108, 109, 110, 111] (by decide +kernel) ?_
            repeat (refine stp rfl ?_ ?_;·repeat' constructor)
            apply qst;exact rfl;exact rfl;exact q_idxm rfl rfl rfl rfl rfl (by omega) hb rfl
            repeat (refine stp rfl ?_ ?_;·repeat' constructor)
            apply qst;exact rfl;exact rfl;exact q_idxm rfl rfl rfl rfl rfl (by omega) hb rfl
            repeat (refine stp rfl ?_ ?_;·repeat' constructor)
            apply qst;exact rfl;exact rfl;exact q_seqN askT rfl rfl rfl
            repeat (refine stp rfl ?_ ?_;·repeat' constructor)
            refine pw_cond rfl (fun h => ?_) (fun h => ?_)
            · simp at h
            clear h
            repeat (refine stp rfl ?_ ?_;·repeat' constructor)
            refine pw_loop (fun j => j ≤ k) (fun j => [(2, .ptr 2 1 0 0), (5, .sl (B.map eAsk)), (10, .sl (B.map eAsk)), (11, I k), (12, I j)]) (fun _ => [(2, 1, ⟨28, 9, [eWork w], 2⟩)]) (fun j => k - j) 0 (Nat.zero_le _) ⟨rfl, rfl, rfl, rfl, rfl, rfl, trivial⟩ ?_
            intro j s2 hj
            repeat (refine stp rfl ?_ ?_;·repeat' constructor)
            refine pw_cond rfl (fun h => ?_) (fun h => ?_)
            · have hlt2 : j < k := by have := of_decide_eq_true h; omega
              clear h
              obtain ⟨c, hc⟩ := get_lt (show j < B.length by omega)
              obtain ⟨q, hq1, rfl⟩ := hLm _ (List.mem_of_getElem? hb)
              obtain ⟨r, hr1, rfl⟩ := hLm _ (List.mem_of_getElem? hc)
              have hex := excl_of hw hv hz (hprs q hq1) (hprs r hr1)
              have hok := hap q r hq1 hr1
              generalize exclP w q.1 r.1 = v at *
              generalize endP q.1 q.2 = e1 at *
              generalize endP r.1 r.2 = e2 at *
              repeat (refine stp rfl ?_ ?_;·repeat' constructor)
              refine pw_draw 17 [118, 119, 120, 121, 122, 123, 124, 125, 126, 127, 128, 129, 117, 130, 131, 13, 14] (by decide +kernel) ?_
              repeat (refine stp rfl ?_ ?_;·repeat' constructor)
              apply qst;exact rfl;exact rfl;exact q_idxm rfl rfl rfl rfl rfl (by omega) hb rfl
              repeat (refine stp rfl ?_ ?_;·repeat' constructor)
              apply qst;exact rfl;exact rfl;exact q_idxm rfl rfl rfl rfl rfl (by omega) hc rfl
              repeat (refine stp rfl ?_ ?_;·repeat' constructor)
              apply qst;exact rfl;exact rfl;exact q_callP rfl (hex) rfl (by repeat' constructor) rfl rfl
              repeat (refine stp rfl ?_ ?_;·repeat' constructor)
              cases v with
              | false =>
                repeat (refine stp rfl ?_ ?_;·repeat' constructor)
                refine pw_draw 31 [132, 133, 134, 135, 136, 137, 138, 139, 140, 141, 142, 143, 144, 145, 146, 147, 148, 149, 150, 151, 152, 153, 154, 155, 156, 157, 158, 159, 160, 161, 162] (by decide +kernel) ?_
                repeat (refine stp rfl ?_ ?_;·repeat' constructor)
                exact ⟨j + 1, by omega, by omega, rfl, rfl, rfl, rfl, i64_next (by omega) (by omega), rfl, trivial⟩
              | true =>
                rw [Bool.true_and] at hok
                repeat (refine stp rfl ?_ ?_;·repeat' constructor)
                refine pw_draw 31 [132, 133, 134, 135, 136, 137, 138, 139, 140, 141, 142, 143, 144, 145, 146, 147, 148, 149, 150, 151, 152, 153, 154, 155, 156, 157, 158, 159, 160, 161, 162] (by decide +kernel) ?_
                repeat (refine stp rfl ?_ ?_;·repeat' constructor)
                apply qst;exact rfl;exact rfl;exact q_idxm rfl rfl rfl rfl rfl (by omega) hb rfl
                repeat (refine stp rfl ?_ ?_;·repeat' constructor)
                apply qst;exact rfl;exact rfl;exact q_idxm rfl rfl rfl rfl rfl (by omega) hc rfl
                repeat (refine stp rfl ?_ ?_;·repeat' constructor)
                (first | refine ps_split rfl rfl (fun h => ?_) (fun h => ?_) | refine pq_split rfl rfl (fun h => ?_) (fun h => ?_) | refine p3_split rfl rfl (fun h => ?_) (fun h => ?_))
                · rw [h, Bool.true_and] at hok
                  clear h
                  repeat (refine stp rfl ?_ ?_;·repeat' constructor)
                  apply qst;exact rfl;exact rfl;exact q_idxm rfl rfl rfl rfl rfl (by omega) hc rfl
                  repeat (refine stp rfl ?_ ?_;·repeat' constructor)
                  apply qst;exact rfl;exact rfl;exact q_idxm rfl rfl rfl rfl rfl (by omega) hb rfl
                  repeat (refine stp rfl ?_ ?_;·repeat' constructor)
                  refine pw_cond rfl (fun h => ?_) (fun h => ?_)
                  · rw [h] at hok; cases hok
                  clear h
                  repeat (refine stp rfl ?_ ?_;·repeat' constructor)
                  exact ⟨j + 1, by omega, by omega, rfl, rfl, rfl, rfl, i64_next (by omega) (by omega), rfl, trivial⟩
                · clear h
                  repeat (refine stp rfl ?_ ?_;·repeat' constructor)
                  exact ⟨j + 1, by omega, by omega, rfl, rfl, rfl, rfl, i64_next (by omega) (by omega), rfl, trivial⟩
            · clear h
              repeat (refine stp rfl ?_ ?_;·repeat' constructor)
              exact ⟨k + 1, by omega, by omega, rfl, rfl, rfl, i64_next (by omega) (by omega), rfl, trivial⟩
          · repeat (refine stp rfl ?_ ?_;·repeat' constructor)
            exact end1b rfl rfl rfl
        · rw [if_neg hpz] at hA
          generalize planE w s = pe at *
          generalize linesQ (dayP (prs w (placed w s))) (dayP (prs w (placed w s))).length = text at *
          refine Ret.of_pwp layOk mixed Go.Proofs.Tryz.func4 rfl (by decide) rfl rfl ?_
          repeat (refine stp rfl ?_ ?_;·repeat' constructor)
          apply qst;exact rfl;exact rfl;exact q_callP rfl (aw) rfl (by repeat' constructor) rfl rfl
          repeat (refine stp rfl ?_ ?_;·repeat' constructor)
          apply qst;exact rfl;exact rfl;exact q_callP rfl (h11) rfl (by repeat' constructor) rfl rfl
          repeat (refine stp rfl ?_ ?_;·repeat' constructor)
          apply qst;exact rfl;exact rfl;exact q_callP rfl (h12) rfl (by repeat' constructor) rfl rfl
          repeat (refine stp rfl ?_ ?_;·repeat' constructor)
          apply qst;exact rfl;exact rfl;exact q_call rfl (hA) rfl (by repeat' constructor) rfl
          repeat (refine stp rfl ?_ ?_;·repeat' constructor)
          apply qst;exact rfl;exact rfl;exact q_callP rfl (hP) rfl (by repeat' constructor) rfl rfl
          repeat (refine stp rfl ?_ ?_;·repeat' constructor)
          apply qst;exact rfl;exact rfl;exact q_callP rfl (h15) rfl (by repeat' constructor) rfl rfl
          repeat (refine stp rfl ?_ ?_;·repeat' constructor)
          apply qst;exact rfl;exact rfl;exact q_callP rfl (h16) rfl (by repeat' constructor) rfl rfl
          repeat (refine stp rfl ?_ ?_;·repeat' constructor)
          apply qst;exact rfl;exact rfl;exact q_callP rfl (hPr) rfl (by repeat' constructor) rfl rfl
          repeat (refine stp rfl ?_ ?_;·repeat' constructor)
          refine pw_cond rfl (fun h => ?_) (fun h => ?_)
          · simp at h
          clear h
          repeat (refine stp rfl ?_ ?_;·repeat' constructor)
          apply qst;exact rfl;exact rfl;exact q_callP rfl (hpl) rfl (by repeat' constructor) rfl rfl
          repeat (refine stp rfl ?_ ?_;·repeat' constructor)
          refine pw_cond rfl (fun h => ?_) (fun h => ?_)
          · repeat (refine stp rfl ?_ ?_;·repeat' constructor)
            (first | refine ps_split rfl rfl (fun h => ?_) (fun h => ?_) | refine pq_split rfl rfl (fun h => ?_) (fun h => ?_) | refine p3_split rfl rfl (fun h => ?_) (fun h => ?_))
            · repeat (refine stp rfl ?_ ?_;·repeat' constructor)
              exact end1b rfl rfl rfl
            · simp at h
          · exact absurd (by simpa using h) hpz
      · have hpe : planE w s = slE w s := by rw [planE, if_neg h0]
        rw [asksR, if_neg (by rw [hpe]; exact h0), hpe] at hA
        rw [if_neg h0] at hP
        by_cases hz : workE w = 0
        · have h16 := checkSlots_ref w hw (modes_le (well_of hz)) s
          have hsl : slE w s = slotsE w s := by rw [slE, if_pos hz]
          rw [← hsl] at h16
          rw [hz] at h15
          generalize slE w s = e at *
          refine Ret.of_pwp layOk mixed Go.Proofs.Tryz.func4 rfl (by decide) rfl rfl ?_
          repeat (refine stp rfl ?_ ?_;·repeat' constructor)
          apply qst;exact rfl;exact rfl;exact q_callP rfl (aw) rfl (by repeat' constructor) rfl rfl
          repeat (refine stp rfl ?_ ?_;·repeat' constructor)
          apply qst;exact rfl;exact rfl;exact q_callP rfl (h11) rfl (by repeat' constructor) rfl rfl
          repeat (refine stp rfl ?_ ?_;·repeat' constructor)
          apply qst;exact rfl;exact rfl;exact q_callP rfl (h12) rfl (by repeat' constructor) rfl rfl
          repeat (refine stp rfl ?_ ?_;·repeat' constructor)
          apply qst;exact rfl;exact rfl;exact q_call rfl (hA) rfl (by repeat' constructor) rfl
          repeat (refine stp rfl ?_ ?_;·repeat' constructor)
          apply qst;exact rfl;exact rfl;exact q_callP rfl (hP) rfl (by repeat' constructor) rfl rfl
          repeat (refine stp rfl ?_ ?_;·repeat' constructor)
          apply qst;exact rfl;exact rfl;exact q_callP rfl (h15) rfl (by repeat' constructor) rfl rfl
          repeat (refine stp rfl ?_ ?_;·repeat' constructor)
          apply qst;exact rfl;exact rfl;exact q_callP rfl (h16) rfl (by repeat' constructor) rfl rfl
          repeat (refine stp rfl ?_ ?_;·repeat' constructor)
          refine pw_cond rfl (fun h => ?_) (fun h => ?_)
          · repeat (refine stp rfl ?_ ?_;·repeat' constructor)
            (first | refine ps_split rfl rfl (fun h => ?_) (fun h => ?_) | refine pq_split rfl rfl (fun h => ?_) (fun h => ?_) | refine p3_split rfl rfl (fun h => ?_) (fun h => ?_))
            · clear h
              repeat (refine stp rfl ?_ ?_;·repeat' constructor)
              (first | refine ps_split rfl rfl (fun h => ?_) (fun h => ?_) | refine pq_split rfl rfl (fun h => ?_) (fun h => ?_) | refine p3_split rfl rfl (fun h => ?_) (fun h => ?_))
              · repeat (refine stp rfl ?_ ?_;·repeat' constructor)
                exact end1b rfl rfl rfl
              · simp at h
            · simp at h
          · exact absurd (by simpa using h) h0
        · have hsl : slE w s = workE w := by rw [slE, if_neg hz]
          rw [← hsl] at h15
          generalize slE w s = e at *
          refine Ret.of_pwp layOk mixed Go.Proofs.Tryz.func4 rfl (by decide) rfl rfl ?_
          repeat (refine stp rfl ?_ ?_;·repeat' constructor)
          apply qst;exact rfl;exact rfl;exact q_callP rfl (aw) rfl (by repeat' constructor) rfl rfl
          repeat (refine stp rfl ?_ ?_;·repeat' constructor)
          apply qst;exact rfl;exact rfl;exact q_callP rfl (h11) rfl (by repeat' constructor) rfl rfl
          repeat (refine stp rfl ?_ ?_;·repeat' constructor)
          apply qst;exact rfl;exact rfl;exact q_callP rfl (h12) rfl (by repeat' constructor) rfl rfl
          repeat (refine stp rfl ?_ ?_;·repeat' constructor)
          apply qst;exact rfl;exact rfl;exact q_call rfl (hA) rfl (by repeat' constructor) rfl
          repeat (refine stp rfl ?_ ?_;·repeat' constructor)
          apply qst;exact rfl;exact rfl;exact q_callP rfl (hP) rfl (by repeat' constructor) rfl rfl
          repeat (refine stp rfl ?_ ?_;·repeat' constructor)
          apply qst;exact rfl;exact rfl;exact q_callP rfl (h15) rfl (by repeat' constructor) rfl rfl
          repeat (refine stp rfl ?_ ?_;·repeat' constructor)
          refine pw_cond rfl (fun h => ?_) (fun h => ?_)
          · exact absurd (of_decide_eq_true h) h0
          clear h
          repeat (refine stp rfl ?_ ?_;·repeat' constructor)
          refine pw_cond rfl (fun h => ?_) (fun h => ?_)
          · repeat (refine stp rfl ?_ ?_;·repeat' constructor)
            (first | refine ps_split rfl rfl (fun h => ?_) (fun h => ?_) | refine pq_split rfl rfl (fun h => ?_) (fun h => ?_) | refine p3_split rfl rfl (fun h => ?_) (fun h => ?_))
            · clear h
              repeat (refine stp rfl ?_ ?_;·repeat' constructor)
              (first | refine ps_split rfl rfl (fun h => ?_) (fun h => ?_) | refine pq_split rfl rfl (fun h => ?_) (fun h => ?_) | refine p3_split rfl rfl (fun h => ?_) (fun h => ?_))
              · repeat (refine stp rfl ?_ ?_;·repeat' constructor)
                exact end1b rfl rfl rfl
              · simp at h
            · simp at h
          · exact absurd (by simpa using h) h0
end Go.Pv


set_option maxHeartbeats 2000000
namespace Go.Pv
attribute [local irreducible] PWP POps PQuiet PSem XThen XBlock RetPost InlPost
open Go.Proofs
def imin (a b : Int) : Int := if b < a then b else a
def leastF (a : Int) (m : SMode) : Int := imin a m.days
def workF (a : Int) (m : SMode) : Int := imin a (m.days * m.crew)
def leastP (x : SItem) : Int := x.modes.foldl leastF (modeAt x 0).days
def lwP (x : SItem) : Int := x.modes.foldl workF ((modeAt x 0).days * (modeAt x 0).crew)
theorem least_ret (x : SItem) (h1 : 1 ≤ x.modes.length) (h2 : x.modes.length ≤ 1000) (hm : ∀ m ∈ x.modes, (1 ≤ m.days ∧ m.days ≤ 60) ∧ 0 ≤ m.crew ∧ m.crew ≤ 1000) : Ret Tryz.prog .shared 110 [.agg (eItem x)] (.tup [I (leastP x), I (lwP x)]) := by
  have hm0 : x.modes[0]? = some (modeAt x 0) := by rw [modeAt]; show _ = some ((x.modes[0]?).getD _); rw [List.getElem?_eq_getElem (by omega)]; rfl
  refine Ret.of_pwp layOk mixed Go.Proofs.Tryz.func110 rfl (by decide) rfl rfl ?_
  repeat (refine stp rfl ?_ ?_;·repeat' constructor)
  refine pw_draw 18 [6, 7, 8, 9, 10, 11, 12, 13, 14, 15, 16, 17, 18, 19, 20, 21, 2, 3] (by decide +kernel) ?_
  repeat (refine stp rfl ?_ ?_;·repeat' constructor)
  apply qst;exact rfl;exact rfl;exact q_idxm (n := (((0:Nat):Int) : Int)) rfl rfl rfl rfl rfl (by omega) hm0 rfl
  repeat (refine stp rfl ?_ ?_;·repeat' constructor)
  apply qst;exact rfl;exact rfl;exact q_idxm (n := (((0:Nat):Int) : Int)) rfl rfl rfl rfl rfl (by omega) hm0 rfl
  repeat (refine stp rfl ?_ ?_;·repeat' constructor)
  apply qst;exact rfl;exact rfl;exact q_idxm (n := (((0:Nat):Int) : Int)) rfl rfl rfl rfl rfl (by omega) hm0 rfl
  repeat (refine stp rfl ?_ ?_;·repeat' constructor)
  have hml : (x.modes.map eMode).length = x.modes.length := by simp
  have hb0 := mul_bound (A := 60) (B := 1000) (by have := (hm _ (List.mem_of_getElem? hm0)).1; omega) (hm _ (List.mem_of_getElem? hm0)).1.2 (hm _ (List.mem_of_getElem? hm0)).2.1 (hm _ (List.mem_of_getElem? hm0)).2.2
  refine pw_loop (fun k => k ≤ x.modes.length) (fun k => [(1, .ptr 1 1 0 0), (2, I ((x.modes.take k).foldl leastF (modeAt x 0).days)), (3, I ((x.modes.take k).foldl workF ((modeAt x 0).days * (modeAt x 0).crew))), (23, .sl (x.modes.map eMode)), (24, I x.modes.length), (25, I k)])
    (fun k => [(1, 1, ⟨73, 7, [eItem x], 2⟩)]) (fun k => x.modes.length - k) 0 (Nat.zero_le _) ⟨rfl, rfl, ?_, rfl, ?_, rfl, rfl, trivial⟩ ?_
  · exact congrArg I (wrap_i64 (by omega) (by omega))
  · show I ((x.modes.map eMode).length) = _
    rw [hml]
  intro k s hk
  repeat (refine stp rfl ?_ ?_;·repeat' constructor)
  refine pw_cond rfl (fun h => ?_) (fun h => ?_)
  · have hlt : k < x.modes.length := by simpa using h
    obtain ⟨m, hmk⟩ := get_lt hlt
    clear h
    have hmm := hm m (List.mem_of_getElem? hmk)
    have hb := mul_bound (A := 60) (B := 1000) (by omega) hmm.1.2 hmm.2.1 hmm.2.2
    have hs := take_snoc hmk
    repeat (refine stp rfl ?_ ?_;·repeat' constructor)
    apply qst;exact rfl;exact rfl;exact q_idxm rfl rfl rfl rfl rfl (by omega) hmk rfl
    repeat (refine stp rfl ?_ ?_;·repeat' constructor)
    refine pw_ghost (Ghost.data (k := 5) (t := 5) (row := eMode m) rfl rfl rfl rfl) ?_
    refine pw_draw2 11 0 [29, 30, 31, 32, 33, 34, 35, 36, 37, 38, 39] [4,5,6,7,8,9,10] (by decide +kernel) rfl ?_
    repeat (refine stp rfl ?_ ?_;·repeat' constructor)
    refine ⟨k + 1, hlt, by omega, rfl, ?_, ?_, rfl, rfl, ?_, rfl, trivial⟩
    · rw [hs, List.foldl_append]; rfl
    · rw [hs, List.foldl_append]
      refine congrArg I ?_
      show (if IntKind.i64.wrap (m.days * m.crew) < _ then IntKind.i64.wrap (m.days * m.crew) else _) = workF _ m
      rw [wrap_i64 (by omega) (by omega)]; rfl
    · exact i64_next (by omega) (by omega)
  · have hge : k = x.modes.length := by have := of_decide_eq_false h; omega
    subst hge
    rw [List.take_length]
    repeat (refine stp rfl ?_ ?_;·repeat' constructor)
    exact end2 rfl rfl rfl rfl rfl trivial trivial rfl
end Go.Pv


set_option maxHeartbeats 2000000
namespace Go.Pv
attribute [local irreducible] PWP POps PQuiet PSem XThen XBlock RetPost InlPost
open Go.Proofs
theorem fold_bound {α : Type} {f : Int → α → Int} {A B : Int} (hf : ∀ a m, A ≤ a → a ≤ B → A ≤ f a m ∧ f a m ≤ B) : ∀ (l : List α) (a : Int), A ≤ a → a ≤ B → A ≤ l.foldl f a ∧ l.foldl f a ≤ B
  | [], a, h1, h2 => ⟨h1, h2⟩
  | m :: l, a, h1, h2 => by
    have := hf a m h1 h2
    exact fold_bound hf l (f a m) this.1 this.2
theorem fold_bound' {α : Type} {f : Int → α → Int} {A B : Int} : ∀ (l : List α) (a : Int), (∀ a m, m ∈ l → A ≤ a → a ≤ B → A ≤ f a m ∧ f a m ≤ B) → A ≤ a → a ≤ B → A ≤ l.foldl f a ∧ l.foldl f a ≤ B
  | [], a, _, h1, h2 => ⟨h1, h2⟩
  | m :: l, a, hf, h1, h2 => by
    have := hf a m (by simp) h1 h2
    exact fold_bound' l (f a m) (fun a m' hm => hf a m' (by simp [hm])) this.1 this.2
theorem leastP_bound {w : SWork} {x : SItem} (h : ItemOk w x) : 1 ≤ leastP x ∧ leastP x ≤ 60 := by
  have hm0 : x.modes[0]? = some (modeAt x 0) := by rw [modeAt]; show _ = some ((x.modes[0]?).getD _); rw [List.getElem?_eq_getElem (by have := h.modes; omega)]; rfl
  have h0 := (h.mode _ (List.mem_of_getElem? hm0)).1
  refine fold_bound' x.modes _ (fun a m hm ha hb => ?_) h0.1 h0.2
  have := (h.mode m hm).1
  unfold leastF imin
  split <;> omega
def bestF (w : SWork) (out : List Int) (i : Int) (a : Int) (j : Nat) : Int := if ((bef w).getD j []).any (· == i) = true then imax a (out.getD j 0) else a
def bestC (w : SWork) (out : List Int) (i : Int) (n : Nat) : Int := (List.range n).foldl (bestF w out i) 0
def stepC (w : SWork) (out : List Int) (i : Int) : List Int := out.set i.toNat (leastP (itP w i) + bestC w out i w.items.length)
def chainK (w : SWork) (k : Nat) : List Int := ((ordS w).reverse.take k).foldl (stepC w) (List.replicate w.items.length 0)
def chainS (w : SWork) : List Int := (ordS w).reverse.foldl (stepC w) (List.replicate w.items.length 0)
theorem bestC_succ (w : SWork) (out : List Int) (i : Int) (n : Nat) : bestC w out i (n + 1) = bestF w out i (bestC w out i n) n := by rw [bestC, List.range_succ, List.foldl_append]; rfl
theorem bestC_bound {w : SWork} {out : List Int} {B : Int} (h : ∀ v ∈ out, 0 ≤ v ∧ v ≤ B) (hB : 0 ≤ B) (i : Int) (n : Nat) : 0 ≤ bestC w out i n ∧ bestC w out i n ≤ B := by
  refine fold_bound (fun a j ha hb => ?_) _ _ (Int.le_refl _) hB
  have hv : 0 ≤ out.getD j 0 ∧ out.getD j 0 ≤ B := by
    rw [List.getD_eq_getElem?_getD]
    cases hq : out[j]? with
    | none => exact ⟨Int.le_refl _, hB⟩
    | some v => exact h v (List.mem_of_getElem? hq)
  unfold bestF imax
  split
  · split <;> omega
  · omega
theorem chainK_ok {w : SWork} (hv : Well w) (k : Nat) (hk : k ≤ (ordS w).length) : (chainK w k).length = w.items.length ∧ ∀ v ∈ chainK w k, 0 ≤ v ∧ v ≤ 60 * k := by
  induction k with
  | zero => exact ⟨by simp [chainK], fun v hm => by simp [chainK] at hm; omega⟩
  | succ k ih =>
    obtain ⟨h1, h2⟩ := ih (by omega)
    obtain ⟨y, hy⟩ := get_lt (show k < (ordS w).reverse.length by simp; omega)
    have hs : chainK w (k + 1) = stepC w (chainK w k) y := by rw [chainK, take_snoc hy, List.foldl_append]; rfl
    obtain ⟨i, x, rfl, hx⟩ := (refOrd_eq hv.good).2 y (by simpa using List.mem_of_getElem? hy)
    rw [hs]
    have hb := bestC_bound (w := w) h2 (by omega) (i : Int) w.items.length
    have hl := leastP_bound (hv.item x (List.mem_of_getElem? hx))
    rw [← itP_at hx] at hl
    refine ⟨by simp [stepC, h1], fun v hm => ?_⟩
    rcases List.mem_or_eq_of_mem_set hm with hm | rfl
    · have := h2 v hm; omega
    · omega
set_option maxRecDepth 20000 in
theorem chainFrom_ret (w : SWork) (hw : Sane w) (hv : Well w) : Ret Tryz.prog .shared 108 [.agg (eWork w)] (.sl ((chainS w).map eI)) := by
  have h1 := hw.items
  have hn40 := hv.n40
  have hbl : ((bef w).map eL).length = w.items.length := by simp [bef]
  have hol := ordS_len w
  have hLl : ((ordS w).map eI).length = (ordS w).reverse.length := by simp
  refine Ret.of_pwp layOk mixed Go.Proofs.Tryz.func108 rfl (by decide) rfl rfl ?_
  repeat (refine stp rfl ?_ ?_;·repeat' constructor)
  apply qst;exact rfl;exact rfl;exact q_call rfl (before_ret w h1 hw.after) rfl (by repeat' constructor) rfl
  repeat (refine stp rfl ?_ ?_;·repeat' constructor)
  refine ps_run (o_make rfl rfl rfl rfl rfl rfl rfl rfl (by omega) (by rw [hbl]; show ((8 : Nat) : Int) * _ ≤ _; omega) (by rw [hbl]; omega) ?_)
  refine ps_v rfl trivial ?_
  refine ps_nil ?_
  refine x_norm ?_
  refine pw_seq ?_
  refine pw_regionS 1 ?_
  first | refine ps_v rfl trivial ?_ | refine ps_v rfl rfl ?_
  refine ps_nil ?_
  refine psem_sm rfl (sm_callO rfl (ordered_own w h1 hw.after) rfl (by repeat' constructor) rfl ?_)
  refine psem_ops ?_
  refine ps_v rfl trivial ?_
  refine ps_nil ?_
  refine x_norm ?_
  refine pw_seq ?_
  refine pw_regionS 1 ?_
  first | refine ps_v rfl trivial ?_ | refine ps_v rfl rfl ?_
  refine ps_nil ?_
  refine psem_sm rfl (reverse18 w (List.replicate w.items.length [I 0]) (ordS w) (by omega) rfl ⟨rfl, ?_, rfl, trivial⟩ (fun s1 => ?_))
  · show (1, some (Cont.mk 3 1 (List.replicate (Int.toNat ((bef w).map eL).length) _) 0)) = _
    rw [hbl]; rfl
  refine psem_ops ?_
  repeat (refine stp rfl ?_ ?_;·repeat' constructor)
  refine pw_loop (fun k => k ≤ (ordS w).reverse.length) (fun k => [(1, .ptr 1 1 0 0), (3, .sl ((bef w).map eL)), (4, .als 16 1 0 w.items.length), (21, .als 18 1 0 ((ordS w).map eI).length), (22, I ((ordS w).map eI).length), (23, I k)])
    (fun k => [(1, 1, ⟨28, 9, [eWork w], 2⟩), (16, 1, ⟨3, 1, (chainK w k).map eI, 0⟩), (18, 1, ⟨3, 1, (ordS w).reverse.map eI, 0⟩)]) (fun k => (ordS w).reverse.length - k) 0 (Nat.zero_le _) ⟨rfl, rfl, ?_, rfl, rfl, rfl, rfl, ?_, rfl, trivial⟩ ?_
  · show PV.als 16 1 0 (List.length (List.replicate (Int.toNat ((bef w).map eL).length) _)) = _
    rw [hbl]; simp
  · show (1, some (Cont.mk 3 1 (List.replicate w.items.length [I 0]) 0)) = _
    simp [chainK, eI]
  intro k s hk
  obtain ⟨hc1, hc2⟩ := chainK_ok hv k (by simpa using hk)
  have hrl : (ordS w).reverse.length = (ordS w).length := by simp
  repeat (refine stp rfl ?_ ?_;·repeat' constructor)
  refine pw_cond rfl (fun h => ?_) (fun h => ?_)
  · have hlt : k < (ordS w).reverse.length := by have := of_decide_eq_true h; omega
    clear h
    obtain ⟨y, hy⟩ := get_lt hlt
    obtain ⟨i, x, rfl, hx⟩ := (refOrd_eq hv.good).2 y (by simpa using List.mem_of_getElem? hy)
    have hil := (List.getElem?_eq_some_iff.1 hx).1
    have hyr : ((ordS w).reverse.map eI)[k]? = some (eI i) := by rw [List.getElem?_map, hy]; rfl
    have hio := hv.item x (List.mem_of_getElem? hx)
    have hlb := leastP_bound hio
    repeat (refine stp rfl ?_ ?_;·repeat' constructor)
    refine ps_q (q_idxA rfl rfl rfl rfl rfl rfl rfl (by omega) (by omega)) ?_
    rw [Int.toNat_natCast, Nat.zero_add k]
    refine ps_q (q_ldp rfl rfl rfl hyr rfl) ?_
    repeat (refine stp rfl ?_ ?_;·repeat' constructor)
    refine pw_loop (fun j => j ≤ w.items.length) (fun j => [(1, .ptr 1 1 0 0), (3, .sl ((bef w).map eL)), (4, .als 16 1 0 w.items.length), (7, I i), (8, I (bestC w (chainK w k) i j)), (21, .als 18 1 0 ((ordS w).map eI).length), (22, I ((ordS w).map eI).length), (23, I k), (28, I w.items.length), (29, I j)])
      (fun j => [(1, 1, ⟨28, 9, [eWork w], 2⟩), (16, 1, ⟨3, 1, (chainK w k).map eI, 0⟩), (18, 1, ⟨3, 1, (ordS w).reverse.map eI, 0⟩)]) (fun j => w.items.length - j) 0 (Nat.zero_le _) ⟨rfl, rfl, rfl, rfl, rfl, rfl, rfl, rfl, ?_, rfl, rfl, rfl, rfl, trivial⟩ ?_
    · show I (((bef w).map eL).length) = _
      rw [hbl]
    intro j s' hj
    have hbb := bestC_bound (w := w) hc2 (by omega) (i : Int) j
    repeat (refine stp rfl ?_ ?_;·repeat' constructor)
    refine pw_cond rfl (fun h => ?_) (fun h => ?_)
    · have hlt' : j < w.items.length := by simpa using h
      clear h
      obtain ⟨z, hz⟩ := get_lt hlt'
      obtain ⟨v, hvj⟩ := get_lt (show j < (chainK w k).length by omega)
      have hbz : (bef w)[j]? = some (aft w z) := by rw [bef, List.getElem?_map, hz]; rfl
      have haz := hw.after z (List.mem_of_getElem? hz)
      have hvr : ((chainK w k).map eI)[j]? = some (eI v) := by rw [List.getElem?_map, hvj]; rfl
      have hbf : ∀ a, bestF w (chainK w k) i a j = if (aft w z).any (· == (i : Int)) = true then imax a v else a := fun a => by rw [bestF, List.getD_eq_getElem?_getD, hbz, List.getD_eq_getElem?_getD, hvj]; rfl
      repeat (refine stp rfl ?_ ?_;·repeat' constructor)
      apply qst;exact rfl;exact rfl;exact q_idxm rfl rfl rfl rfl rfl (by omega) hbz rfl
      repeat (refine stp rfl ?_ ?_;·repeat' constructor)
      apply qst;exact rfl;exact rfl;exact q_callP rfl (containsI_ret (aft w z) i (by simp [aft]; omega)) rfl (by repeat' constructor) rfl rfl
      repeat (refine stp rfl ?_ ?_;·repeat' constructor)
      refine pw_cond rfl (fun h => ?_) (fun h => ?_)
      · have hin : (aft w z).any (· == (i : Int)) = true := h
        clear h
        repeat (refine stp rfl ?_ ?_;·repeat' constructor)
        refine ps_q (q_idxA rfl rfl rfl rfl rfl rfl rfl (by omega) (by omega)) ?_
        rw [Int.toNat_natCast, Nat.zero_add j]
        refine ps_q (q_ldp rfl rfl rfl hvr rfl) ?_
        repeat (refine stp rfl ?_ ?_;·repeat' constructor)
        refine ⟨j + 1, hlt', by omega, rfl, rfl, rfl, rfl, ?_, rfl, rfl, rfl, rfl, ?_, rfl, rfl, rfl, trivial⟩
        · rw [bestC_succ, hbf, if_pos hin]; rfl
        · exact i64_next (by omega) (by omega)
      · have hin : ¬ (aft w z).any (· == (i : Int)) = true := by rw [show (aft w z).any (· == (i : Int)) = false from h]; simp
        clear h
        repeat (refine stp rfl ?_ ?_;·repeat' constructor)
        refine ⟨j + 1, hlt', by omega, rfl, rfl, rfl, rfl, ?_, rfl, rfl, rfl, rfl, ?_, rfl, rfl, rfl, trivial⟩
        · rw [bestC_succ, hbf, if_neg hin]; rfl
        · exact i64_next (by omega) (by omega)
    · have hge : j = w.items.length := by have := of_decide_eq_false h; omega
      subst hge
      clear h
      have hrow : ∃ v0, ((chainK w k).map eI)[i]? = some (eI v0) := by
        obtain ⟨v0, hv0⟩ := get_lt (show i < (chainK w k).length by omega)
        exact ⟨v0, by rw [List.getElem?_map, hv0]; rfl⟩
      obtain ⟨v0, hrow⟩ := hrow
      have hs : chainK w (k + 1) = (chainK w k).set i (leastP x + bestC w (chainK w k) i w.items.length) := by
        rw [chainK, take_snoc hy, List.foldl_append]
        show stepC w (chainK w k) i = _
        rw [stepC, itP_at hx, Int.toNat_natCast]
      repeat (refine stp rfl ?_ ?_;·repeat' constructor)
      apply qst;exact rfl;exact rfl;exact q_idxm rfl rfl rfl rfl rfl (by omega) hx rfl
      repeat (refine stp rfl ?_ ?_;·repeat' constructor)
      apply qst;exact rfl;exact rfl;exact q_callP rfl (least_ret x hio.modes.1 (by have := hio.modes; omega) (fun m hm => by have := hio.mode m hm; exact ⟨this.1, this.2.1⟩)) rfl (by repeat' constructor) rfl rfl
      repeat (refine stp rfl ?_ ?_;·repeat' constructor)
      refine ps_q (q_idxA rfl rfl rfl rfl rfl rfl rfl (by omega) (by omega)) ?_
      rw [Int.toNat_natCast, Nat.zero_add i]
      refine ps_run0 (o_store (kd' := 0) rfl rfl rfl hrow rfl rfl (by repeat' constructor) rfl rfl rfl rfl ?_)
      repeat (refine stp rfl ?_ ?_;·repeat' constructor)
      refine ⟨k + 1, hlt, by omega, rfl, rfl, rfl, rfl, rfl, ?_, rfl, ?_, rfl, trivial⟩
      · exact i64_next (by omega) (by omega)
      · rw [hs, List.map_set]
        refine Eq.trans (b := (1, some (Cont.mk 3 1 (((chainK w k).map eI).set i [PV.int .i64 (IntKind.i64.wrap (leastP x + bestC w (chainK w k) i w.items.length))]) 0))) rfl ?_
        rw [wrap_i64 (by omega) (by omega)]; rfl
  · have hge : k = (ordS w).reverse.length := by have := of_decide_eq_false h; omega
    subst hge
    have hfin : chainK w (ordS w).reverse.length = chainS w := by rw [chainK, List.take_length, chainS]
    repeat (refine stp rfl ?_ ?_;·repeat' constructor)
    exact end1 rfl rfl rfl ⟨rfl, rfl, by rw [List.length_map, hc1]⟩ (by rw [hfin])
end Go.Pv


set_option maxHeartbeats 2000000
namespace Go.Pv
attribute [local irreducible] PWP POps PQuiet PSem XThen XBlock RetPost InlPost
open Go.Proofs
def dn : Nat → PV → PV
  | 0, c => c
  | _ + 1, .nil => .sl []
  | n + 1, .agg cs => .agg (cs.map (dn n))
  | n + 1, .sl rows => .sl (rows.map (·.map (dn n)))
  | _ + 1, c => c
theorem dn_drep {w : World} {ok : Nat → Prop} : ∀ (n : Nat) (c : PV) (v : Value), DRep w ok c v → DRep w ok (dn n c) v
  | 0, _, _, h => h
  | n + 1, c, v, h => by
    cases h with
    | nil => exact .sl0 none 0
    | agg cs vs hl hd =>
      refine .agg _ vs (by simp [hl]) fun i c v e1 e2 => ?_
      rw [List.getElem?_map] at e1
      cases hq : cs[i]? with
      | none => rw [hq] at e1; simp at e1
      | some c0 => rw [hq] at e1; simp at e1; subst e1; exact dn_drep n _ _ (hd i c0 v hq e2)
    | sl0 a cap => exact .sl0 a cap
    | sl rows b off cap sz vals hb hs hcap hrow hcell hd =>
      have at_ : ∀ (i j : Nat) (row : List PV) (c : PV), (rows.map (·.map (dn n)))[i]? = some row → row[j]? = some c → ∃ row0 c0, rows[i]? = some row0 ∧ row0[j]? = some c0 ∧ dn n c0 = c := fun i j row c e1 e2 => map_at e1 e2
      have := DRep.sl (w := w) (ok := ok) (rows.map (·.map (dn n))) b off cap sz vals hb hs (by simpa using hcap) (fun row hr => by
        obtain ⟨r0, h0, rfl⟩ := List.mem_map.1 hr
        simpa using hrow r0 h0) (fun i j row c e1 e2 => by
        obtain ⟨row0, c0, f1, f2, _⟩ := at_ i j row c e1 e2
        exact hcell i j row0 c0 f1 f2) (fun i j row c e1 e2 => by
        obtain ⟨row0, c0, f1, f2, rfl⟩ := at_ i j row c e1 e2
        exact dn_drep n _ _ (hd i j row0 c0 f1 f2))
      rwa [List.length_map] at this
    | bool b => exact .bool b
    | int k m => exact .int k m
    | str s => exact .str s
    | tup cs vs hl hd => exact .tup cs vs hl hd
    | dref cs j b off vals h1 h2 h3 => exact .dref cs j b off vals h1 h2 h3
    | clo f caps vs hl hd => exact .clo f caps vs hl hd
    | mapd rows b es nn h1 h2 h3 h4 h5 h6 h7 => exact .mapd rows b es nn h1 h2 h3 h4 h5 h6 h7
    | raw u =>
      show DRep w ok (.raw v) v
      exact .raw v
theorem Ret.dn {P : Program} {m : Mode} {f : FuncId} {args : List PV} {r : PV} (n : Nat) (h : Ret P m f args r) : Ret P m f args (Pv.dn n r) :=
  ⟨h.1, fun w X args h0 h1 h2 h3 => (h.2 w X args h0 h1 h2 h3).mono fun _ _ ⟨v, e1, e2, e3⟩ => ⟨v, e1, e2, dn_drep n _ _ e3⟩⟩
def itemA : SItem := ⟨[97], [119], [⟨2, 1⟩], [], -1, false, []⟩
def itemB : SItem := ⟨[98], [119], [⟨1, 2⟩], [], -1, false, []⟩
def tradeW : STrade := ⟨[119], 2, 100⟩
def pairW : SWork := ⟨[itemA, itemB], [tradeW], [], [], [], 10, 0, 0, 9⟩
def pairS : List SSlot := [⟨[97], 0, 0⟩, ⟨[98], 0, 2⟩]
theorem pair_sane : Sane pairW := by
  refine ⟨by decide, by decide, by decide, by decide, by decide, by decide, fun x hx => ?_⟩
  simp [pairW] at hx
  rcases hx with rfl | rfl <;> decide
theorem pair_ret : Ret Tryz.prog .shared 28 [] (.agg (eWork pairW)) := by
  have : Ret Tryz.prog .shared 28 [] (.agg [.sl [[.str [97], .str [119], .sl [[I 2, I 1]], .str [], I (-1), .bool false, .nil], [.str [98], .str [119], .sl [[I 1, I 2]], .str [], I (-1), .bool false, .nil]], .sl [[.str [119], I 2, I 100]], .nil, .nil, .nil, I 10, I 0, I 0, I 9]) := by
    refine Ret.of_pwp layOk mixed Go.Proofs.Tryz.func28 rfl (by decide) rfl rfl ?_
    repeat (refine stp rfl ?_ ?_;·repeat' constructor)
    apply qst;exact rfl;exact rfl;exact q_slit rfl rfl rfl rfl rfl rfl rfl rfl rfl rfl (by repeat' constructor) rfl
    repeat (refine stp rfl ?_ ?_;·repeat' constructor)
    apply qst;exact rfl;exact rfl;exact q_slit rfl rfl rfl rfl rfl rfl rfl rfl rfl rfl (by repeat' constructor) rfl
    repeat (refine stp rfl ?_ ?_;·repeat' constructor)
    apply qst;exact rfl;exact rfl;exact q_slit rfl rfl rfl rfl rfl rfl rfl rfl rfl rfl (by repeat' constructor) rfl
    repeat (refine stp rfl ?_ ?_;·repeat' constructor)
    apply qst;exact rfl;exact rfl;exact q_slit rfl rfl rfl rfl rfl rfl rfl rfl rfl rfl (by repeat' constructor) rfl
    repeat (refine stp rfl ?_ ?_;·repeat' constructor)
    exact endc rfl rfl rfl rfl (by repeat' constructor) rfl
  exact this.dn 6
theorem pair_work : workE pairW = 0 := by decide +kernel
theorem pair_cost : Ret Tryz.prog .shared 15 [.agg (eWork pairW), .sl (pairS.map eSlot)] (.tup [I 430, I 0]) := by
  have h := costF_ret pairW pair_sane pairS
  have h1 : planE pairW pairS = 0 := by decide +kernel
  have h2 : costP pairW (placed pairW pairS) = 430 := by decide +kernel
  rw [h1, if_pos rfl, h2] at h
  exact h
def sumT (w : SWork) (t : STrade) (a : Int) (x : SItem) : Int := if x.trade = t.name then a + lwP x else a
def sumB (w : SWork) (t : STrade) : Int := w.items.foldl (sumT w t) 0
def tradeB (w : SWork) (t : STrade) : Int := if sumB w t = 0 then 0 else (sumB w t + t.crew - 1).tdiv t.crew
theorem lwP_bound {w : SWork} {x : SItem} (h : ItemOk w x) : 0 ≤ lwP x ∧ lwP x ≤ 60000 := by
  have hm0 : x.modes[0]? = some (modeAt x 0) := by rw [modeAt]; show _ = some ((x.modes[0]?).getD _); rw [List.getElem?_eq_getElem (by have := h.modes; omega)]; rfl
  have h0 := h.mode _ (List.mem_of_getElem? hm0)
  have hb := mul_bound (A := 60) (B := 1000) (by omega) h0.1.2 h0.2.1.1 h0.2.1.2
  refine fold_bound' x.modes _ (fun a m hm ha hb => ?_) hb.1 hb.2
  have h1 := h.mode m hm
  have h2 := mul_bound (A := 60) (B := 1000) (by omega) h1.1.2 h1.2.1.1 h1.2.1.2
  unfold workF imin
  split <;> omega
theorem sumK_bound {w : SWork} (hv : Well w) (t : STrade) (k : Nat) (hk : k ≤ w.items.length) : 0 ≤ (w.items.take k).foldl (sumT w t) 0 ∧ (w.items.take k).foldl (sumT w t) 0 ≤ 60000 * k := by
  induction k with
  | zero => simp
  | succ k ih =>
    have ih := ih (by omega)
    obtain ⟨x, hx⟩ := get_lt (show k < w.items.length by omega)
    have hl := lwP_bound (hv.item x (List.mem_of_getElem? hx))
    rw [take_snoc hx, List.foldl_append]
    generalize List.foldl (sumT w t) 0 (w.items.take k) = a at ih ⊢
    show 0 ≤ sumT w t a x ∧ sumT w t a x ≤ _
    unfold sumT
    split <;> omega
theorem tradeBound_ret (w : SWork) (hv : Well w) (t : STrade) (ht : 0 ≤ t.crew ∧ t.crew ≤ 1000) (hc : sumB w t ≠ 0 → t.crew ≠ 0) : Ret Tryz.prog .shared 70 [.agg (eWork w), .agg (eTrade t)] (I (tradeB w t)) := by
  have hn := hv.n40
  have hsb := sumK_bound hv t w.items.length (Nat.le_refl _)
  rw [List.take_length] at hsb
  replace hsb : 0 ≤ sumB w t ∧ sumB w t ≤ 60000 * w.items.length := hsb
  have hml : (w.items.map eItem).length = w.items.length := by simp
  refine Ret.of_pwp layOk mixed Go.Proofs.Tryz.func70 rfl (by decide) rfl rfl ?_
  repeat (refine stp rfl ?_ ?_;·repeat' constructor)
  refine pw_loop (fun k => k ≤ w.items.length) (fun k => [(2, .ptr 2 1 0 0), (3, .ptr 3 1 0 0), (5, I ((w.items.take k).foldl (sumT w t) 0)), (11, .sl (w.items.map eItem)), (12, I w.items.length), (13, I k)]) (fun _ => [(2, 1, ⟨28, 9, [eWork w], 2⟩), (3, 1, ⟨93, 3, [eTrade t], 2⟩)]) (fun k => w.items.length - k) 0 (Nat.zero_le _) ⟨rfl, rfl, rfl, rfl, ?_, rfl, rfl, rfl, trivial⟩ ?_
  · show I ((w.items.map eItem).length) = _
    rw [hml]
  intro k s hk
  repeat (refine stp rfl ?_ ?_;·repeat' constructor)
  refine pw_cond rfl (fun h => ?_) (fun h => ?_)
  · have hlt : k < w.items.length := by simpa using h
    obtain ⟨x, hx⟩ := get_lt hlt
    clear h
    have hio := hv.item x (List.mem_of_getElem? hx)
    have hb := sumK_bound hv t (k + 1) hlt
    have hs := take_snoc hx
    rw [hs, List.foldl_append] at hb
    replace hb : 0 ≤ sumT w t ((w.items.take k).foldl (sumT w t) 0) x ∧ sumT w t ((w.items.take k).foldl (sumT w t) 0) x ≤ _ := hb
    repeat (refine stp rfl ?_ ?_;·repeat' constructor)
    apply qst;exact rfl;exact rfl;exact q_idxm rfl rfl rfl rfl rfl (by omega) hx rfl
    repeat (refine stp rfl ?_ ?_;·repeat' constructor)
    refine pw_cond rfl (fun h => ?_) (fun h => ?_)
    · have he : x.trade = t.name := of_decide_eq_true h
      clear h
      have hst : ∀ a, sumT w t a x = a + lwP x := fun a => by rw [sumT, if_pos he]
      rw [hst] at hb
      repeat (refine stp rfl ?_ ?_;·repeat' constructor)
      apply qst;exact rfl;exact rfl;exact q_callP rfl (least_ret x hio.modes.1 (by have := hio.modes; omega) (fun m hm => by have := hio.mode m hm; exact ⟨this.1, this.2.1⟩)) rfl (by repeat' constructor) rfl rfl
      repeat (refine stp rfl ?_ ?_;·repeat' constructor)
      refine ⟨k + 1, hlt, by omega, rfl, rfl, ?_, rfl, rfl, ?_, rfl, rfl, trivial⟩
      · rw [hs, List.foldl_append]
        show PV.int .i64 (IntKind.i64.wrap ((w.items.take k).foldl (sumT w t) 0 + lwP x)) = I (sumT w t ((w.items.take k).foldl (sumT w t) 0) x)
        rw [wrap_i64 (by omega) (by omega), hst]
      · exact i64_next (by omega) (by omega)
    · have he : ¬ x.trade = t.name := of_decide_eq_false h
      clear h
      have hst : ∀ a, sumT w t a x = a := fun a => by rw [sumT, if_neg he]
      repeat (refine stp rfl ?_ ?_;·repeat' constructor)
      refine ⟨k + 1, hlt, by omega, rfl, rfl, ?_, rfl, rfl, ?_, rfl, rfl, trivial⟩
      · rw [hs, List.foldl_append]
        show _ = I (sumT w t ((w.items.take k).foldl (sumT w t) 0) x)
        rw [hst]; rfl
      · exact i64_next (by omega) (by omega)
  · have hge : k = w.items.length := by have := of_decide_eq_false h; omega
    subst hge
    rw [List.take_length]
    clear h
    repeat (refine stp rfl ?_ ?_;·repeat' constructor)
    refine pw_cond rfl (fun h => ?_) (fun h => ?_)
    · have hz : sumB w t = 0 := of_decide_eq_true h
      repeat (refine stp rfl ?_ ?_;·repeat' constructor)
      exact end1i rfl rfl (by rw [tradeB, if_pos hz])
    · have hz : ¬ sumB w t = 0 := of_decide_eq_false h
      have hc := hc hz
      repeat (refine stp rfl ?_ ?_;·repeat' constructor)
      refine ps_v rfl hc ?_
      repeat (refine stp rfl ?_ ?_;·repeat' constructor)
      refine end1i rfl rfl ?_
      rw [tradeB, if_neg hz]
      show PV.int .i64 (IntKind.i64.wrap ((IntKind.i64.wrap (IntKind.i64.wrap (sumB w t + t.crew) - 1)).tdiv t.crew)) = _
      rw [wrap_i64 (n := sumB w t + t.crew) (by omega) (by omega), wrap_i64 (n := sumB w t + t.crew - 1) (by omega) (by omega)]
      have h1 := Int.tdiv_nonneg (a := sumB w t + t.crew - 1) (b := t.crew) (by omega) ht.1
      have h2 : (sumB w t + t.crew - 1).tdiv t.crew ≤ sumB w t + t.crew - 1 := by
        rw [Int.tdiv_eq_ediv_of_nonneg (by omega)]
        exact Int.ediv_le_self _ (by omega)
      rw [wrap_i64 (by omega) (by omega)]
end Go.Pv


set_option maxHeartbeats 2000000
namespace Go.Pv
attribute [local irreducible] PWP POps PQuiet PSem XThen XBlock RetPost InlPost
open Go.Proofs
theorem endm {L : Lay} {s : St} {fn : Func} {r d : PV} {l : List PV} {A Cd : Prop} {fl : Fl} (h : rvs L s fn.results.toList = some (l, A)) (ha : A) (hres : res s 5 (tupled l) = some (d, Cd, fl)) (hc : Cd) (hd : d = r) : RetPost L fn .shared r .ret s := by
  unfold RetPost
  exact ⟨l, A, d, Cd, fl, h, ha, hres, hc, trivial, hd⟩
theorem pair_well : Well pairW := well_of pair_work
theorem pair_chain : Ret Tryz.prog .shared 108 [.agg (eWork pairW)] (.sl [[I 2], [I 1]]) := by
  have h := chainFrom_ret pairW pair_sane pair_well
  rw [show chainS pairW = [2, 1] by decide +kernel] at h
  exact h
theorem pair_bef : Ret Tryz.prog .shared 76 [.agg (eWork pairW)] (.sl [[.sl []], [.sl []]]) := by
  have h := before_ret pairW (by decide) (by decide)
  rw [show bef pairW = [[], []] by decide +kernel] at h
  exact h
theorem pair_index : Ret Tryz.prog .shared 109 [.sl [[I 2], [I 1]], I 2] (I 0) := by
  have h := indexI_ret [2, 1] 2 (by decide)
  rw [show idx [2, 1] (· == (2 : Int)) = 0 by decide +kernel] at h
  exact h
theorem pair_clo (x : Int) : Ret Tryz.prog .shared 112 [I x, .dref [I 0] 0] (.bool (x == 0)) := by
  refine Ret.of_pwp layOk mixed Go.Proofs.Tryz.func112 rfl (by decide) rfl rfl ?_
  repeat (refine stp rfl ?_ ?_;·repeat' constructor)
  exact end1b rfl rfl rfl
theorem pair_find : Ret Tryz.prog .shared 111 [.sl [[I 2], [I 1]], .clo 112 [.dref [I 0] 0]] (I (-1)) := by
  have h := indexFI_ret [2, 1] 112 [I 0] (· == 0) (by decide) (fun x _ => pair_clo x)
  rw [show idx [2, 1] (· == (0 : Int)) = -1 by decide +kernel] at h
  exact h
theorem pair_least : Ret Tryz.prog .shared 110 [.agg (eItem itemA)] (.tup [I 2, I 2]) := by
  have h := least_ret itemA (by decide) (by decide) (by intro m hm; simp [itemA] at hm; subst hm; decide)
  rw [show leastP itemA = 2 by decide +kernel, show lwP itemA = 2 by decide +kernel] at h
  exact h
def mxP : Nat → Int
  | 0 => 0
  | _ => 2
set_option maxRecDepth 20000 in
theorem pair_longest : Ret Tryz.prog .shared 69 [.agg (eWork pairW)] (.agg [I 2, .sl [[.str [97]]], .str []]) := by
  refine Ret.of_pwp layOk mixed Go.Proofs.Tryz.func69 rfl (by decide) rfl rfl ?_
  repeat (refine stp rfl ?_ ?_;·repeat' constructor)
  apply qst;exact rfl;exact rfl;exact q_call rfl (pair_chain) rfl (by repeat' constructor) rfl
  repeat (refine stp rfl ?_ ?_;·repeat' constructor)
  apply qst;exact rfl;exact rfl;exact q_call rfl (pair_bef) rfl (by repeat' constructor) rfl
  repeat (refine stp rfl ?_ ?_;·repeat' constructor)
  refine pw_loop (fun (k : Nat) => k ≤ 2) (fun k => [(1, .ptr 1 1 0 0), (2, .ptr 2 1 0 0), (3, .sl [[I 2], [I 1]]), (4, .sl [[.sl []], [.sl []]]), (5, .ptr 5 1 0 0), (19, .sl [[I 2], [I 1]]), (20, I 2), (21, I k)])
    (fun k => [(1, 1, ⟨28, 9, [eWork pairW], 2⟩), (2, 1, ⟨67, 3, [[I 0, .nil, .str []]], 2⟩), (5, 1, ⟨67, 3, [[I (mxP k), .nil, .str []]], 2⟩)]) (fun k => 2 - k) 0 (by omega) ⟨rfl, rfl, rfl, rfl, rfl, rfl, rfl, rfl, rfl, rfl, rfl, trivial⟩ ?_
  intro k s hk
  obtain rfl | rfl | rfl : k = 0 ∨ k = 1 ∨ k = 2 := by omega
  · repeat (refine stp rfl ?_ ?_;·repeat' constructor)
    refine zsq rfl (q_idx rfl rfl rfl rfl rfl (by decide) rfl rfl) ?_
    repeat (refine stp rfl ?_ ?_;·repeat' constructor)
    exact ⟨1, by omega, by omega, rfl, rfl, rfl, rfl, rfl, rfl, rfl, rfl, rfl, rfl, rfl, trivial⟩
  · repeat (refine stp rfl ?_ ?_;·repeat' constructor)
    refine zsq rfl (q_idx rfl rfl rfl rfl rfl (by decide) rfl rfl) ?_
    repeat (refine stp rfl ?_ ?_;·repeat' constructor)
    exact ⟨2, by omega, by omega, rfl, rfl, rfl, rfl, rfl, rfl, rfl, rfl, rfl, rfl, rfl, trivial⟩
  repeat (refine stp rfl ?_ ?_;·repeat' constructor)
  refine pw_ghost (Ghost.drop (k := 9) rfl) ?_
  refine pw_draw2 6 1 [31, 32, 33, 34, 35, 36, 9] [4,5] (by decide +kernel) rfl ?_
  repeat (refine stp rfl ?_ ?_;·repeat' constructor)
  apply qst;exact rfl;exact rfl;exact q_callP rfl (pair_index) rfl (by repeat' constructor) rfl rfl
  repeat (refine stp rfl ?_ ?_;·repeat' constructor)
  refine ⟨by kernel_rfl, ?_⟩
  repeat (refine stp rfl ?_ ?_;·repeat' constructor)
  refine pw_loop (fun (_ : Option Nat) => True)
    (fun i => [(1, .ptr 1 1 0 0), (2, .ptr 2 1 0 0), (3, .sl [[I 2], [I 1]]), (4, .sl [[.sl []], [.sl []]]), (5, .ptr 5 1 0 0), (8, match i with | none => I 0 | some _ => I (-1)), (9, .ptr 9 ((s.own 9).1 + 2 + 1) 0 0)])
    (fun i => match i with
      | none => [(1, 1, ⟨28, 9, [eWork pairW], 2⟩), (2, 1, ⟨67, 3, [[I 0, .nil, .str []]], 2⟩), (5, 1, ⟨67, 3, [[I 2, .nil, .str []]], 2⟩), (9, (s.own 9).1 + 2 + 1, ⟨3, 1, [[I 2]], 2⟩)]
      | some g => [(1, 1, ⟨28, 9, [eWork pairW], 2⟩), (2, 1, ⟨67, 3, [[I 0, .nil, .str []]], 2⟩), (5, 1, ⟨67, 3, [[I 2, .als 48 g 0 1, .str []]], 2⟩), (9, (s.own 9).1 + 2 + 1, ⟨3, 1, [[I 0]], 2⟩), (48, g, ⟨9, 1, [[.str [97]]], 0⟩)])
    (fun i => match i with | none => 1 | some _ => 0) none trivial ⟨rfl, rfl, rfl, rfl, rfl, rfl, rfl, rfl, rfl, rfl, rfl, trivial⟩ ?_
  intro i s2 _
  cases i with
  | none =>
    repeat (refine stp rfl ?_ ?_;·repeat' constructor)
    refine pw_draw 9 [39, 40, 41, 42, 43, 44, 45, 46, 47] (by decide +kernel) ?_
    repeat (refine stp rfl ?_ ?_;·repeat' constructor)
    refine zqq rfl (q_idx rfl rfl rfl rfl rfl (by decide) rfl rfl) ?_
    repeat (refine stp rfl ?_ ?_;·repeat' constructor)
    apply qst;exact rfl;exact rfl;exact q_slit rfl rfl rfl rfl rfl rfl rfl rfl rfl rfl (by repeat' constructor) rfl
    repeat (refine stp rfl ?_ ?_;·repeat' constructor)
    refine ps_run (o_appN rfl rfl rfl rfl rfl rfl rfl rfl (by repeat' constructor) (by intro row hr; simp at hr; subst hr; rfl) (by decide) (by decide) ?_)
    repeat (refine stp rfl ?_ ?_;·repeat' constructor)
    refine zsq rfl (q_idx rfl rfl rfl rfl rfl (by decide) rfl rfl) ?_
    repeat (refine stp rfl ?_ ?_;·repeat' constructor)
    apply qst;exact rfl;exact rfl;exact q_call rfl (pair_least) rfl (by repeat' constructor) rfl
    repeat (refine stp rfl ?_ ?_;·repeat' constructor)
    apply qst;exact rfl;exact rfl;exact q_callP rfl (pair_find) rfl (by repeat' constructor) rfl rfl
    repeat (refine stp rfl ?_ ?_;·repeat' constructor)
    refine pw_loop (fun (_ : Unit) => True) (fun _ => [(1, .ptr 1 1 0 0), (2, .ptr 2 1 0 0), (3, .sl [[I 2], [I 1]]), (4, .sl [[.sl []], [.sl []]]), (5, .ptr 5 1 0 0), (8, I (-1)), (9, .ptr 9 ((s.own 9).1 + 2 + 1) 0 0)])
      (fun _ => [(1, 1, ⟨28, 9, [eWork pairW], 2⟩), (2, 1, ⟨67, 3, [[I 0, .nil, .str []]], 2⟩), (5, 1, ⟨67, 3, [[I 2, .als 48 ((s2.own 48).1 + 1) 0 1, .str []]], 2⟩), (9, (s.own 9).1 + 2 + 1, ⟨3, 1, [[I 0]], 2⟩), (48, (s2.own 48).1 + 1, ⟨9, 1, [[.str [97]]], 0⟩)])
      (fun _ => 0) () trivial ⟨rfl, rfl, rfl, rfl, rfl, rfl, rfl, rfl, rfl, rfl, rfl, rfl, trivial⟩ ?_
    intro _ s3 _
    repeat (refine stp rfl ?_ ?_;·repeat' constructor)
    exact ⟨some ((s2.own 48).1 + 1), trivial, Nat.zero_lt_one, rfl, rfl, rfl, rfl, rfl, rfl, rfl, rfl, rfl, rfl, rfl, rfl, trivial⟩
  | some g =>
    repeat (refine stp rfl ?_ ?_;·repeat' constructor)
    exact endc rfl rfl rfl rfl (by repeat' constructor) rfl
end Go.Pv


set_option maxHeartbeats 2000000
namespace Go.Pv
attribute [local irreducible] PWP POps PQuiet PSem XThen XBlock RetPost InlPost
open Go.Proofs
set_option maxRecDepth 20000 in
theorem pair_best : Ret Tryz.prog .shared 29 [.agg (eWork pairW)] (.tup [.agg [I 2, .sl [[.str [97]]], .str []], I 0]) := by
  have h20 := checkWork_ret pairW pair_sane
  rw [pair_work] at h20
  have h78 := tradeBound_ret pairW pair_well tradeW (by decide) (by decide)
  rw [show tradeB pairW tradeW = 2 by decide +kernel] at h78
  refine Ret.of_pwp layOk mixed Go.Proofs.Tryz.func29 rfl (by decide) rfl rfl ?_
  repeat (refine stp rfl ?_ ?_;·repeat' constructor)
  apply qst;exact rfl;exact rfl;exact q_callP rfl (h20) rfl (by repeat' constructor) rfl rfl
  repeat (refine stp rfl ?_ ?_;·repeat' constructor)
  apply qst;exact rfl;exact rfl;exact q_call rfl (pair_longest) rfl (by repeat' constructor) rfl
  repeat (refine stp rfl ?_ ?_;·repeat' constructor)
  refine pw_loop (fun (k : Nat) => k ≤ 1) (fun k => [(1, .ptr 1 1 0 0), (2, .ptr 2 1 0 0), (5, .ptr 5 1 0 0), (18, .sl (pairW.trades.map eTrade)), (19, I 1), (20, I k)])
    (fun _ => [(1, 1, ⟨28, 9, [eWork pairW], 2⟩), (2, 1, ⟨67, 3, [[I 0, .nil, .str []]], 2⟩), (5, 1, ⟨67, 3, [[I 2, .sl [[.str [97]]], .str []]], 2⟩)]) (fun k => 1 - k) 0 (by omega) ⟨rfl, rfl, rfl, rfl, rfl, rfl, rfl, rfl, rfl, trivial⟩ ?_
  intro k s hk
  obtain rfl | rfl : k = 0 ∨ k = 1 := by omega
  · repeat (refine stp rfl ?_ ?_;·repeat' constructor)
    refine zsq rfl (q_idx rfl rfl rfl rfl rfl (by decide) rfl rfl) ?_
    repeat (refine stp rfl ?_ ?_;·repeat' constructor)
    apply qst;exact rfl;exact rfl;exact q_callP rfl (h78) rfl (by repeat' constructor) rfl rfl
    repeat (refine stp rfl ?_ ?_;·repeat' constructor)
    exact ⟨1, by omega, by omega, rfl, rfl, rfl, rfl, rfl, rfl, rfl, rfl, rfl, trivial⟩
  · repeat (refine stp rfl ?_ ?_;·repeat' constructor)
    exact endm rfl (by repeat' constructor) rfl (by repeat' constructor) rfl
set_option maxRecDepth 20000 in
theorem awake_ret : Ret Tryz.prog .shared 6 [] (.bool true) := by
  have h21 := texts2_ret [[97]] [[97]] (by decide)
  rw [decide_eq_true rfl] at h21
  refine Ret.of_pwp layOk mixed Go.Proofs.Tryz.func6 rfl (by decide) rfl rfl ?_
  repeat (refine stp rfl ?_ ?_;·repeat' constructor)
  apply qst;exact rfl;exact rfl;exact q_call rfl (pair_ret) rfl (by repeat' constructor) rfl
  repeat (refine stp rfl ?_ ?_;·repeat' constructor)
  apply qst;exact rfl;exact rfl;exact q_slit rfl rfl rfl rfl rfl rfl rfl rfl rfl rfl (by repeat' constructor) rfl
  repeat (refine stp rfl ?_ ?_;·repeat' constructor)
  apply qst;exact rfl;exact rfl;exact q_callP rfl (pair_cost) rfl (by repeat' constructor) rfl rfl
  repeat (refine stp rfl ?_ ?_;·repeat' constructor)
  apply qst;exact rfl;exact rfl;exact q_call rfl (pair_ret) rfl (by repeat' constructor) rfl
  repeat (refine stp rfl ?_ ?_;·repeat' constructor)
  apply qst;exact rfl;exact rfl;exact q_call rfl (pair_best) rfl (by repeat' constructor) rfl
  repeat (refine stp rfl ?_ ?_;·repeat' constructor)
  apply qst;exact rfl;exact rfl;exact q_slit rfl rfl rfl rfl rfl rfl rfl rfl rfl rfl (by repeat' constructor) rfl
  repeat (refine stp rfl ?_ ?_;·repeat' constructor)
  apply qst;exact rfl;exact rfl;exact q_callP rfl (h21) rfl (by repeat' constructor) rfl rfl
  repeat (refine stp rfl ?_ ?_;·repeat' constructor)
  exact end1b rfl rfl rfl
end Go.Pv


namespace Go.Proofs.YtfnjhhndbgidmaaGreatDoor
open Go Go.ChangeShapes Go.WideShapes Go.ChangeAt Go.RowKit Go.Pv
theorem ownL : ownKnob Tryz.prog.godebug = none := by kernel_rfl
theorem laidB : laidOutB Tryz.prog = true := by kernel_rfl
def laidL : List (String × DataW Unit) := [("math/bits.deBruijn32tab", Rows.laid_math_bits_deBruijn32tab), ("math/bits.deBruijn64tab", Rows.laid_math_bits_deBruijn64tab), ("internal/strconv.uint64pow10", Rows.laid_internal_strconv_uint64pow10)]
theorem laidL_plain (w : World) : laidMetH Tryz.prog laidL w = laidMet Tryz.prog laidL w := MakeChecks.laidMetH_plain _ _ _ (by kernel_rfl)
theorem laidL_met (os : Os) (args : Array Value) : laidMetH Tryz.prog laidL ((World.laidAll Tryz.prog os laidL).forCall (fun _ _ => 0) ⟨#[], args, []⟩).memory := by
  rw [laidL_plain]
  exact laidMet_laidAll _ (by kernel_rfl) (by kernel_rfl)
theorem pow_g : ∃ g t e, Tryz.prog.globalNamed "internal/strconv.uint64pow10" = some g ∧ (Tryz.prog.globals[g]?).map (·.type) = some t ∧ Tryz.prog.underlying t = some (.array 20 e) ∧ Tryz.prog.underlying e = some (.int .u64) ∧ Tryz.prog.cellsOf e = 1 ∧ Tryz.prog.cellsOf t = 20 := by
  refine ⟨(Tryz.prog.globalNamed "internal/strconv.uint64pow10").getD 0, ((Tryz.prog.globals[(Tryz.prog.globalNamed "internal/strconv.uint64pow10").getD 0]?).map (·.type)).getD 0, 205, ?_, ?_, ?_, ?_, ?_, ?_⟩ <;> kernel_rfl
theorem laidL_glob {w : World} (h : laidMetH Tryz.prog laidL w) : Globs.glob w := by
  rw [laidL_plain] at h
  unfold laidL at h
  have h3 := laidMet.tail (laidMet.tail h)
  obtain ⟨g, t, e, h1, h2, h4, h5, h6, h7⟩ := pow_g
  exact Lib.tabIs_of_head (k := .u64) (zs := Lib.pow10Tab) h1 h2 h4 h5 h6 h7 h3
end Go.Proofs.YtfnjhhndbgidmaaGreatDoor

