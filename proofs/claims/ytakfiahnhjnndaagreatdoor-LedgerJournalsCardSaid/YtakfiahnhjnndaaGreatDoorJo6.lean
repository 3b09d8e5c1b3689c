/- Texts of one hand, gathered: LfA, PvRg, PvBa, PvBb, PvBd, LfB, LfC, LcN, LfE, LcO, LfF, PvEnd, PvTk, LfG, LfH, LfI, LfJ, LdL, LfK, LcE, LdM, LfL. -/
import Derived.Test.YtakfiahnhjnndaaGreatDoorJo5
import Derived.Shelf.Strings.Builder1
import Derived.Test.YtakfiahnhjnndaaGreatDoorRows
import Derived.WalkKit
import Derived.ProofKit
import Derived.Handy
import Derived.Lay
import Derived.OpenShut
import Derived.Stop.Joined
import Derived.MakeChecks
import Derived.Stop.LaidErr
import Derived.Stop.Texts
import Derived.Lib.LaidTab
import Derived.Shelf.Vars
import Derived.SizedLaws
set_option linter.unusedSectionVars false
set_option linter.unusedSimpArgs false
set_option linter.unusedVariables false
set_option linter.unnecessarySimpa false
set_option maxHeartbeats 2000000
namespace Go.Pv
attribute [local irreducible] PWP POps PQuiet PSem XThen XBlock RetPost InlPost
open Go.Proofs
def stepC (a : Int) (c : UInt8) : Int := (31 * a + (c.toNat : Int) + 1) % 65521
def sumF (n : Int) (s : Str) : Int := s.foldl stepC n
theorem sumF_app (n : Int) (s t : Str) : sumF n (s ++ t) = sumF (sumF n s) t := List.foldl_append
theorem stepC_range (a : Int) (c : UInt8) : 0 ≤ stepC a c ∧ stepC a c < 65521 := by
  unfold stepC
  omega
theorem sumF_range : ∀ (s : Str) {n : Int}, 0 ≤ n → n < 65521 → 0 ≤ sumF n s ∧ sumF n s < 65521
  | [], _, h0, h1 => ⟨h0, h1⟩
  | c :: s, n, _, _ => sumF_range s (stepC_range n c).1 (stepC_range n c).2
theorem sumF_next {s : Str} {k : Nat} {c : UInt8} (h : s[k]? = some c) (n : Int) : sumF n (s.take (k + 1)) = stepC (sumF n (s.take k)) c := by
  rw [take_snoc h, sumF_app]; rfl
theorem stepC_wrap {a : Int} (h0 : 0 ≤ a) (h1 : a < 65521) (c : UInt8) : (IntKind.wrap .i64 (IntKind.wrap .i64 (IntKind.wrap .i64 (31 * a) + IntKind.wrap .i64 (c.toNat : Int)) + 1)).tmod 65521 = stepC a c := by
  have hc : c.toNat < 256 := c.toNat_lt
  rw [wrap_i64 (n := (c.toNat : Int)) (by omega) (by omega), wrap_i64 (n := 31 * a) (by omega) (by omega), wrap_i64 (n := 31 * a + c.toNat) (by omega) (by omega), wrap_i64 (by omega) (by omega), Int.tmod_eq_emod_of_nonneg (by omega)]
  rfl
theorem checksum_ret (n : Int) (s : Str) (h0 : 0 ≤ n) (h1 : n < 65521) (hs : s.length ≤ 1000000) : Ret Tryz.prog .shared 127 [I n, .str s] (I (sumF n s)) := by
  have hll : ((s.map eC).length : Int) = s.length := by simp
  refine Ret.of_pwp layOk mixed Go.Proofs.Tryz.func127 rfl (by decide) rfl rfl ?_
  repeat (refine stp rfl ?_ ?_;·repeat' constructor)
  apply qst;exact rfl;exact rfl;exact q_s2b rfl rfl rfl rfl rfl rfl
  repeat (refine stp rfl ?_ ?_;·repeat' constructor)
  refine pw_loop (fun k => k ≤ s.length) (fun k => [(0, I (sumF n (s.take k))), (8, .fsl (s.map eC)), (9, I (s.map eC).length), (10, I k)]) (fun _ => []) (fun k => s.length - k) 0 (Nat.zero_le _) ⟨rfl, rfl, rfl, rfl, trivial⟩ ?_
  intro k st hk
  have hr := sumF_range (s.take k) h0 h1
  repeat (refine stp rfl ?_ ?_;·repeat' constructor)
  refine pw_cond rfl (fun h => ?_) (fun h => ?_)
  · have hlt : k < s.length := by have := of_decide_eq_true h; omega
    clear h
    obtain ⟨c, hx⟩ := get_lt hlt
    repeat (refine stp rfl ?_ ?_;·repeat' constructor)
    apply qst;exact rfl;exact rfl;exact q_idxmF rfl rfl rfl rfl rfl (by omega) hx rfl
    repeat (refine stp rfl ?_ ?_;·repeat' constructor)
    refine ps_v rfl (show ¬ (65521 : Int) = 0 by decide) ?_
    rw [stepC_wrap hr.1 hr.2 c, ← sumF_next hx]
    repeat (refine stp rfl ?_ ?_;·repeat' constructor)
    exact ⟨k + 1, by omega, by omega, rfl, rfl, rfl, i64_next (by omega) (by omega), trivial⟩
  · have hz : k = s.length := by have := of_decide_eq_false h; omega
    subst hz
    repeat (refine stp rfl ?_ ?_;·repeat' constructor)
    exact end1i rfl rfl (by rw [List.take_length])
theorem checked_ref (n : Int) (s : Str) (h0 : 0 ≤ n) (h1 : n < 65521) (hs : s.length ≤ 1000000) : Ret Tryz.prog .shared 77 [I n, .str s] (I (sumF n s)) := by
  refine Ret.of_pwp layOk mixed Go.Proofs.Tryz.func77 rfl (by decide) rfl rfl ?_
  repeat (refine stp rfl ?_ ?_;·repeat' constructor)
  refine pw_loop (fun k => k ≤ s.length) (fun k => [(0, I (sumF n (s.take k))), (1, .str s), (5, I k)]) (fun _ => []) (fun k => s.length - k) 0 (Nat.zero_le _) ⟨rfl, rfl, rfl, trivial⟩ ?_
  intro k st hk
  have hr := sumF_range (s.take k) h0 h1
  repeat (refine stp rfl ?_ ?_;·repeat' constructor)
  refine pw_cond rfl (fun h => ?_) (fun h => ?_)
  · have hlt : k < s.length := by have := of_decide_eq_true h; omega
    clear h
    obtain ⟨c, hx⟩ := get_lt hlt
    have hci : s.getD ((k : Int).toNat) 0 = c := by rw [Int.toNat_natCast, List.getD_eq_getElem?_getD, hx]; rfl
    repeat (refine stp rfl ?_ ?_;·repeat' constructor)
    apply qst;exact rfl;exact rfl;exact QOp.v rfl (show 0 ≤ (k : Int) ∧ (k : Int) < (s.length : Nat) by omega)
    rw [hci]
    repeat (refine stp rfl ?_ ?_;·repeat' constructor)
    refine ps_v rfl (show ¬ (65521 : Int) = 0 by decide) ?_
    rw [stepC_wrap hr.1 hr.2 c, ← sumF_next hx]
    repeat (refine stp rfl ?_ ?_;·repeat' constructor)
    exact ⟨k + 1, by omega, by omega, rfl, rfl, i64_next (by omega) (by omega), trivial⟩
  · have hz : k = s.length := by have := of_decide_eq_false h; omega
    subst hz
    repeat (refine stp rfl ?_ ?_;·repeat' constructor)
    exact end1i rfl rfl (by rw [List.take_length])
def lineT (n : Int) (t : Str) : Str := t ++ [32, 35] ++ Lib.itoa (sumF n t) ++ [10]
set_option maxRecDepth 20000 in
theorem line_ret (p : SPost) (n : Int) (hc : checkE p = 0) (h0 : 0 ≤ n) (h1 : n < 65521) : Ret Tryz.prog .shared 76 [.agg (ePost p), I n] (.tup [.str (lineT n (textP p)), I (sumF n (textP p))]) := by
  have hw := written_ret p hc
  have hl := text_short hc
  have hs := checksum_ret n (textP p) h0 h1 (by omega)
  have hr := sumF_range (textP p) h0 h1
  have hi := itoa_ret (sumF n (textP p)) (by omega) (by omega)
  have hi2 : (Lib.itoa (sumF n (textP p))).length ≤ 20 := by have := itoa_short (v := sumF n (textP p)) (by omega) (by omega); omega
  rw [lineT]
  generalize textP p = t at *
  generalize sumF n t = m at *
  generalize Lib.itoa m = q at *
  refine Ret.of_pwp layOk mixed Go.Proofs.Tryz.func76 rfl (by decide) rfl rfl ?_
  repeat (refine stp rfl ?_ ?_;·repeat' constructor)
  apply qst;exact rfl;exact rfl;exact q_callP rfl (hw) rfl (by repeat' constructor) rfl rfl
  repeat (refine stp rfl ?_ ?_;·repeat' constructor)
  apply qst;exact rfl;exact rfl;exact q_callP rfl (hs) rfl (by repeat' constructor) rfl rfl
  repeat (refine stp rfl ?_ ?_;·repeat' (first|exact True.intro|exact rfl|refine And.intro ?_ ?_))
  refine ps_v rfl ?_ ?_
  · simp only [List.length_append, List.length_cons, List.length_nil]; omega
  repeat (refine stp rfl ?_ ?_;·repeat' (first|exact True.intro|exact rfl|refine And.intro ?_ ?_))
  apply qst;exact rfl;exact rfl;exact q_callP rfl (hi) rfl (by repeat' constructor) rfl rfl
  repeat (refine stp rfl ?_ ?_;·repeat' (first|exact True.intro|exact rfl|refine And.intro ?_ ?_))
  refine ps_v rfl ?_ ?_
  · simp only [List.length_append, List.length_cons, List.length_nil]; omega
  repeat (refine stp rfl ?_ ?_;·repeat' (first|exact True.intro|exact rfl|refine And.intro ?_ ?_))
  refine ps_v rfl ?_ ?_
  · simp only [List.length_append, List.length_cons, List.length_nil]; omega
  repeat (refine stp rfl ?_ ?_;·repeat' (first|exact True.intro|exact rfl|refine And.intro ?_ ?_))
  exact end2 rfl rfl rfl rfl rfl trivial trivial rfl
end Go.Pv


namespace Go.Pv
open Go.RowKit
variable [Globs]
def bindP : List (Tmp × PV) → (Nat → PV) → Nat → PV
  | [], f => f
  | (p, v) :: l, f => bindP l fun r => bif Nat.beq r p then v else f r
theorem bind_spec {E : Env} : ∀ (ps : List Tmp) (cs : List PV) (vs : List Value) (f : Nat → PV) (tmps : Array Value), ps.length = cs.length → cs.length = vs.length → (∀ p ∈ ps, p < tmps.size) → (∀ t, Rep E (f t) (tmps.getD t undef)) →
    (∀ (i : Nat) (c : PV) (v : Value), cs[i]? = some c → vs[i]? = some v → Rep E c v) →
    ((ps.zip vs).foldl (fun t q => t.setIfInBounds q.1 q.2) tmps).size = tmps.size ∧ ∀ t, Rep E (bindP (ps.zip cs) f t) (((ps.zip vs).foldl (fun t q => t.setIfInBounds q.1 q.2) tmps).getD t undef)
  | [], [], [], f, tmps, _, _, _, hf, _ => ⟨rfl, hf⟩
  | p :: ps, c :: cs, v :: vs, f, tmps, h1, h2, hp, hf, hd => by
    have hp0 : p < tmps.size := hp p (.head _)
    have ih := bind_spec ps cs vs (fun r => bif Nat.beq r p then c else f r) (tmps.setIfInBounds p v) (by simpa using h1) (by simpa using h2) (fun q hq => by simpa using hp q (.tail _ hq)) (fun t => by
      by_cases ht : t = p
      · subst ht
        have e1 : (tmps.setIfInBounds t v).getD t undef = v := by simp [hp0]
        rw [e1]
        simpa using hd 0 c v rfl rfl
      · have e1 : (tmps.setIfInBounds p v).getD t undef = tmps.getD t undef := by simp [Array.getElem?_setIfInBounds_ne (Ne.symm ht)]
        rw [e1, nbeq_ne ht]
        exact hf t) (fun i c' v' e1 e2 => hd (i + 1) c' v' (by simpa using e1) (by simpa using e2))
    refine ⟨?_, fun t => ?_⟩
    · rw [List.zip_cons_cons, List.foldl_cons, ih.1]; simp
    · rw [List.zip_cons_cons, List.zip_cons_cons, List.foldl_cons]
      exact ih.2 t
  | [], _ :: _, _, _, _, h, _, _, _, _ => by simp at h
  | [], [], _ :: _, _, _, _, h, _, _, _ => by simp at h
  | _ :: _, [], _, _, _, h, _, _, _, _ => by simp at h
  | _ :: _, _ :: _, [], _, _, _, h, _, _, _ => by simp at h
def rndC (ps : Array Tmp) (asg body : Code) (st : LoopState) (pend : Option Code) (regs : Nat → PV) : Cont := ⟨0, 0, [[.lbl ps asg body st pend regs]], 4⟩
def RoundPost (s : St) (kL g : Nat) (ps : Array Tmp) (asg body : Code) (regs : Nat → PV) (d : Nat) (K : St → Prop) : Exit → St → Prop
  | .normal, s' => s'.own kL = (g, some (rndC ps asg body .busy none regs)) ∧ K (({ reg := s.reg, own := (s'.setOwn kL g (some (rndC ps asg body .ready none regs))).own } : St).putR d (.bool true))
  | .exit id, s' => s'.own kL = (g, some (rndC ps asg body .busy none regs)) ∧ K (({ reg := s.reg, own := (s'.setOwn kL g (some (rndC ps asg body .done (some (.exit id)) regs))).own } : St).putR d (.bool false))
  | .ret, s' => s'.own kL = (g, some (rndC ps asg body .busy none regs)) ∧ K (({ reg := s.reg, own := (s'.setOwn kL g (some (rndC ps asg body .done (some .ret) regs))).own } : St).putR d (.bool false))
  | _, _ => False
def RangePost (s : St) (kL g : Nat) (ps : Array Tmp) (asg body : Code) (Q : Exit → St → Prop) : Exit → St → Prop
  | .normal, s' | .ret, s' => (s'.own kL = (g, some (rndC ps asg body .ready none s.reg)) ∧ Q .normal { reg := s.reg, own := (s'.setOwn kL (g + 1) none).own }) ∨
      (∃ id, s'.own kL = (g, some (rndC ps asg body .done (some (.exit id)) s.reg)) ∧ Q (.exit id) { reg := s.reg, own := (s'.setOwn kL (g + 1) none).own }) ∨
      (s'.own kL = (g, some (rndC ps asg body .done (some .ret) s.reg)) ∧ Q .ret { reg := s.reg, own := (s'.setOwn kL (g + 1) none).own })
  | _, _ => False
section
variable {P : Program} {L : Lay} {C : Ctx} {γ : Nat → Option Nat} {s : St} {a : Act} {w : World}
theorem Sim.yl_at (_h : Sim C γ s a w) {k g : Nat} {c : Cont} {v : Value} (hr : Rep (envOf C γ s w) (.yl k g) v) (ho : s.own k = (g, some c)) : ∃ b, γ k = some b ∧ v = .func (.yield b) #[] #[] := by
  cases hr with
  | d h => cases h
  | yl hg hl => exact (hl (by simp [envOf, ho]) ⟨γ k, c.ty, c.sz, c.rows.length⟩ (by simp [envOf, ho])).2
theorem Sim.turnLoop {s' : St} {a' : Act} {w3 : World} {C2 : Ctx} {γ' : Nat → Option Nat} (hs' : Sim C2 γ' s' a' w3) {kL g b : Nat} {ps : Array Tmp} {asg body : Code} {regs : Nat → PV} {st : LoopState} {pend : Option Code} (ho : s'.own kL = (g, some (rndC ps asg body st pend regs))) (hb : γ' kL = some b) :
    ∃ rec : Loop, w3.heap[b]? = some (.loop rec) ∧ rec.state = st ∧ rec.pending = pend ∧ ∀ (st2 : LoopState) (pend2 : Option Code), Sim C2 γ' (s'.setOwn kL g (some (rndC ps asg body st2 pend2 regs))) a' (w3.putObj b (.loop { rec with state := st2, pending := pend2 })) := by
  have hit := (hs'.sites kL _ (by rw [ho])).it b hb rfl (show (3:Nat) ≤ 4 by decide)
  obtain ⟨rec, regs', h1, h2, h3', h3, h4, h5⟩ : LoopAt (envOf C2 γ' s' w3) b (rndC ps asg body st pend regs).rows := hit
  have h1 : w3.heap[b]? = some (.loop rec) := h1
  simp only [rndC, List.cons.injEq, PV.lbl.injEq, and_true] at h2
  obtain ⟨e1, e2, e3, e4, e5, e6⟩ := h2
  subst e6
  refine ⟨rec, h1, e4.symm, e5.symm, fun st2 pend2 => ?_⟩
  obtain ⟨hp, hnew⟩ := put_set (o' := .loop { rec with state := st2, pending := pend2 }) h1
  have hnc : ∀ cur T f, w3.heap[b]? ≠ some (.cells cur T f) := fun cur T f e => by rw [h1] at e; cases e
  have hle := put_le (c' := rndC ps asg body st2 pend2 regs) hs' ho hb hnc hp rfl rfl (Nat.le_refl _)
  refine put_sim hs' ho hb hnc hp rfl rfl (Nat.le_refl _) ⟨(fun e => by cases e), (fun b' _ _ hk => by simp [rndC] at hk), fun b' hb' _ _ => ?_, (fun b' _ hz => by simp [rndC] at hz)⟩
  cases hb'
  show LoopAt _ _ _
  exact ⟨{ rec with state := st2, pending := pend2 }, regs, hnew, by simp [rndC, ← e1, ← e2, ← e3], h3', h3, h4, fun t => (h5 t).mono hle⟩
theorem sm_yield {o : Oper} {args : Array Operand} {tys : Array TypeId} {tf d kL g : Nat} {ps : Array Tmp} {asg body : Code} {regs : Nat → PV} {K : St → Prop} (ho : o.op = .call ⟨.value (.tmp tf), args, tys⟩) (hd : o.dst = some d) (hy : s.reg tf = .yl kL g)
    (hown : s.own kL = (g, some (rndC ps asg body .ready none regs))) (hps : args.size = ps.size)
    (h : PWP P L asg (XThen (fun s2 => s2.own kL = (g, some (rndC ps asg body .ready none regs)) ∧ PWP P L body (RoundPost s kL g ps asg body regs d K) { reg := s2.reg, own := (s2.setOwn kL g (some (rndC ps asg body .busy none regs))).own }) (fun _ _ => False)) { reg := bindP (ps.toList.zip (args.toList.map s.ev)) regs, own := s.own }) : SmI P L s o K := by
  intro ro n C a w Q hG ⟨γ, hs⟩ hN hQ
  have hyr := hs.ev (.tmp tf)
  rw [show s.ev (.tmp tf) = .yl kL g from hy] at hyr
  obtain ⟨b, hb, hv⟩ := hs.yl_at hyr hown
  have hit := (hs.sites kL _ (by rw [hown])).it b hb rfl (show (3:Nat) ≤ 4 by decide)
  obtain ⟨rec, regs', h1, h2, h3', h3, h4, h5⟩ : LoopAt (envOf C γ s w) b (rndC ps asg body .ready none regs).rows := hit
  have h1 : w.heap[b]? = some (.loop rec) := h1
  simp only [rndC, List.cons.injEq, PV.lbl.injEq, and_true] at h2
  obtain ⟨e1, e2, e3, e4, e5, e6⟩ := h2
  subst e6
  refine ⟨fun _ _ => trivial, ?_⟩
  have hexec : (o.semAt (Fr ro).round a.eval).run P w = .ok (.round b rec.fn ((rec.params.zip (args.map a.eval)).foldl (fun tmps (t, a) => tmps.setIfInBounds t a) rec.tmps) rec.assign rec.body) w := by
    rw [Oper.semAt_eq _ _ _ (fun c e => by rw [ho] at e; cases e)]
    simp only [execOp, ho, resolve, hv, Deferred.ofValue, Sem.run_bind, Sem.run_pure, Result.andThen_ok, invoke]
    rw [show (#[] ++ args.map a.eval : Array Value) = args.map a.eval by simp]
    exact run_yield h1 (by rw [← e1]; simpa using hps)
  rw [hexec, Oper.uponIn_round]
  refine ⟨fun e => by simp [Fr, Fence.wide] at e, ?_⟩
  refine roundIn_of_wpIn trivial ?_
  rw [← e2, ← e3]
  rw [← e2] at h3'
  rw [← e3] at h3
  let C2 : Ctx := ⟨C.B, C.X, C.w0, rec.tmps.size, fun c v => C.keep c v ∨ ∃ t, c = s.reg t ∧ v = a.tmps.getD t undef, []⟩
  have hG2 : Good P L C2 := ⟨hG.lay, hG.x, hG.mixed, hG.glob⟩
  have hfold : (rec.params.zip (args.map a.eval)).foldl (fun tmps (t, a) => tmps.setIfInBounds t a) rec.tmps = (ps.toList.zip (args.toList.map a.eval)).foldl (fun t q => t.setIfInBounds q.1 q.2) rec.tmps := by
    rw [← e1, ← Array.foldl_toList, Array.toList_zip, Array.toList_map]
  obtain ⟨b1, b2⟩ := bind_spec (E := envOf C γ s w) ps.toList (args.toList.map s.ev) (args.toList.map a.eval) regs rec.tmps (by simpa using hps.symm) (by simp)
    (fun p hp => by rw [e1] at hp; simpa using List.all_eq_true.1 h4 p hp) (fun t => h5 t) (fun i c v q1 q2 => by
      rw [List.getElem?_map] at q1 q2
      cases hx : args.toList[i]? with
      | none => rw [hx] at q1; simp at q1
      | some x => rw [hx] at q1 q2; simp at q1 q2; subst q1; subst q2; exact hs.ev x)
  rw [hfold]
  have hsim2 : SimE C2 { reg := bindP (ps.toList.zip (args.toList.map s.ev)) regs, own := s.own } { tmps := (ps.toList.zip (args.toList.map a.eval)).foldl (fun t q => t.setIfInBounds q.1 q.2) rec.tmps, defers := [] } w := by
    refine ⟨γ, rfl, b1, b2, hs.sites, hs.inj, hs.base, hs.below, hs.top, ?_⟩
    rintro c v (hk | ⟨t, rfl, rfl⟩)
    · exact hs.kept c v hk
    · exact hs.regs t
  rw [fr_round]
  refine wpIn_mono (PWP.soundX (X := fun A B => A = B) (fun _ => rfl) (fun h k => h.trans k) (fun h => by subst h; exact .refl _) (r := false) (fun h => by cases h) asg _ C2 _ _ _ hG2 h3' (fun _ hq => hq) hsim2 h) ?_
  rintro e aA wA ⟨C', sA, rfl, ⟨γA, hsA⟩, hq⟩
  have he : e = .normal := by
    cases e
    case normal => rfl
    all_goals exact absurd hq id
  subst he
  obtain ⟨hownA, hbodyA⟩ := hq
  show ∃ w₂, _
  have hkyA := hsA.kept (.yl kL g) (.func (.yield b) #[] #[]) (.inr ⟨tf, hy.symm, hv.symm⟩)
  obtain ⟨bA, hbA, hvA⟩ := hsA.yl_at hkyA hownA
  have hbb : b = bA := by injection hvA with q; injection q with q
  subst hbb
  obtain ⟨rec2, r1, r2, r3, r4⟩ := hsA.turnLoop hownA hbA
  have hs1 := r4 .busy none
  have hw2 : wA.putObj b (.loop { rec2 with state := .busy, pending := none }) = wA.putObj b (.loop { rec2 with state := .busy }) := by
    have : ({ rec2 with state := .busy, pending := none } : Loop) = { rec2 with state := .busy } := by rw [← r3]
    rw [this]
  rw [hw2] at hs1
  refine ⟨_, run_beginRound r1 r2, ?_⟩
  have hsimB : SimE C2 { reg := sA.reg, own := (sA.setOwn kL g (some (rndC ps asg body .busy none regs))).own } aA (wA.putObj b (.loop { rec2 with state := .busy })) := ⟨γA, hs1⟩
  refine wpIn_mono (PWP.soundX (X := fun A B => A = B) (fun _ => rfl) (fun h k => h.trans k) (fun h => by subst h; exact .refl _) (r := false) (fun h => by cases h) body _ C2 _ _ _ hG2 h3 (fun _ hq => hq) hsimB hbodyA) ?_
  have fin : ∀ {s' : St} {a' : Act} {w3 : World} (jump : Option Code) (st : LoopState), st = (if jump.isNone then .ready else .done) → SimE C2 s' a' w3 → s'.own kL = (g, some (rndC ps asg body .busy none regs)) →
      K (({ reg := s.reg, own := (s'.setOwn kL g (some (rndC ps asg body st jump regs))).own } : St).putR d (.bool jump.isNone)) →
      ∃ v w4, (Instr.endRound b jump).run P w3 = .ok v w4 ∧ ∃ s'', SimE C s'' (a.put o.dst v) w4 ∧ K s'' := by
    rintro s' a' w3 jump st rfl ⟨γ', hs'⟩ hown' hk
    have hky := hs'.kept (.yl kL g) (.func (.yield b) #[] #[]) (.inr ⟨tf, hy.symm, hv.symm⟩)
    obtain ⟨b', hb', hvb⟩ := hs'.yl_at hky hown'
    have hbb : b' = b := by injection hvb with q; injection q with q; exact q.symm
    subst hbb
    obtain ⟨rec3, q1, q2, q3, q4⟩ := hs'.turnLoop hown' hb'
    have hs4 := q4 (if jump.isNone then .ready else .done) jump
    refine ⟨_, _, run_endRound jump q1, _, ⟨γ', ?_⟩, hk⟩
    have hback : Sim C γ' { reg := s.reg, own := (s'.setOwn kL g (some (rndC ps asg body (if jump.isNone then .ready else .done) jump regs))).own } a (w3.putObj b' (.loop { rec3 with state := if jump.isNone then .ready else .done, pending := jump })) :=
      ⟨hs.defers, hs.size, fun r => hs4.kept _ _ (.inr ⟨r, rfl, rfl⟩), hs4.sites, hs4.inj, hs4.base, hs4.below, hs4.top, fun c v hk => hs4.kept c v (.inl hk)⟩
    rw [hd]
    rw [hd] at hN
    exact hback.put (d := some d) hN (.d (.bool _))
  rintro e a' w3 ⟨C', s', rfl, h', hq⟩
  cases e
  case normal => exact fin none .ready rfl h' hq.1 hq.2
  case ret => exact fin (some .ret) .done rfl h' hq.1 hq.2
  case exit id => exact fin (some (.exit id)) .done rfl h' hq.1 hq.2
  all_goals exact hq.elim
theorem pw_range {Q : Exit → St → Prop} {g : Operand} {ps : Array Tmp} {assign body : Code} (h : RangeS P L g ps assign body Q s) : PWP P L (.rangeFunc g ps assign body) Q s := Gh.of h
theorem range_inl {Q : Exit → St → Prop} {g : Operand} {gf : FuncId} {caps : List PV} {fn : Func} {bodyI : Code} {ps : Array Tmp} {asg body : Code} (kL : Nat) {gn : Nat} {oc : Option Cont} (hg : s.ev g = .clo gf caps) (hf : P.funcs[gf]? = some fn) (hb : fn.body = some bodyI)
    (hn : (fn.name == "runtime.NumGoroutine") = false) (hlen : Nat.ble (1 + caps.length) fn.ntmps = true) (hc : codeOk fn.ntmps bodyI = true) (hres : fn.results = #[]) (hown : s.own kL = (gn, oc))
    (h : PWP P L bodyI (RangePost s kL (gn + 1) ps asg body Q) { reg := fun t => ((.yl kL (gn + 1)) :: caps).getD t (.raw undef), own := (s.setOwn kL (gn + 1) (some (rndC ps asg body .ready none s.reg))).own }) : RangeS P L g ps asg body Q s := by
  intro n C a w hG ⟨γ, hs⟩ hcode hQ
  simp only [codeB, Bool.true_and, Bool.and_eq_true] at hcode
  obtain ⟨⟨hpsN, hasg⟩, hbody⟩ := hcode
  refine wpIn_rangeFunc fun fnid _ => ?_
  have hge := hs.ev g
  rw [hg] at hge
  obtain ⟨vs, hv, hl, hd⟩ := hge.clo_inv
  have hcal : callable P gf := ⟨fn, hf, hn, by simp [hb]⟩
  obtain ⟨rec, hrec⟩ : ∃ rec : Loop, rec = { state := .ready, pending := none, fn := fnid, tmps := a.tmps, params := ps, assign := asg, body := body, defers := w.heap.size } := ⟨_, rfl⟩
  refine ⟨w.heap.size + 1, [mark w.heap.size], (w.alloc (.deferred (some []))).alloc (.loop rec), { target := .fn (.func gf) vs.toArray, args := #[.func (.yield (w.heap.size + 1)) #[] #[]] }, (w.alloc (.deferred (some []))).alloc (.loop rec), gf,
    #[Value.func (.yield (w.heap.size + 1)) #[] #[]] ++ vs.toArray, (w.alloc (.deferred (some []))).alloc (.loop rec), by rw [hrec]; exact run_enterLoop_outer _ _ _ _ _, ?_, fun _ _ => trivial, ?_, fun e => by simp [Fr, Fence.wide] at e, ?_⟩
  · simp only [resolve, hv]
    simp [go_sem]
  · simp only [invoke]
    exact run_callFunc hcal _
  refine callsIn_of_wp hf hb trivial ?_
  have hbel : Below w.heap.size w (w.alloc (.deferred (some []))) := (Below.refl _ w).alloc (Nat.le_refl _) _
  have hD := hs.ext hbel
  have hsz : (w.alloc (.deferred (some []))).heap.size = w.heap.size + 1 := by simp
  have hT : Turn C γ s (w.alloc (.deferred (some []))) ((w.alloc (.deferred (some []))).alloc (.loop rec)) kL (some (w.alloc (.deferred (some []))).heap.size) := Turn.alloc _ kL
  have hle := hT.le hD (rndC ps asg body .ready none s.reg)
  have hfin : s.fin kL (rndC ps asg body .ready none s.reg) = s.setOwn kL (gn + 1) (some (rndC ps asg body .ready none s.reg)) := by rw [St.fin, hown]
  have hs1 := hT.sim (c := rndC ps asg body .ready none s.reg) hD ⟨(fun e => by cases e), (fun b' _ _ hk => by simp [rndC] at hk), fun b' hb' _ _ => by
    cases hb'
    show LoopAt _ _ _
    refine ⟨rec, s.reg, heap_alloc_at _ _, by rw [hrec]; rfl, by rw [hrec]; simpa [hs.size] using hasg, by rw [hrec]; simpa [hs.size] using hbody, by rw [hrec]; simpa [hs.size] using hpsN, fun t => ?_⟩
    rw [show rec.tmps = a.tmps by rw [hrec]]; exact (hD.regs t).mono hle, (fun b' _ hz => by simp [rndC] at hz)⟩
  rw [hfin, hsz] at hs1
  rw [hfin, hsz] at hle
  have hDobj : ((w.alloc (.deferred (some []))).alloc (.loop rec)).heap[w.heap.size]? = some (.deferred (some [])) := by
    rw [Below.heap_alloc _ _ _ (by simp)]
    exact heap_alloc_at w _
  have hDok : okOf C (upg γ kL (some (w.heap.size + 1))) (s.setOwn kL (gn + 1) (some (rndC ps asg body .ready none s.reg))) ((w.alloc (.deferred (some []))).alloc (.loop rec)) w.heap.size := by
    refine ⟨by simp; omega, fun hx => ?_, fun k c hk hb' => ?_⟩
    · have := hG.x _ hx; have := hs.top; omega
    · by_cases hkk : k = kL
      · subst hkk
        rw [upg_same] at hb'
        injection hb' with q; omega
      · rw [setOwn_ne hkk] at hk
        rw [upg_ne hkk] at hb'
        have := (hs.base k c _ hk hb').2; omega
  let C1 : Ctx := ⟨C.B, C.X, C.w0, fn.ntmps, fun c v => C.keep c v ∨ (∃ t, c = s.reg t ∧ v = a.tmps.getD t undef) ∨ (c = .dfd ∧ v = .pointer (some ⟨w.heap.size, 0, none⟩)) ∨ (c = .yl kL (gn + 1) ∧ v = .func (.yield (w.heap.size + 1)) #[] #[]), []⟩
  have hG1 : Good P L C1 := ⟨hG.lay, hG.x, hG.mixed, hG.glob⟩
  have hyl : Rep (envOf C (upg γ kL (some (w.heap.size + 1))) (s.setOwn kL (gn + 1) (some (rndC ps asg body .ready none s.reg))) ((w.alloc (.deferred (some []))).alloc (.loop rec))) (.yl kL (gn + 1)) (.func (.yield (w.heap.size + 1)) #[] #[]) := by
    refine .yl (by simp [envOf, setOwn_same]) fun _ l hl => ?_
    simp only [envOf, setOwn_same, upg_same, Option.map_some, Option.some.injEq] at hl
    subst hl
    exact ⟨rfl, _, rfl, rfl⟩
  have hlen' : 1 + vs.length ≤ fn.ntmps := by rw [← hl]; simpa using hlen
  have hargs : ∀ t, Rep (envOf C (upg γ kL (some (w.heap.size + 1))) (s.setOwn kL (gn + 1) (some (rndC ps asg body .ready none s.reg))) ((w.alloc (.deferred (some []))).alloc (.loop rec))) (((.yl kL (gn + 1)) :: caps).getD t (.raw undef))
      ((#[Value.func (.yield (w.heap.size + 1)) #[] #[]] ++ vs.toArray ++ Array.replicate (fn.ntmps - (#[Value.func (.yield (w.heap.size + 1)) #[] #[]] ++ vs.toArray).size) undef).getD t undef) := by
    intro t
    cases t with
    | zero =>
      have e2 : (#[Value.func (.yield (w.heap.size + 1)) #[] #[]] ++ vs.toArray ++ Array.replicate (fn.ntmps - (#[Value.func (.yield (w.heap.size + 1)) #[] #[]] ++ vs.toArray).size) undef).getD 0 undef = Value.func (.yield (w.heap.size + 1)) #[] #[] := by
        simp [Array.getElem?_append]
      rw [e2]; exact hyl
    | succ t =>
      rcases Nat.lt_or_ge t vs.length with hlt | hge
      · have hlt' : t < caps.length := by omega
        have e1 : ((PV.yl kL (gn + 1)) :: caps).getD (t + 1) (.raw undef) = caps[t] := by simp [hlt']
        have e2 : (#[Value.func (.yield (w.heap.size + 1)) #[] #[]] ++ vs.toArray ++ Array.replicate (fn.ntmps - (#[Value.func (.yield (w.heap.size + 1)) #[] #[]] ++ vs.toArray).size) undef).getD (t + 1) undef = vs[t] := by
          rw [Array.getD_eq_getD_getElem?, Array.getElem?_append_left (by simp; omega), Array.getElem?_append_right (by simp)]
          simp [hlt]
        rw [e1, e2]
        exact (hd t caps[t] vs[t] (List.getElem?_eq_getElem hlt') (List.getElem?_eq_getElem hlt)).mono ((envLe_ext hbel hs.base).trans' hle)
      · have e1 : ((PV.yl kL (gn + 1)) :: caps).getD (t + 1) (.raw undef) = .raw undef := by simp [List.getElem?_eq_none (by omega : caps.length ≤ t)]
        have e2 : (#[Value.func (.yield (w.heap.size + 1)) #[] #[]] ++ vs.toArray ++ Array.replicate (fn.ntmps - (#[Value.func (.yield (w.heap.size + 1)) #[] #[]] ++ vs.toArray).size) undef).getD (t + 1) undef = undef := by
          rw [Array.getD_eq_getD_getElem?, Array.getElem?_append_right (by simp; omega)]
          rcases Nat.lt_or_ge (t + 1 - (#[Value.func (.yield (w.heap.size + 1)) #[] #[]] ++ vs.toArray).size) (fn.ntmps - (#[Value.func (.yield (w.heap.size + 1)) #[] #[]] ++ vs.toArray).size) with h1 | h1
          · rw [Array.getElem?_replicate, if_pos h1]; rfl
          · rw [Array.getElem?_eq_none (by simpa using h1)]; rfl
        rw [e1, e2]
        exact .d (.raw _)
  have hsim : SimE C1 { reg := fun t => ((.yl kL (gn + 1)) :: caps).getD t (.raw undef), own := (s.setOwn kL (gn + 1) (some (rndC ps asg body .ready none s.reg))).own }
      { tmps := #[Value.func (.yield (w.heap.size + 1)) #[] #[]] ++ vs.toArray ++ Array.replicate (fn.ntmps - (#[Value.func (.yield (w.heap.size + 1)) #[] #[]] ++ vs.toArray).size) undef, defers := [] } ((w.alloc (.deferred (some []))).alloc (.loop rec)) := by
    refine ⟨upg γ kL (some (w.heap.size + 1)), rfl, by simp [C1]; omega, hargs, hs1.sites, hs1.inj, hs1.base, hs1.below, hs1.top, ?_⟩
    rintro c v (hk | ⟨t, rfl, rfl⟩ | ⟨rfl, rfl⟩ | ⟨rfl, rfl⟩)
    · exact hs1.kept c v hk
    · exact hs1.regs t
    · exact .dfd hDok hDobj
    · exact hyl
  refine wpIn_mono (PWP.soundX (X := fun A B => A = B) (fun _ => rfl) (fun h k => h.trans k) (fun h => by subst h; exact .refl _) (r := false) (fun h => by cases h) bodyI _ C1 _ _ _ hG1 hc (fun _ hq => hq) hsim h) ?_
  have fin : ∀ {s' : St} {a' : Act} {w3 : World} (pend : Option Code) (st : LoopState), st ≠ .busy → SimE C1 s' a' w3 → s'.own kL = (gn + 1, some (rndC ps asg body st pend s.reg)) →
      ∃ w4, (Instr.endLoop (w.heap.size + 1)).run P w3 = .ok pend w4 ∧ ∃ C4, Ext C C4 ∧ SimE C4 { reg := s.reg, own := (s'.setOwn kL (gn + 1 + 1) none).own } { a with defers := [mark w.heap.size] ++ a.defers } w4 := by
    rintro s' a' w3 pend st hst ⟨γ', hs'⟩ hown'
    have hky := hs'.kept (.yl kL (gn + 1)) (.func (.yield (w.heap.size + 1)) #[] #[]) (.inr (.inr (.inr ⟨rfl, rfl⟩)))
    obtain ⟨b', hb', hvb⟩ := hs'.yl_at hky hown'
    have hbb : b' = w.heap.size + 1 := by injection hvb with q; injection q with q; exact q.symm
    subst hbb
    obtain ⟨rec3, q1, q2, q3, q4⟩ := hs'.turnLoop hown' hb'
    have hs4 := q4 .exhausted pend
    have hw4 : w3.putObj (w.heap.size + 1) (.loop { rec3 with state := .exhausted, pending := pend }) = w3.putObj (w.heap.size + 1) (.loop { rec3 with state := .exhausted }) := by
      have : ({ rec3 with state := .exhausted, pending := pend } : Loop) = { rec3 with state := .exhausted } := by rw [← q3]
      rw [this]
    rw [hw4] at hs4
    refine ⟨_, by rw [← q3]; exact run_endLoop q1 (by rw [q2]; exact hst), ?_⟩
    obtain ⟨hs5, _, _⟩ := hs4.drop hG1.x (setOwn_same s' kL (gn + 1) _)
    have hoo : ((s'.setOwn kL (gn + 1) (some (rndC ps asg body .exhausted pend s.reg))).setOwn kL (gn + 1 + 1) none).own = (s'.setOwn kL (gn + 1 + 1) none).own := by
      funext r
      by_cases hr : r = kL
      · subst hr; rw [setOwn_same, setOwn_same]
      · rw [setOwn_ne hr, setOwn_ne hr, setOwn_ne hr]
    have key : ∀ ow, ow = (s'.setOwn kL (gn + 1 + 1) none).own → Sim C1 γ' { reg := s'.reg, own := ow } a' (w3.putObj (w.heap.size + 1) (.loop { rec3 with state := .exhausted })) →
        ∃ C4, Ext C C4 ∧ SimE C4 { reg := s.reg, own := (s'.setOwn kL (gn + 1 + 1) none).own } { a with defers := [mark w.heap.size] ++ a.defers } (w3.putObj (w.heap.size + 1) (.loop { rec3 with state := .exhausted })) := by
      rintro ow rfl hs6
      refine ⟨⟨C.B, C.X, C.w0, C.N, fun c v => C.keep c v ∨ (c = .dfd ∧ v = .pointer (some ⟨w.heap.size, 0, none⟩)), w.heap.size :: C.dfs⟩, ⟨rfl, rfl, rfl, rfl, fun c v hk => .inl hk, fun hdk => ⟨?_, ?_⟩⟩, γ', ?_, hs.size, fun r => hs6.kept _ _ (.inr (.inl ⟨r, rfl, rfl⟩)), hs6.sites, hs6.inj, hs6.base, hs6.below, hs6.top, ?_⟩
      · rw [List.nodup_cons]
        refine ⟨fun hm => ?_, hdk.1⟩
        have := hs.kept _ _ (hdk.2 _ hm).2
        cases this with
        | d hd => cases hd
        | dfd h1 _ => exact absurd h1.1 (Nat.lt_irrefl _)
      · intro D hDm
        rcases List.mem_cons.1 hDm with rfl | hDm
        · exact ⟨hs.top, .inr ⟨rfl, rfl⟩⟩
        · exact ⟨(hdk.2 D hDm).1, .inl (hdk.2 D hDm).2⟩
      · show [mark w.heap.size] ++ a.defers = _
        rw [hs.defers]; rfl
      · rintro c v (hk | ⟨rfl, rfl⟩)
        · exact hs6.kept c v (.inl hk)
        · exact hs6.kept _ _ (.inr (.inr (.inl ⟨rfl, rfl⟩)))
    exact key _ hoo hs5
  have ends : ∀ {s' : St} {a' : Act} {w3 : World}, SimE C1 s' a' w3 → RangePost s kL (gn + 1) ps asg body Q .ret s' → a'.defers = [] ∧ ∃ v, (results fn a'.tmps).run P w3 = .ok v w3 ∧
      rangePost (Fr none) n P (w.heap.size + 1) (UpX Ext C Q) { a with defers := [mark w.heap.size] ++ a.defers } (.returned v) w3 := by
    intro s' a' w3 h' hq
    refine ⟨by obtain ⟨_, h'⟩ := h'; exact h'.defers, .tuple #[], by simp [results, hres], ?_⟩
    rcases hq with ⟨ho, hq⟩ | ⟨id, ho, hq⟩ | ⟨ho, hq⟩
    · obtain ⟨w4, e1, C4, e2, e3⟩ := fin none .ready (by simp) h' ho
      exact ⟨none, w4, e1, C4, _, e2, e3, hq⟩
    · obtain ⟨w4, e1, C4, e2, e3⟩ := fin (some (.exit id)) .done (by simp) h' ho
      exact ⟨some (.exit id), w4, e1, wpIn_exit ⟨C4, _, e2, e3, hq⟩⟩
    · obtain ⟨w4, e1, C4, e2, e3⟩ := fin (some .ret) .done (by simp) h' ho
      exact ⟨some .ret, w4, e1, wpIn_ret ⟨C4, _, e2, e3, hq⟩⟩
  rintro e a' w3 ⟨C', s', rfl, h', hq⟩
  cases e
  case normal => exact ends h' hq
  case ret => exact ends h' hq
  all_goals exact hq.elim
end
end Go.Pv


set_option linter.unusedVariables false
namespace Go.Pv
open Go.RowKit Go.Proofs Go.Shelf
def WStr (P : Program) (f : FuncId) (T e : TypeId) : Prop :=
  ∀ (b : Nat) (p v : Value) (blk : Option Nat) (n : Nat) (olds : List Value) (s : ByteArray) (w : World), w.heap[b]? = some (.cells #[p, v] T (0, 0)) → (p = .pointer none ∨ p = .pointer (some ⟨b, 0, none⟩)) → Whole w e 1 blk v n olds →
    n + s.size ≤ 140737488355328 → Calls P f #[.pointer (some ⟨b, 0, none⟩), .string s] w fun x w' => x = .returned (.tuple #[.int .i64 s.size, .nilIface]) ∧
      ∃ v' blk', w'.heap[b]? = some (.cells #[.pointer (some ⟨b, 0, none⟩), v'] T (0, 0)) ∧ Whole w' e 1 blk' v' (n + s.size) (olds ++ Lib.strCells s) ∧ w'.os = w.os ∧ w'.tape = w.tape ∧ w'.output = w.output ∧ w.heap.size ≤ w'.heap.size ∧
        (∀ j, j < w.heap.size → j ≠ b → w'.heap[j]? = w.heap[j]? ∨ blk = some j) ∧ (∀ j, blk' = some j → j < w'.heap.size ∧ (w.heap.size ≤ j ∨ blk = some j))
def SStr (P : Program) (f : FuncId) (T e : TypeId) : Prop :=
  ∀ (b : Nat) (p v : Value) (blk : Option Nat) (l : List UInt8) (w : World), w.heap[b]? = some (.cells #[p, v] T (0, 0)) → Whole w e 1 blk v l.length (Lib.byteCells l) →
    Calls P f #[.pointer (some ⟨b, 0, none⟩)] w fun x w' => x = .returned (.string ⟨l.toArray⟩) ∧ w'.os = w.os ∧ w'.tape = w.tape ∧ w'.output = w.output ∧ w.heap.size ≤ w'.heap.size ∧
        (∀ j, j < w.heap.size → w'.heap[j]? = w.heap[j]? ∨ blk = some j)
theorem append_str {P : Program} {w : World} (t u ty e : TypeId) (i : TypeInfo) (ht : P.underlying t = some (.slice e)) (hu : P.underlying u = some .string) (hi : P.info? e = some i) (hz : i.zero = some (.int .u8 0)) (hsize : i.size = 1) (hby : i.bytes = 1)
    (blk : Option Nat) (v : Value) (n : Nat) (olds : List Value) (hv : Whole w e 1 blk v n olds) (s : ByteArray) (hbytes : n + s.size ≤ 140737488355328) :
    ∃ v' w' blk', (Builtin.append_ #[t, u] ty #[v, .string s]).run P w = .ok v' w' ∧ Whole w' e 1 blk' v' (n + s.size) (olds ++ Lib.strCells s) ∧ w'.os = w.os ∧ w'.tape = w.tape ∧ w'.output = w.output ∧ w.heap.size ≤ w'.heap.size ∧
      (∀ b, b < w.heap.size → w'.heap[b]? = w.heap[b]? ∨ blk = some b) ∧ (∀ b, blk' = some b → b < w'.heap.size ∧ (w.heap.size ≤ b ∨ blk = some b)) := by
  have h63 : n + s.size ≤ maxLen := by unfold maxLen; omega
  obtain ⟨hlo, hv⟩ := hv
  have hxl : olds.length = n := by simpa using hlo
  have hlen : (olds ++ Lib.strCells s).length = (n + s.size) * 1 := by rw [List.length_append, hxl, Lib.strCells_length, Nat.mul_one]
  rcases hv with ⟨rfl, rfl, rfl⟩ | ⟨g, cap, cur, rfl, rfl, hg, hnc, hcm, hcs, htk⟩
  · obtain ⟨v', w', h1, h2, h3, h4⟩ := Lib.run_append_own_string (P := P) (w := w) w.heap.size t u ty e i ht hu hi hz hsize hby (.slice none 0 0) 0 olds ⟨hlo, .inl ⟨rfl, rfl⟩⟩ s h63 hbytes (Nat.le_refl _)
    refine ⟨v', w', v'.ownBlock, h1, ⟨h2.1, ?_⟩, h3.os, h3.tape, h3.output, h3.size, fun b hb => .inl (h3.block b hb (by simp [Value.ownBlock])), fun b hb => ?_⟩
    · rcases h2.2 with ⟨e1, e2⟩ | ⟨g, cap, cur, e1, e2, e3⟩
      · exact .inl ⟨by rw [e1]; rfl, e1, e2⟩
      · exact .inr ⟨g, cap, cur, by rw [e1]; rfl, e1, e3⟩
    · rcases h2.2 with ⟨e1, e2⟩ | ⟨g, cap, cur, e1, e2, e3, _⟩
      · rw [e1] at hb; simp [Value.ownBlock] at hb
      · rw [e1] at hb
        simp [Value.ownBlock] at hb
        subst hb
        exact ⟨(Array.getElem?_eq_some_iff.1 e3).1, .inl e2⟩
  · have ht' : cur.toList.take n = olds := by simpa using htk
    have hcs' : cur.size = cap := by simpa using hcs
    by_cases hroom : n + s.size ≤ cap
    · have hr := Lib.run_append_room_string (P := P) (w := w) t u ty e i ht hu hi hsize g n cap cur hg s hroom (by omega)
      refine ⟨_, _, some g, hr, ⟨hlen, .inr ⟨g, cap, _, rfl, rfl, setRow_heap w g cur _ e _ hg, hroom, hcm, ?_, ?_⟩⟩, rfl, rfl, rfl, by simp, fun b hb => ?_, fun b hb => ?_⟩
      · simp only [List.size_toArray, List.length_append, List.length_take, List.length_drop, Array.length_toList, Lib.strCells_length]
        omega
      · rw [ht', ← hlen]
        exact List.take_left
      · by_cases e1 : b = g
        · exact .inr (by rw [e1])
        · exact .inl (setRow_other w g b _ e1)
      · simp at hb; subst hb
        exact ⟨by simpa using (Array.getElem?_eq_some_iff.1 hg).1, .inr rfl⟩
    · have holds : ∀ j u, olds[j]? = some u → w.cell? ((⟨g, 0, none⟩ : Addr).add j) = some u := fun j u hu => by
        rw [Addr.add_mk, Nat.zero_add, cell_of_cells hg]
        rw [← ht', List.getElem?_take] at hu
        split at hu
        · simpa using hu
        · cases hu
      have hr := Lib.run_append_grow_string (P := P) (w := w) t u ty e i (.int .u8 0) ht hu hi hz ⟨g, 0, none⟩ n cap olds (by rw [hsize]; simpa using hxl) holds s (by omega) (by unfold maxLen at h63; omega) (by rw [hby]; exact growslice_fits (by omega) (by omega))
      have hge := grownCap_ge w (n + s.size) cap e
      have hcm := grownCap_le_maxLen w (n + s.size) cap e h63
      refine ⟨_, _, some w.heap.size, hr, ⟨hlen, .inr ⟨w.heap.size, _, _, rfl, rfl, heap_alloc_at w.drew _, hge, hcm, ?_, ?_⟩⟩, rfl, rfl, rfl, by simp, fun b hb => .inl (Below.heap_alloc w.drew _ b hb), fun b hb => ?_⟩
      · have hz1 : (Value.int IntKind.u8 0).cells.size = 1 := rfl
        simp only [Array.size_append, List.size_toArray, size_zeroCells, hz1, hxl, Lib.strCells_length]
        omega
      · simp only [Array.toList_append, List.append_assoc]
        rw [← List.append_assoc, ← hlen]
        exact List.take_left
      · simp at hb; subst hb
        exact ⟨by simp, .inl (Nat.le_refl _)⟩
theorem wpl_append_str {P : Program} {w : World} {ops : Array Oper} {rest : List Oper} {o : Oper} {a : Act} {Q : Exit → Act → World → Prop} (hgd : o.guard = none) (sl x : Operand) (t u : TypeId)
    (ho : o.op = .call { callee := .builtin .append, args := #[sl, x], argTypes := #[t, u] })
    (e : TypeId) (i : TypeInfo) (ht : P.underlying t = some (.slice e)) (hu : P.underlying u = some .string) (hi : P.info? e = some i) (hz : i.zero = some (.int .u8 0)) (hsize : i.size = 1) (hby : i.bytes = 1)
    (blk : Option Nat) (v : Value) (n : Nat) (olds : List Value) (hs : a.eval sl = v) (hv : Whole w e 1 blk v n olds) (s : ByteArray) (hx : a.eval x = .string s) (hbytes : n + s.size ≤ 140737488355328)
    (h : ∀ v' w' blk', Whole w' e 1 blk' v' (n + s.size) (olds ++ Lib.strCells s) → w'.os = w.os → w'.tape = w.tape → w'.output = w.output → w.heap.size ≤ w'.heap.size →
      (∀ b, b < w.heap.size → w'.heap[b]? = w.heap[b]? ∨ blk = some b) → (∀ b, blk' = some b → b < w'.heap.size ∧ (w.heap.size ≤ b ∨ blk = some b)) → wpList P ops Q rest (a.put o.dst v') w') : wpList P ops Q (o :: rest) a w := by
  refine wpList_plain hgd fun K hK => ?_
  obtain ⟨v', w', blk', hr, h2, h3, h4, h5, h6, h7, h8⟩ := append_str (P := P) t u o.type e i ht hu hi hz hsize hby blk v n olds hv s hbytes
  unfold Oper.wp execOp
  simp only [ho, resolve, invoke, builtin, Sem.run_bind, Sem.run_pure, Result.andThen_ok, List.map_toArray, List.map_cons, List.map_nil, hs, hx, hr]
  exact hK _ _ (h v' w' blk' h2 h3 h4 h5 h6 h7 h8)
section
variable {P : Program} {ρ : Ren}
theorem copyCheck_str (L : Lays.n240 P ρ) (X : Builder.X72 P ρ) (b : Nat) (p v : Value) (w : World) (hb : w.heap[b]? = some (.cells #[p, v] (ρ.t 72) (0, 0))) (hp : p = .pointer none ∨ p = .pointer (some ⟨b, 0, none⟩)) :
    Calls P (ρ.f 240) #[.pointer (some ⟨b, 0, none⟩)] w fun e w' => e = .returned (.tuple #[]) ∧ w'.heap[b]? = some (.cells #[.pointer (some ⟨b, 0, none⟩), v] (ρ.t 72) (0, 0)) ∧ w'.os = w.os ∧ w'.tape = w.tape ∧ w'.output = w.output ∧ w'.heap.size = w.heap.size ∧ ∀ j, j ≠ b → w'.heap[j]? = w.heap[j]? := by
  have c0 : w.cell? ⟨b, 0, none⟩ = some p := by rw [Lib.cell_of_heap hb]; rfl
  rcases hp with rfl | rfl
  · refine (Any.Builder_copyCheck_fresh L X b w c0 (by simp [World.shape?, hb]) (by simp [World.frozen?, hb])).mono ?_
    rintro e w' ⟨rfl, rfl⟩
    refine ⟨rfl, ?_, rfl, rfl, rfl, by simp [World.setCell], fun j hj => Below.heap_setCell _ _ _ _ hj⟩
    simp [World.setCell, Array.getElem?_modify, hb]
  · refine (Any.Builder_copyCheck_used L X b w c0).mono ?_
    rintro e w' ⟨rfl, rfl⟩
    exact ⟨rfl, hb, rfl, rfl, rfl, rfl, fun _ _ => rfl⟩
end
end Go.Pv


set_option linter.unusedVariables false
namespace Go.Pv
open Go.RowKit Go.Proofs Go.Shelf
variable {P : Program} {ρ : Ren}
theorem whole_frame {w w' : World} {e : TypeId} {blk : Option Nat} {v : Value} {n : Nat} {olds : List Value} (h : Whole w e 1 blk v n olds) (hk : ∀ g, blk = some g → w'.heap[g]? = w.heap[g]?) : Whole w' e 1 blk v n olds := by
  refine ⟨h.1, h.2.imp id ?_⟩
  rintro ⟨b, cap, cur, h1, h2, h3, h4⟩
  exact ⟨b, cap, cur, h1, h2, by rw [hk b h1]; exact h3, h4⟩
set_option maxHeartbeats 2000000 in
set_option maxRecDepth 100000 in
theorem wstr (L : Lays.n166 P ρ) (X : Builder.Extra P ρ) : WStr P (ρ.f 166) (ρ.t 72) (ρ.t 5) := by
  intro b p v blk n olds s w hb hp hw hlen
  have hne : blk ≠ some b := by
    intro e
    rcases hw.2 with ⟨e1, _⟩ | ⟨g, cap, cur, e1, _, e3, _⟩
    · rw [e1] at e; cases e
    · rw [e1] at e; cases e
      rw [hb] at e3
      simp only [Option.some.injEq, Obj.cells.injEq] at e3
      exact X.neB5 e3.2.1
  obtain ⟨i0, hi, hz0, hz1, hz2⟩ := info_parts X.infoByte
  have mixed := L.mixed
  have t72 := L.t72; have a72 := L.a72; have z72 := L.z72; have v72 := L.v72; have u72 := run_underlying L.t72
  have t70 := L.t70; have a70 := L.a70; have z70 := L.z70; have v70 := L.v70; have u70 := run_underlying L.t70
  have t37 := L.t37; have a37 := L.a37; have z37 := L.z37; have v37 := L.v37; have u37 := run_underlying L.t37
  have t3 := L.t3; have a3 := L.a3; have z3 := L.z3; have v3 := L.v3; have u3 := run_underlying L.t3
  have t9 := L.t9; have a9 := L.a9; have z9 := L.z9; have v9 := L.v9; have u9 := run_underlying L.t9
  have t4 := L.t4; have a4 := L.a4; have z4 := L.z4; have v4 := L.v4; have u4 := run_underlying L.t4
  have t164 := L.t164; have a164 := L.a164; have z164 := L.z164; have v164 := L.v164; have u164 := run_underlying L.t164
  have t5 := X.t5; have a5 := X.a5; have z5 := X.z5; have v5 := X.v5; have u5 := run_underlying X.t5
  have e240 : ∀ args w, (callFunc (ρ.f 240) args).run P w = .ok (.enter (ρ.f 240) args) w := enters_of L.f240 (by kernel_rfl) rfl
  go_enter L.f166, Body.n166_ntmps ρ
  go_wp2_with (go_at_fn (ρ.f 240); refine (copyCheck_str { L with } X.toX72 b p v _ hb hp).mono ?_)
  rintro e w1 ⟨rfl, hbk, hO⟩
  have o5 := hO.2.2.2.2
  have hw1 : Whole w1 (ρ.t 5) 1 blk v n olds := whole_frame hw fun g hg => o5 g fun e => hne (by rw [hg, e])
  have HO := (show Hid _ from hO)
  clear hO o5
  have c0 : w1.cell? ⟨b, 0, none⟩ = some (.pointer (some ⟨b, 0, none⟩)) := by rw [Lib.cell_of_heap hbk]; rfl
  have c1 : w1.cell? ⟨b, 1, none⟩ = some v := by rw [Lib.cell_of_heap hbk]; rfl
  go_wp2_with (at_builtin; refine wpl_append_str rfl _ _ (ρ.t 37) (ρ.t 9) rfl (ρ.t 5) i0 L.t37 L.t9 hi hz0 hz1 hz2 blk _ _ _ rfl hw1 s rfl hlen ?_)
  intro v' w2 blk' hw2 q1 q2 q3 q4 q5 q6
  have ⟨o1, o2, o3, o4, o5⟩ := HO.out
  have hlt : b < w1.heap.size := (Array.getElem?_eq_some_iff.1 hbk).1
  have hb2 : w2.heap[b]? = some (.cells #[.pointer (some ⟨b, 0, none⟩), v] (ρ.t 72) (0, 0)) := by
    rcases q5 b hlt with e1 | e1
    · rw [e1]; exact hbk
    · exact absurd e1 hne
  have d0 : w2.cell? ⟨b, 0, none⟩ = some (.pointer (some ⟨b, 0, none⟩)) := by rw [Lib.cell_of_heap hb2]; rfl
  have d1 : w2.cell? ⟨b, 1, none⟩ = some v := by rw [Lib.cell_of_heap hb2]; rfl
  have f1 : w2.frozen? ⟨b, 1, none⟩ = false := Lib.frozen_of_heap hb2 1
  have hne' : blk' ≠ some b := fun e => by
    rcases (q6 b e).2 with e1 | e1
    · omega
    · exact hne e1
  have HQ := (show Hid _ from And.intro q1 (And.intro q2 (And.intro q3 (And.intro q4 (And.intro q5 q6)))))
  clear q1 q2 q3 q4 q5 q6 o1 o2 o3 o4 o5
  obtain ⟨ao, n', cap, rfl⟩ : ∃ ao n' cap, v' = .slice ao n' cap := by
    rcases hw2.2 with ⟨_, hv, _⟩ | ⟨g, cap, cur, _, hv, _⟩
    · exact ⟨_, _, _, hv⟩
    · exact ⟨_, _, _, hv⟩
  go_wp2
  go_ret2
  have ⟨o1, o2, o3, o4, o5⟩ := HO.out
  have ⟨q1, q2, q3, q4, q5, q6⟩ := HQ.out
  refine ⟨rfl, .slice ao n' cap, blk', ?_, whole_frame hw2 fun g hg => Below.heap_setCell _ _ _ _ (fun e => hne' (by rw [hg, e])), q1.trans o1, q2.trans o2, q3.trans o3, ?_, fun j hj hjb => ?_, fun j hj => ?_⟩
  · simp [World.setCell, Array.getElem?_modify, hb2]
  · simp [World.setCell]; omega
  · rw [Below.heap_setCell _ _ _ _ hjb]
    rcases q5 j (by omega) with e1 | e1
    · exact .inl (e1.trans (o5 j hjb))
    · exact .inr e1
  · have := q6 j hj
    refine ⟨by simp [World.setCell]; omega, this.2.imp (fun h => by omega) id⟩
set_option maxHeartbeats 4000000 in
set_option maxRecDepth 100000 in
theorem sstr (L : Lays.n169 P ρ) (X : Builder.Extra P ρ) : SStr P (ρ.f 169) (ρ.t 72) (ρ.t 5) := by
  intro b p v blk l w hb hw
  have hlt : b < w.heap.size := (Array.getElem?_eq_some_iff.1 hb).1
  have mixed := L.mixed
  have t72 := L.t72; have a72 := L.a72; have z72 := L.z72; have v72 := L.v72; have u72 := run_underlying L.t72
  have t70 := L.t70; have a70 := L.a70; have z70 := L.z70; have v70 := L.v70; have u70 := run_underlying L.t70
  have t37 := L.t37; have a37 := L.a37; have z37 := L.z37; have v37 := L.v37; have u37 := run_underlying L.t37
  have t127 := L.t127; have a127 := L.a127; have z127 := L.z127; have v127 := L.v127; have u127 := run_underlying L.t127
  have t3 := L.t3; have a3 := L.a3; have z3 := L.z3; have v3 := L.v3; have u3 := run_underlying L.t3
  have t9 := L.t9; have a9 := L.a9; have z9 := L.z9; have v9 := L.v9; have u9 := run_underlying L.t9
  have t5 := X.t5; have a5 := X.a5; have z5 := X.z5; have v5 := X.v5; have u5 := run_underlying X.t5
  have c1 : w.drew.cell? ⟨b, 1, none⟩ = some v := by
    have : w.drew.heap[b]? = some (.cells #[p, v] (ρ.t 72) (0, 0)) := hb
    rw [Lib.cell_of_heap this]; rfl
  by_cases hl0 : l = []
  · subst hl0
    have hUS := Any.unsafeString_none L X
    rcases hw.2 with ⟨rfl, rfl, _⟩ | ⟨g, cap, cur, rfl, rfl, hg, hnc, hcm, hcs, htake⟩
    · have hSD : (Builtin.unsafeSliceData_ #[(ρ.t 37)] (ρ.t 127) #[.slice none 0 0]).run P w.drew = .ok (.pointer none) w.drew := rfl
      go_enter L.f169, Body.n169_ntmps ρ
      go_wp2
      go_region_o
      all_goals (go_wp2; go_ret; exact ⟨rfl, rfl, rfl, rfl, Nat.le_refl _, fun _ _ => .inl rfl⟩)
    · by_cases hc0 : cap = 0
      · subst hc0
        have hSD : (Builtin.unsafeSliceData_ #[(ρ.t 37)] (ρ.t 127) #[.slice (some ⟨g, 0, none⟩) 0 0]).run P w.drew = .ok (.pointer (some ⟨w.drew.heap.size, 0, none⟩)) (w.drew.alloc (.view ⟨g, 0, none⟩ (ρ.t 5))) :=
          Lib.run_unsafeSliceData_zero w.drew _ _ (ρ.t 5) L.t127 ⟨g, 0, none⟩ 0 ((ρ.t 5), cur.size) (by have hg' : w.drew.heap[g]? = some (.cells cur (ρ.t 5) (0, 0)) := hg; simp [World.shape?, hg'])
        have c2 : (w.drew.alloc (.view ⟨g, 0, none⟩ (ρ.t 5))).cell? ⟨b, 1, none⟩ = some (.slice (some ⟨g, 0, none⟩) 0 0) := by
          have : (w.drew.alloc (.view ⟨g, 0, none⟩ (ρ.t 5))).heap[b]? = _ := (Lib.alloc_old w.drew _ b hlt).trans hb
          rw [Lib.cell_of_heap this]; rfl
        have c3 : (w.alloc (.view ⟨g, 0, none⟩ (ρ.t 5))).drew.cell? ⟨b, 1, none⟩ = some (.slice (some ⟨g, 0, none⟩) 0 0) := c2
        have c0 : w.cell? ⟨b, 1, none⟩ = some (.slice (some ⟨g, 0, none⟩) 0 0) := c1
        go_enter L.f169, Body.n169_ntmps ρ
        go_wp2
        go_region_o
        all_goals (go_wp2; go_ret; exact ⟨rfl, rfl, rfl, rfl, by simp, fun j hj => .inl (Below.heap_alloc w.drew _ j hj)⟩)
      · have hSD : (Builtin.unsafeSliceData_ #[(ρ.t 37)] (ρ.t 127) #[.slice (some ⟨g, 0, none⟩) 0 cap]).run P w.drew = .ok (.pointer (some ⟨g, 0, none⟩)) w.drew :=
          Lib.run_unsafeSliceData_row _ _ _ _ _ _ hc0
        have c1 : w.drew.cell? ⟨b, 1, none⟩ = some (.slice (some ⟨g, 0, none⟩) 0 cap) := c1
        clear hc0
        go_enter L.f169, Body.n169_ntmps ρ
        go_wp2
        go_region_o
        all_goals (go_wp2; go_ret; exact ⟨rfl, rfl, rfl, rfl, Nat.le_refl _, fun _ _ => .inl rfl⟩)
  · have hll : l.length ≠ 0 := by simpa using hl0
    obtain ⟨g, cap, cur, rfl, rfl, hg, hnc, hcm, hcs, htake⟩ : ∃ g cap cur, blk = some g ∧ v = .slice (some ⟨g, 0, none⟩) l.length cap ∧ w.heap[g]? = some (.cells cur (ρ.t 5) (0, 0)) ∧ l.length ≤ cap ∧ cap ≤ maxLen ∧ cur.size = cap * 1 ∧ cur.toList.take (l.length * 1) = Lib.byteCells l := by
      rcases hw.2 with ⟨_, _, hz⟩ | h
      · exact absurd hz hll
      · exact h
    have hSD : (Builtin.unsafeSliceData_ #[(ρ.t 37)] (ρ.t 127) #[.slice (some ⟨g, 0, none⟩) l.length cap]).run P w.drew = .ok (.pointer (some ⟨g, 0, none⟩)) w.drew :=
      Lib.run_unsafeSliceData_row _ _ _ _ _ _ (by omega)
    have hUS : (Builtin.unsafeString_ #[(ρ.t 127), (ρ.t 3)] (ρ.t 9) #[.pointer (some ⟨g, 0, none⟩), .int .i64 l.length]).run P w.drew = .ok (.string ⟨l.toArray⟩) (w.drew.freeze ⟨g, 0, none⟩ l.length) := by
      refine Lib.run_unsafeString_row w.drew (ρ.t 127) (ρ.t 3) (ρ.t 9) (ρ.t 5) L.t127 X.cellsByte g cur.size (by have hg' : w.drew.heap[g]? = some (.cells cur (ρ.t 5) (0, 0)) := hg; simp [World.shape?, hg']) l hl0 (by omega) (by unfold maxLen at hcm; omega) ?_
      intro j x hx
      have hg' : w.drew.heap[g]? = some (.cells cur (ρ.t 5) (0, 0)) := hg
      rw [Addr.add_mk, Nat.zero_add, cell_of_cells hg']
      have hu : (Lib.byteCells l)[j]? = some (.int .u8 x.toNat) := by simp [Lib.byteCells, hx]
      rw [← htake, List.getElem?_take] at hu
      split at hu
      · simpa using hu
      · cases hu
    have hfr : ∀ j, j ≠ g → (w.drew.freeze ⟨g, 0, none⟩ l.length).heap[j]? = w.heap[j]? := fun j hj => by
      unfold World.freeze
      split
      · rfl
      · show (w.heap.modify g _)[j]? = _
        rw [Array.getElem?_modify, if_neg (fun e => hj e.symm)]
    have hfs : (w.drew.freeze ⟨g, 0, none⟩ l.length).heap.size = w.heap.size ∧ (w.drew.freeze ⟨g, 0, none⟩ l.length).os = w.os ∧ (w.drew.freeze ⟨g, 0, none⟩ l.length).tape = w.tape ∧ (w.drew.freeze ⟨g, 0, none⟩ l.length).output = w.output := by
      unfold World.freeze
      split
      · exact ⟨rfl, rfl, rfl, rfl⟩
      · exact ⟨Array.size_modify, rfl, rfl, rfl⟩
    have HF := (show Hid _ from And.intro hfr hfs)
    clear hfr hfs
    go_enter L.f169, Body.n169_ntmps ρ
    go_wp2
    go_region_o
    all_goals (go_wp2; go_ret; have ⟨hfr, hfs⟩ := HF.out; exact ⟨rfl, hfs.2.1, hfs.2.2.1, hfs.2.2.2, by rw [hfs.1]; exact Nat.le_refl _, fun j hj => by
      by_cases e : j = g
      · exact .inr (by rw [e])
      · exact .inl (hfr j e)⟩)
end Go.Pv


set_option linter.unusedVariables false
namespace Go.Pv
open Go.RowKit
variable [Globs]
def rowB (c : UInt8) : List PV := [.int .u8 c.toNat]
def bldC (T kb gb n : Nat) : Cont := ⟨T + 1, 0, [[.int .i64 T, .als kb gb 0 n]], 5⟩
omit [Globs] in
theorem flat_cells (E : Env) (l : List UInt8) : FlatRep E 0 1 (l.map rowB) (Lib.byteCells l) := by
  refine ⟨by simp [Lib.byteCells], fun row hr => ?_, fun i j row pv e1 e2 => ?_⟩
  · obtain ⟨c, _, rfl⟩ := List.mem_map.1 hr
    rfl
  · rw [List.getElem?_map, Option.map_eq_some_iff] at e1
    obtain ⟨c, h1, rfl⟩ := e1
    have hj : j = 0 := by
      rcases j with _ | j
      · rfl
      · simp [rowB] at e2
    subst hj
    simp only [rowB, List.getElem?_cons_zero, Option.some.injEq] at e2
    subst e2
    refine ⟨.int .u8 c.toNat, by simp [Lib.byteCells, h1], rfl, ?_⟩
    exact .int _ _
omit [Globs] in
theorem flat_bytes {E : Env} {l : List UInt8} {olds : List Value} (h : FlatRep E 0 1 (l.map rowB) olds) : olds = Lib.byteCells l := by
  have hl : olds.length = l.length := by have := h.len; simpa using this
  refine List.ext_getElem? fun i => ?_
  rcases Nat.lt_or_ge i l.length with hi | hi
  · obtain ⟨v, h1, _, h3⟩ := h.at_ i 0 (rowB l[i]) (.int .u8 l[i].toNat) (by simp [hi]) rfl
    rw [show i * 1 + 0 = i by omega] at h1
    rw [h1]
    have h3 : DRep _ _ _ _ := h3
    cases h3
    simp [Lib.byteCells, hi]
  · rw [List.getElem?_eq_none (by omega), List.getElem?_eq_none (by simp [Lib.byteCells]; omega)]
section
variable {P : Program} {L : Lay} {s : St}
theorem pw_at (id : Nat) {ops : Array Oper} {d : Bool} {Q : Exit → St → Prop} (h : PWP P L (.region id ops d) Q s) : PWP P L (.region id ops d) Q s := h
theorem whole_als {w : World} {e : TypeId} {blk blk2 : Option Nat} {n : Nat} {v : Value} {vals : List Value} (h : Whole w e 1 blk v n vals) : AlsAt w ⟨blk, e, 1, n⟩ 0 n v := by
  rcases h.2 with ⟨rfl, rfl, h0⟩ | ⟨b, cap, cur, rfl, rfl, f1, f2, f3, f4, f5⟩
  · exact .inl ⟨rfl, rfl, h0, rfl⟩
  · exact .inr ⟨b, cap, cur, rfl, by simp, f1, f2, f3, by rw [f4, Nat.zero_add], by simp⟩
theorem Sim.bld {C : Ctx} {γ : Nat → Option Nat} {a : Act} {w : World} (hs : Sim C γ s a w) {x : Operand} {k g T e kb gb n : Nat} {l : List UInt8} (hx : s.ev x = .mi k g) (ho : s.own k = (g, some (bldC T kb gb n))) (hob : s.own kb = (gb, some ⟨e, 1, l.map rowB, 0⟩)) (hn : n = l.length) :
    ∃ b p v, γ k = some b ∧ a.eval x = .pointer (some ⟨b, 0, none⟩) ∧ w.heap[b]? = some (.cells #[p, v] T (0, 0)) ∧ (p = .pointer none ∨ p = .pointer (some ⟨b, 0, none⟩)) ∧ Whole w e 1 (γ kb) v l.length (Lib.byteCells l) := by
  have hxr := hs.ev x
  rw [hx] at hxr
  obtain ⟨_, b, hb, hv⟩ := hs.mi_at hxr ho
  have hit := (hs.sites k _ (by rw [ho])).it b hb rfl (show (3:Nat) ≤ 5 by decide)
  obtain ⟨T', kb', gb', n', p, v, h1, h2, h3, h4⟩ : BldAt (envOf C γ s w) b (bldC T kb gb n).rows := hit
  simp only [bldC, List.cons.injEq, PV.int.injEq, PV.als.injEq, and_true, true_and, Int.natCast_inj] at h1
  obtain ⟨rfl, rfl, rfl, rfl⟩ := h1
  refine ⟨b, p, v, hb, hv, h2, h3, ?_⟩
  rcases hs.als_at h4 hob with ⟨h5, _, h6, rfl⟩ | ⟨b2, cap, cur, f1, rfl, f3, f4, f5, f6, f7⟩
  · have hl : l = [] := List.eq_nil_of_length_eq_zero (by omega)
    subst hl
    exact ⟨rfl, .inl ⟨h5, rfl, rfl⟩⟩
  · simp only at f1 f3 f4 f5 f6
    have hsite := hs.sites kb _ (by rw [hob])
    rw [f1] at hsite
    obtain ⟨cur', g1, g2, g3, g4⟩ := hsite.flat (show 0 < 1 by decide)
    have g1 : w.heap[b2]? = some (.cells cur' e (0, 0)) := g1
    rw [g1] at f3
    simp only [Option.some.injEq, Obj.cells.injEq, and_true] at f3
    subst f3
    have hbytes := flat_bytes g4
    refine ⟨by simp [Lib.byteCells], .inr ⟨b2, cap, cur', f1, by simp [hn], g1, by omega, f5, by omega, ?_⟩⟩
    simpa using hbytes
theorem sm_bnew {d : Nat} {ty : TypeId} {pos : String} {af : Array Edge} {T : TypeId} {K : St → Prop} (k kb : Nat) (e : TypeId) {gk gkb : Nat} {oc ocb : Option Cont} (hne : Nat.beq k kb = false) (ho : s.own k = (gk, oc)) (hob : s.own kb = (gkb, ocb))
    (hz : ((P.info? T).bind (·.zero)).map (·.cells) = some #[.pointer none, .slice none 0 0])
    (h : K (((s.setOwn kb (gkb + 1) (some ⟨e, 1, [], 0⟩)).setOwn k (gk + 1) (some (bldC T kb (gkb + 1) 0))).putR d (.mi k (gk + 1)))) : Sm P L s ⟨some d, .alloc T, ty, pos, af, none⟩ K := by
  intro C a w Q hG ⟨γ, hs⟩ hN
  have hkk : k ≠ kb := fun e => by rw [e] at hne; simp at hne
  obtain ⟨zv, hzv, hzc⟩ := Option.map_eq_some_iff.1 hz
  obtain ⟨i, hi, hiz⟩ := Option.bind_eq_some_iff.1 hzv
  have ht1 : Turn C γ s w w kb none := ⟨rfl, rfl, rfl, Nat.le_refl _, fun b _ => .inl rfl, fun b hb => by cases hb⟩
  have hs1 := ht1.sim hs (c := ⟨e, 1, [], 0⟩) (.none_ rfl)
  have hfin1 : s.fin kb ⟨e, 1, [], 0⟩ = s.setOwn kb (gkb + 1) (some ⟨e, 1, [], 0⟩) := by rw [St.fin, hob]
  rw [hfin1] at hs1
  have ht2 : Turn C (upg γ kb none) (s.setOwn kb (gkb + 1) (some ⟨e, 1, [], 0⟩)) w (w.alloc (.cells #[.pointer none, .slice none 0 0] T)) k (some w.heap.size) := Turn.alloc _ k
  have hfin2 : (s.setOwn kb (gkb + 1) (some ⟨e, 1, [], 0⟩)).fin k (bldC T kb (gkb + 1) 0) = (s.setOwn kb (gkb + 1) (some ⟨e, 1, [], 0⟩)).setOwn k (gk + 1) (some (bldC T kb (gkb + 1) 0)) := by
    rw [St.fin, setOwn_ne hkk, ho]
  have hs2 := ht2.sim hs1 (c := bldC T kb (gkb + 1) 0) ⟨(fun e => by cases e), (fun b' _ _ hk => by simp [bldC] at hk), (fun b' hb' _ _ => by
    simp at hb'; subst hb'
    show BldAt _ _ _
    refine ⟨T, kb, gkb + 1, 0, .pointer none, .slice none 0 0, rfl, heap_alloc_at _ _, .inl rfl, ?_⟩
    rw [hfin2]
    refine .als ?_ fun _ l hl => ?_
    · show _ ≤ (((s.setOwn kb (gkb + 1) (some ⟨e, 1, [], 0⟩)).setOwn k (gk + 1) (some (bldC T kb (gkb + 1) 0))).own kb).1
      rw [setOwn_ne (Ne.symm hkk), setOwn_same]; exact Nat.le_refl _
    · simp only [envOf, setOwn_ne (Ne.symm hkk), setOwn_same, upg_ne (Ne.symm hkk), upg_same, Option.map_some, Option.some.injEq] at hl
      subst hl
      exact .inl ⟨rfl, rfl, rfl, rfl⟩), (fun b' _ hz => by simp [bldC] at hz)⟩
  rw [hfin2] at hs2
  have hrun : (execOp a.eval ⟨some d, .alloc T, ty, pos, af, none⟩).run P w = .ok (.value (.pointer (some ⟨w.heap.size, 0, none⟩))) (w.alloc (.cells #[.pointer none, .slice none 0 0] T)) := by
    simp [execOp, Instr.alloc, zeroValue, typeInfo, hi, hiz, hzc, newVar, newRow]
  unfold Oper.wp
  rw [hrun, Oper.upon_value]
  refine ⟨_, ⟨_, hs2.put (d := some d) hN (.mi ?_ fun _ l hl => ?_)⟩, h⟩
  · show _ ≤ (((s.setOwn kb (gkb + 1) (some ⟨e, 1, [], 0⟩)).setOwn k (gk + 1) (some (bldC T kb (gkb + 1) 0))).own k).1
    rw [setOwn_same]; exact Nat.le_refl _
  · simp only [envOf, setOwn_same, upg_same, Option.map_some, Option.some.injEq] at hl
    subst hl
    exact ⟨rfl, _, rfl, rfl⟩
theorem sm_bwrite {d : Nat} {ty : TypeId} {pos : String} {af : Array Edge} {f : FuncId} {x y : Operand} {tys : Array TypeId} {K : St → Prop} {k g T e kb gb n : Nat} {l s2 : List UInt8} (hc : callable P f) (hw : WStr P f T e) (hTe : Nat.beq T e = false) (hne : Nat.beq k kb = false)
    (hx : s.ev x = .mi k g) (hy : s.ev y = .str s2) (ho : s.own k = (g, some (bldC T kb gb n))) (hob : s.own kb = (gb, some ⟨e, 1, l.map rowB, 0⟩)) (hn : n = l.length) (hlen : l.length + s2.length ≤ 140737488355328)
    (h : K (((s.setOwn kb (gb + 1) (some ⟨e, 1, (l ++ s2).map rowB, 0⟩)).setOwn k g (some (bldC T kb (gb + 1) (l ++ s2).length))).putR d (.tup [.int .i64 s2.length, .raw .nilIface]))) :
    Sm P L s ⟨some d, .call ⟨.value (.func f), #[x, y], tys⟩, ty, pos, af, none⟩ K := by
  intro C a w Q hG ⟨γ, hs⟩ hN
  have hkk : k ≠ kb := fun e => by rw [e] at hne; simp at hne
  have hTe' : T ≠ e := fun h => by rw [h] at hTe; simp at hTe
  obtain ⟨b, p, v, hb, hv, hheap, hp, hwh⟩ := hs.bld hx ho hob hn
  have hyv := hs.ev y
  rw [hy] at hyv
  have hyv := hyv.str_inv
  have hblt : b < w.heap.size := (Array.getElem?_eq_some_iff.1 hheap).1
  unfold Oper.wp
  rw [run_call (f := f) (a := a) (vs := []) rfl rfl hc, Oper.upon_enter]
  rw [show (((#[x, y] : Array Operand).toList.map a.eval ++ ([] : List Value)).toArray : Array Value) = #[Value.pointer (some ⟨b, 0, none⟩), Value.string ⟨s2.toArray⟩] by simp [hv, hyv]]
  refine (hw b p v (γ kb) l.length (Lib.byteCells l) ⟨s2.toArray⟩ w hheap hp hwh (by rw [bytes_size]; exact hlen)).mono ?_
  rintro _ w' ⟨rfl, v', blk', q1, q2, q3, q4, q5, q6, q7, q8⟩
  rw [bytes_size] at q2
  have hcells : Lib.byteCells l ++ Lib.strCells ⟨s2.toArray⟩ = Lib.byteCells (l ++ s2) := by
    simp [Lib.byteCells, Lib.strCells]
  rw [hcells] at q2
  have hll : (l ++ s2).length = l.length + s2.length := List.length_append
  obtain ⟨w1, hw1⟩ : ∃ w1 : World, w1 = { w' with heap := w'.heap.setIfInBounds b (.cells #[p, v] T) } := ⟨_, rfl⟩
  have hb1 : w1.heap[b]? = some (.cells #[p, v] T (0, 0)) := by rw [hw1]; exact (put_set q1).2
  have ho1 : ∀ j, j ≠ b → w1.heap[j]? = w'.heap[j]? := fun j hj => by rw [hw1]; exact (put_set q1).1.other j hj
  have hsz1 : w1.heap.size = w'.heap.size := by rw [hw1]; simp
  have hblk : ∀ j, blk' = some j → j ≠ b := by
    rintro j hj rfl
    rcases q2.2 with ⟨e1, _⟩ | ⟨b2, cap, cur, e1, _, e3, _⟩
    · rw [e1] at hj; cases hj
    · rw [e1] at hj; cases hj
      rw [q1] at e3
      simp only [Option.some.injEq, Obj.cells.injEq] at e3
      exact hTe' e3.2.1
  have hwh1 : Whole w1 e 1 blk' v' (l.length + s2.length) (Lib.byteCells (l ++ s2)) := whole_frame q2 fun j hj => ho1 j (hblk j hj)
  have ht : Turn C γ s w w1 kb blk' := by
    refine ⟨by rw [hw1]; exact q3, by rw [hw1]; exact q4, by rw [hw1]; exact q5, by rw [hsz1]; exact q6, fun j hj => ?_, fun j hj => ?_⟩
    · by_cases hjb : j = b
      · subst hjb; exact .inl (by rw [hb1, hheap])
      · rw [ho1 j hjb]
        exact (q7 j hj hjb).imp id fun h => ⟨by rw [hob]; rfl, h⟩
    · rw [hsz1]
      exact ⟨(q8 j hj).1, (q8 j hj).2.imp id fun h => ⟨by rw [hob]; rfl, h⟩⟩
  have hfin : s.fin kb ⟨e, 1, (l ++ s2).map rowB, 0⟩ = s.setOwn kb (gb + 1) (some ⟨e, 1, (l ++ s2).map rowB, 0⟩) := by rw [St.fin, hob]
  have hs1 := ht.sim hs (c := ⟨e, 1, (l ++ s2).map rowB, 0⟩) (by
    rcases hwh1.2 with ⟨e1, e2, e3⟩ | ⟨b2, cap, cur, e1, e2, e3, e4, e5, e6, e7⟩
    · have hnil : l ++ s2 = [] := List.eq_nil_of_length_eq_zero (by omega)
      rw [hnil, e1]; exact .none_ rfl
    · rw [e1]
      refine SiteOk.of_flat (flat_cells _ _) (by decide) e3 ?_ ?_
      · simp; omega
      · rw [List.length_map, hll]; exact e7)
  rw [hfin] at hs1
  have hput : Put w1 w' b := ⟨by rw [hw1], by rw [hw1], by rw [hw1], hsz1.symm, fun j hj => (ho1 j hj).symm⟩
  have hs2 := put_simT (c' := bldC T kb (gb + 1) (l ++ s2).length) hs1 (k := k) (g := g) (b := b) (c := bldC T kb gb n) (by rw [setOwn_ne hkk]; exact ho) (by rw [upg_ne hkk]; exact hb) (fun cur => by
    rw [hb1]
    intro h
    exact absurd (Obj.cells.inj (Option.some.inj h)).2.1 (by show ¬ T = T + 1; omega)) hput rfl rfl (Nat.le_refl _) ⟨(fun e => by cases e), (fun b' _ _ hk => by simp [bldC] at hk), (fun b' hb' _ _ => by
    simp at hb'; subst hb'
    show BldAt _ _ _
    refine ⟨T, kb, gb + 1, (l ++ s2).length, _, v', rfl, q1, .inr rfl, .als ?_ fun _ lc hl => ?_⟩
    · show _ ≤ (((s.setOwn kb (gb + 1) (some ⟨e, 1, (l ++ s2).map rowB, 0⟩)).setOwn k g (some (bldC T kb (gb + 1) (l ++ s2).length))).own kb).1
      rw [setOwn_ne (Ne.symm hkk), setOwn_same]; exact Nat.le_refl _
    · simp only [envOf, setOwn_ne (Ne.symm hkk), setOwn_same, upg_same, Option.map_some, Option.some.injEq] at hl
      subst hl
      rw [List.length_map, hll]
      exact whole_als (blk2 := none) q2), (fun b' _ hz => by simp [bldC] at hz)⟩
  refine ⟨_, ⟨_, hs2.put (d := some d) hN ?_⟩, h⟩
  refine .d (.tup _ [.int .i64 s2.length, .nilIface] rfl fun i c u e1 e2 => ?_)
  rcases i with _ | _ | i
  · simp at e1 e2; subst e1; subst e2; exact .int _ _
  · simp at e1 e2; subst e1; subst e2; exact .raw _
  · simp at e1
theorem sm_bread {d : Nat} {ty : TypeId} {pos : String} {af : Array Edge} {f : FuncId} {x : Operand} {tys : Array TypeId} {K : St → Prop} {k g T e kb gb n : Nat} {l : List UInt8} (hc : callable P f) (hw : SStr P f T e)
    (hx : s.ev x = .mi k g) (ho : s.own k = (g, some (bldC T kb gb n))) (hob : s.own kb = (gb, some ⟨e, 1, l.map rowB, 0⟩)) (hn : n = l.length)
    (h : K ((s.setOwn kb (gb + 1) (some ⟨e, 1, [], 0⟩)).putR d (.str l))) :
    Sm P L s ⟨some d, .call ⟨.value (.func f), #[x], tys⟩, ty, pos, af, none⟩ K := by
  intro C a w Q hG ⟨γ, hs⟩ hN
  obtain ⟨b, p, v, hb, hv, hheap, hp, hwh⟩ := hs.bld hx ho hob hn
  unfold Oper.wp
  rw [run_call (f := f) (a := a) (vs := []) rfl rfl hc, Oper.upon_enter]
  rw [show (((#[x] : Array Operand).toList.map a.eval ++ ([] : List Value)).toArray : Array Value) = #[Value.pointer (some ⟨b, 0, none⟩)] by simp [hv]]
  refine (hw b p v (γ kb) l w hheap hwh).mono ?_
  rintro _ w' ⟨rfl, q3, q4, q5, q6, q7⟩
  have ht : Turn C γ s w w' kb none := ⟨q3, q4, q5, q6, fun j hj => (q7 j hj).imp id fun h => ⟨by rw [hob]; rfl, h⟩, fun b hb => by cases hb⟩
  have hfin : s.fin kb ⟨e, 1, [], 0⟩ = s.setOwn kb (gb + 1) (some ⟨e, 1, [], 0⟩) := by rw [St.fin, hob]
  have hs1 := ht.sim hs (c := ⟨e, 1, [], 0⟩) (.none_ rfl)
  rw [hfin] at hs1
  exact ⟨_, ⟨_, hs1.put (d := some d) hN (.d (.str _))⟩, h⟩
end
end Go.Pv


set_option maxHeartbeats 2000000
namespace Go.Pv
attribute [local irreducible] PWP POps PQuiet PSem XThen XBlock RetPost InlPost
open Go.Proofs
theorem wstr78 : WStr Tryz.prog 78 141 5 := wstr { Tryz.lays156 with } Tryz.Builder_Extra_156
theorem sstr79 : SStr Tryz.prog 79 141 5 := sstr Tryz.lays169 Tryz.Builder_Extra_169
def jrnS (q : Str × Int) (p : SPost) : Str × Int := (q.1 ++ lineT q.2 (textP p), sumF q.2 (textP p))
def jrnF (l : List SPost) : Str × Int := l.foldl jrnS ([], 1)
theorem jrn_snoc (l : List SPost) (p : SPost) : jrnF (l ++ [p]) = jrnS (jrnF l) p := by rw [jrnF, List.foldl_append]; rfl
theorem jrn_next {l : List SPost} {k : Nat} {p : SPost} (h : l[k]? = some p) : jrnF (l.take (k + 1)) = jrnS (jrnF (l.take k)) p := by rw [take_snoc h, jrn_snoc]
theorem line_len {n : Int} {t : Str} (h0 : 0 ≤ n) (h1 : n < 65521) (ht : t.length ≤ 200) : (lineT n t).length ≤ 250 := by
  have hr := sumF_range t h0 h1
  have := itoa_short (v := sumF n t) (by omega) (by omega)
  simp only [lineT, List.length_append, List.length_cons, List.length_nil]
  omega
theorem jrn_fine {l : List SPost} (h : ∀ p ∈ l, checkE p = 0) : ∀ k, k ≤ l.length → 0 ≤ (jrnF (l.take k)).2 ∧ (jrnF (l.take k)).2 < 65521 ∧ (jrnF (l.take k)).1.length ≤ 250 * k
  | 0, _ => ⟨by simp [jrnF], by simp [jrnF], by simp [jrnF]⟩
  | k + 1, hk => by
    obtain ⟨h1, h2, h3⟩ := jrn_fine h k (by omega)
    have hx : l[k]? = some l[k] := List.getElem?_eq_getElem (by omega)
    have hc := h l[k] (by simp)
    have hp := text_short hc
    have hr := sumF_range (textP l[k]) h1 h2
    have hl := line_len h1 h2 hp
    rw [jrn_next hx]
    refine ⟨hr.1, hr.2, ?_⟩
    simp only [jrnS, List.length_append]
    omega
set_option maxRecDepth 20000 in
theorem journal_ret (l : List SPost) (hc : ∀ p ∈ l, checkE p = 0) (hl : l.length ≤ 1000000) : Ret Tryz.prog .shared 23 [.dref (eBook l) 0] (.str (jrnF l).1) := by
  have hll : ((l.map ePost).length : Int) = l.length := by simp
  refine Ret.of_pwp layOk mixed Go.Proofs.Tryz.func23 rfl (by decide) rfl rfl ?_
  ((repeat ((fail_if_success (with_reducible refine pw_at 3 ?_)); (refine stp rfl ?_ ?_;·repeat' (first|exact True.intro|exact rfl|refine And.intro ?_ ?_)))); refine pw_regionS 0 ?_)
  refine ps_nil ?_
  refine psem_sm rfl (sm_bnew 3 1003 5 rfl rfl rfl (by kernel_rfl) ?_)
  refine psem_ops ?_
  repeat (refine stp rfl ?_ ?_;·repeat' constructor)
  refine pw_loop (fun k => k ≤ l.length) (fun k => [(3, .mi 3 1), (4, I (jrnF (l.take k)).2), (14, .sl (l.map ePost)), (15, I (l.map ePost).length), (16, I k)])
    (fun k => [(3, 1, bldC 141 1003 (1 + k) (jrnF (l.take k)).1.length), (1003, 1 + k, ⟨5, 1, (jrnF (l.take k)).1.map rowB, 0⟩)]) (fun k => l.length - k) 0 (Nat.zero_le _) ⟨rfl, rfl, rfl, rfl, rfl, rfl, rfl, trivial⟩ ?_
  intro k st hk
  have hf := jrn_fine hc k hk
  repeat (refine stp rfl ?_ ?_;·repeat' constructor)
  refine pw_cond rfl (fun h => ?_) (fun h => ?_)
  · have hlt : k < l.length := by have := of_decide_eq_true h; omega
    clear h
    obtain ⟨p, hx⟩ := get_lt hlt
    have hcp := hc p (List.mem_of_getElem? hx)
    have hcall := line_ret p (jrnF (l.take k)).2 hcp hf.1 hf.2.1
    have hll := line_len hf.1 hf.2.1 (text_short hcp)
    have hnx := jrn_next hx
    rw [jrnS] at hnx
    generalize jrnF (l.take k) = q at *
    generalize lineT q.2 (textP p) = t at *
    generalize sumF q.2 (textP p) = m at *
    repeat (refine stp rfl ?_ ?_;·repeat' constructor)
    apply qst;exact rfl;exact rfl;exact q_idxm rfl rfl rfl rfl rfl (by omega) hx rfl
    repeat (refine stp rfl ?_ ?_;·repeat' constructor)
    apply qst;exact rfl;exact rfl;exact q_callP rfl (hcall) rfl (by repeat' constructor) rfl rfl
    ((repeat ((fail_if_success (with_reducible refine pw_at 9 ?_)); (refine stp rfl ?_ ?_;·repeat' (first|exact True.intro|exact rfl|refine And.intro ?_ ?_)))); refine pw_regionS 1 ?_)
    iterate 1 (refine stp rfl ?_ ?_;·repeat' constructor)
    refine ps_nil ?_
    refine psem_sm rfl (sm_bwrite (T := 141) (e := 5) ⟨_, Go.Proofs.Tryz.func78, by decide, rfl⟩ wstr78 rfl rfl rfl rfl rfl rfl rfl (by omega) ?_)
    refine psem_ops ?_
    repeat (refine stp rfl ?_ ?_;·repeat' constructor)
    refine ⟨k + 1, by omega, by omega, ?_⟩
    rw [hnx]
    exact ⟨rfl, rfl, rfl, rfl, i64_next (by omega) (by omega), rfl, rfl, trivial⟩
  · have hz : k = l.length := by have := of_decide_eq_false h; omega
    subst hz
    rw [List.take_length] at *
    ((repeat ((fail_if_success (with_reducible refine pw_at 12 ?_)); (refine stp rfl ?_ ?_;·repeat' (first|exact True.intro|exact rfl|refine And.intro ?_ ?_)))); refine pw_regionS 0 ?_)
    refine ps_nil ?_
    refine psem_sm rfl (sm_bread (T := 141) (e := 5) ⟨_, Go.Proofs.Tryz.func79, by decide, rfl⟩ sstr79 rfl rfl rfl rfl ?_)
    refine psem_ops ?_
    repeat (refine stp rfl ?_ ?_;·repeat' constructor)
    exact end1 rfl rfl rfl trivial rfl
set_option maxRecDepth 20000 in
theorem journal_ref (l : List SPost) (hc : ∀ p ∈ l, checkE p = 0) (hl : l.length ≤ 1000000) : Ret Tryz.prog .shared 24 [.sl (l.map ePost)] (.str (jrnF l).1) := by
  have hll : ((l.map ePost).length : Int) = l.length := by simp
  refine Ret.of_pwp layOk mixed Go.Proofs.Tryz.func24 rfl (by decide) rfl rfl ?_
  repeat (refine stp rfl ?_ ?_;·repeat' constructor)
  refine pw_loop (fun k => k ≤ l.length) (fun k => [(0, .sl (l.map ePost)), (3, I (jrnF (l.take k)).2), (4, .str (jrnF (l.take k)).1), (5, I k)])
    (fun _ => []) (fun k => l.length - k) 0 (Nat.zero_le _) ⟨rfl, rfl, rfl, rfl, trivial⟩ ?_
  intro k st hk
  have hf := jrn_fine hc k hk
  repeat (refine stp rfl ?_ ?_;·repeat' constructor)
  refine pw_cond rfl (fun h => ?_) (fun h => ?_)
  · have hlt : k < l.length := by have := of_decide_eq_true h; omega
    clear h
    obtain ⟨p, hx⟩ := get_lt hlt
    have hcp := hc p (List.mem_of_getElem? hx)
    have hcall := format_ref p hcp
    have hts := text_short hcp
    have hck := checked_ref (jrnF (l.take k)).2 (textP p) hf.1 hf.2.1 (by omega)
    have hr := sumF_range (textP p) hf.1 hf.2.1
    have hde := decimal_ret (sumF (jrnF (l.take k)).2 (textP p)) (by omega) (by omega)
    have hds : (Lib.itoa (sumF (jrnF (l.take k)).2 (textP p))).length ≤ 20 := by have := itoa_short (v := sumF (jrnF (l.take k)).2 (textP p)) (by omega) (by omega); omega
    have hnx := jrn_next hx
    rw [jrnS, lineT] at hnx
    generalize jrnF (l.take k) = q at *
    generalize textP p = t at *
    generalize sumF q.2 t = m at *
    generalize Lib.itoa m = u at *
    repeat (refine stp rfl ?_ ?_;·repeat' constructor)
    apply qst;exact rfl;exact rfl;exact q_idxm rfl rfl rfl rfl rfl (by omega) hx rfl
    repeat (refine stp rfl ?_ ?_;·repeat' constructor)
    apply qst;exact rfl;exact rfl;exact q_callP rfl (hcall) rfl (by repeat' constructor) rfl rfl
    repeat (refine stp rfl ?_ ?_;·repeat' constructor)
    apply qst;exact rfl;exact rfl;exact q_callP rfl (hck) rfl (by repeat' constructor) rfl rfl
    repeat (refine stp rfl ?_ ?_;·repeat' (first|exact True.intro|exact rfl|refine And.intro ?_ ?_))
    refine ps_v rfl ?_ ?_
    · omega
    repeat (refine stp rfl ?_ ?_;·repeat' (first|exact True.intro|exact rfl|refine And.intro ?_ ?_))
    refine ps_v rfl ?_ ?_
    · simp only [List.length_append, List.length_cons, List.length_nil]; omega
    repeat (refine stp rfl ?_ ?_;·repeat' (first|exact True.intro|exact rfl|refine And.intro ?_ ?_))
    apply qst;exact rfl;exact rfl;exact q_callP rfl (hde) rfl (by repeat' constructor) rfl rfl
    repeat (refine stp rfl ?_ ?_;·repeat' (first|exact True.intro|exact rfl|refine And.intro ?_ ?_))
    refine ps_v rfl ?_ ?_
    · simp only [List.length_append, List.length_cons, List.length_nil]; omega
    repeat (refine stp rfl ?_ ?_;·repeat' (first|exact True.intro|exact rfl|refine And.intro ?_ ?_))
    refine ps_v rfl ?_ ?_
    · simp only [List.length_append, List.length_cons, List.length_nil]; omega
    repeat (refine stp rfl ?_ ?_;·repeat' (first|exact True.intro|exact rfl|refine And.intro ?_ ?_))
    refine ⟨k + 1, by omega, by omega, ?_⟩
    rw [hnx]
    refine ⟨rfl, rfl, ?_, i64_next (by omega) (by omega), trivial⟩
    show PV.str _ = PV.str _
    simp only [List.append_assoc]
  · have hz : k = l.length := by have := of_decide_eq_false h; omega
    subst hz
    rw [List.take_length] at *
    repeat (refine stp rfl ?_ ?_;·repeat' constructor)
    exact end1 rfl rfl rfl trivial rfl
end Go.Pv


set_option maxHeartbeats 2000000
namespace Go.Pv
attribute [local irreducible] PWP POps PQuiet PSem XThen XBlock RetPost InlPost
open Go.Proofs Go.RowKit
theorem maxG : Tryz.prog.globalNamed "internal/bytealg.MaxLen" = some 2 := by kernel_rfl
theorem cut_mark (s sep : Str) (hs : s.length ≤ 1000000) : Ret Tryz.prog .shared 75 [.str s, .str sep] (.tup [.str (Lib.cut s sep).1, .str (Lib.cut s sep).2.1, .bool (Lib.cut s sep).2.2]) := by
  refine ⟨⟨_, Go.Proofs.Tryz.func75, by decide, rfl⟩, fun w X args hg hX hl hargs => ?_⟩
  match args, hl with
  | [v, u], _ =>
    have hv := hargs 0 _ v rfl rfl
    have hu := hargs 1 _ u rfl rfl
    cases hv
    cases hu
    obtain ⟨g, m, h1, h2⟩ := max_of hg
    have hg2 : g = 2 := Option.some.inj (h1.symm.trans maxG)
    subst hg2
    refine (Go.Proofs.Tryz.strings_Cut ⟨s.toArray⟩ ⟨sep.toArray⟩ m w (by rw [bytes_size]; omega) h2).mono ?_
    rintro e w' ⟨rfl, n, rfl⟩
    refine ⟨_, rfl, ⟨rfl, rfl, rfl, Nat.le_refl _, fun _ _ => rfl⟩, ?_⟩
    refine .tup _ [.string ⟨(Lib.cut s sep).1.toArray⟩, .string ⟨(Lib.cut s sep).2.1.toArray⟩, .bool (Lib.cut s sep).2.2] rfl fun i c u e1 e2 => ?_
    rcases i with _ | _ | _ | i
    · simp at e1 e2; subst e1; subst e2; exact .str _
    · simp at e1 e2; subst e1; subst e2; exact .str _
    · simp at e1 e2; subst e1; subst e2; exact .bool _
    · simp at e1
section
variable {P : Program} {L : Lay} {s : St} {T : TypeId} {d : Nat} {x lo hi : Operand} {r : LRow} {ty : TypeId} {pos : String} {af : Array Edge} {g : Option (Nat × Bool)}
theorem q_ssH [Globs] {kh : IntKind} {b : Int} {l : List UInt8} (hL : LOk P L) (hr : L T = some r) (hs : r.sh = .str) (hx : s.ev x = .str l) (hhi : s.ev hi = .int kh b) (h1 : 0 ≤ b) (h2 : b ≤ l.length) :
    QOp P L s ⟨some d, .slice T x none (some hi) none, ty, pos, af, g⟩ (.str (l.take b.toNat)) := by
  refine .semF (v := .string ⟨(l.take b.toNat).toArray⟩) (by simp [Op.operands]) (fun y hy => ?_) (fun ev w _ he => ?_) fun _ _ => .str _
  · simp [Op.operands] at hy
    rcases hy with rfl | rfl
    · rw [hx]; exact ⟨_, rfl⟩
    · rw [hhi]; exact ⟨_, rfl⟩
  · have e1 := he x (by simp [Op.operands])
    have e3 := he hi (by simp [Op.operands])
    rw [hx] at e1
    rw [hhi] at e3
    have e1 : ev x = .string ⟨l.toArray⟩ := (Option.some.inj e1).symm
    have e3 : ev hi = .int kh b := (Option.some.inj e3).symm
    have hu : P.underlying T = some .string := und_str (hL T r hr) hs
    have hsz : (⟨l.toArray⟩ : ByteArray).size = l.length := by simp [ByteArray.size]
    simp only [execOp, Option.map_some, Option.map_none, e1, e3]
    refine wrapW ?_
    rw [run_sliceAt_string w _ _ _ _ _ hu]
    have eb : (b.toNat : Int) = b := by omega
    simp [Instr.slice, run_underlying hu, Instr.sliceBounds, run_sliceBound, hsz, bytes_cut, h1, h2, eb]
theorem q_ssT [Globs] {kl : IntKind} {a : Int} {l : List UInt8} (hL : LOk P L) (hr : L T = some r) (hs : r.sh = .str) (hx : s.ev x = .str l) (hlo : s.ev lo = .int kl a) (h0 : 0 ≤ a) (h1 : a ≤ l.length) :
    QOp P L s ⟨some d, .slice T x (some lo) none none, ty, pos, af, g⟩ (.str (l.drop a.toNat)) := by
  refine .semF (v := .string ⟨(l.drop a.toNat).toArray⟩) (by simp [Op.operands]) (fun y hy => ?_) (fun ev w _ he => ?_) fun _ _ => .str _
  · simp [Op.operands] at hy
    rcases hy with rfl | rfl
    · rw [hx]; exact ⟨_, rfl⟩
    · rw [hlo]; exact ⟨_, rfl⟩
  · have e1 := he x (by simp [Op.operands])
    have e2 := he lo (by simp [Op.operands])
    rw [hx] at e1
    rw [hlo] at e2
    have e1 : ev x = .string ⟨l.toArray⟩ := (Option.some.inj e1).symm
    have e2 : ev lo = .int kl a := (Option.some.inj e2).symm
    have hu : P.underlying T = some .string := und_str (hL T r hr) hs
    have hsz : (⟨l.toArray⟩ : ByteArray).size = l.length := by simp [ByteArray.size]
    simp only [execOp, Option.map_some, Option.map_none, e1, e2]
    refine wrapW ?_
    rw [run_sliceAt_string w _ _ _ _ _ hu]
    have ea : (a.toNat : Int) = a := by omega
    have et : (l.drop a.toNat).take (l.length - a.toNat) = l.drop a.toNat := List.take_of_length_le (by simp)
    simp [Instr.slice, run_underlying hu, Instr.sliceBounds, run_sliceBound, hsz, bytes_cut, h0, h1, ea, et]
end
end Go.Pv


set_option maxHeartbeats 2000000
namespace Go.Pv
attribute [local irreducible] PWP POps PQuiet PSem XThen XBlock RetPost InlPost
open Go.Proofs
def bkX (q0 q1 q2 q3 q4 q5 q6 : Nat) (x0 x1 x2 x3 x4 x5 x6 : Cont) (g1 g2 g3 g5 g62 : Nat) (l : List SPost) : List (Nat × Nat × Cont) :=
  [(1, g1, ⟨142, 0, ordR l, 0⟩), (2, g2, ⟨143, 0, itmR l, 0⟩), (1005, g5, ⟨146, 4, [bkRow g1 g2 g3 g62 l], 2⟩), (62, g62 + l.length, ⟨23, 9, l.map ePost, 0⟩), (1003, g3, ⟨144, 0, gonR l, 0⟩), (2000, q0, x0), (2001, q1, x1), (2002, q2, x2), (2003, q3, x3), (2004, q4, x4), (2005, q5, x5), (2006, q6, x6)]
set_option maxRecDepth 20000 in
theorem post_inlX {K : St → Prop} {s : St} {d g1 g2 g3 g5 g62 : Nat} {q0 q1 q2 q3 q4 q5 q6 : Nat} {x0 x1 x2 x3 x4 x5 x6 : Cont} {x y : Operand} {tys : Array TypeId} {ty : TypeId} {pos : String} {af : Array Edge} (l : List SPost) (hW : Wf l) (p : SPost) (hx : s.ev x = .ptr 1005 g5 0 0) (hy : s.ev y = .agg (ePost p)) (ho : FitO s (bkX q0 q1 q2 q3 q4 q5 q6 x0 x1 x2 x3 x4 x5 x6 g1 g2 g3 g5 g62 l))
    (hno : ∀ s1 : St, refusalR l p ≠ 0 → K (({ reg := s.reg, own := (s1.over [] (bkX q0 q1 q2 q3 q4 q5 q6 x0 x1 x2 x3 x4 x5 x6 g1 g2 g3 g5 g62 l)).own } : St).putR d (.tup [I 0, I (refusalR l p)])))
    (hyes : ∀ s1 : St, refusalR l p = 0 → K (({ reg := s.reg, own := (s1.over [] (bkX q0 q1 q2 q3 q4 q5 q6 x0 x1 x2 x3 x4 x5 x6 g1 g2 g3 g5 g62 (l ++ [cleanP p]))).own } : St).putR d (.tup [I (l.length + 1), I 0]))) :
    Sm Tryz.prog lay.get s ⟨some d, .call ⟨.value (.func 46), #[x, y], tys⟩, ty, pos, af, none⟩ K := by
  have hl := hW.len
  have hll : ((l.map ePost).length : Int) = l.length := by simp
  have h36 := checkPost_ret p
  have h37 := refused_ret l hW p
  have h38 := cleared_ret p
  refine sm_inline layOk rfl rfl Tryz.func46 rfl (by decide) rfl rfl ?_
  show PWP _ _ _ _ (callSt s (([x, y] : List Operand).map s.ev ++ []))
  rw [show (([x, y] : List Operand).map s.ev ++ ([] : List PV)) = [.ptr 1005 g5 0 0, .agg (ePost p)] by simp [hx, hy]]
  rw [show callSt s [.ptr 1005 g5 0 0, .agg (ePost p)] = callSt (s.over [] (bkX q0 q1 q2 q3 q4 q5 q6 x0 x1 x2 x3 x4 x5 x6 g1 g2 g3 g5 g62 l)) [.ptr 1005 g5 0 0, .agg (ePost p)] by rw [Fit.over (l := []) ho]]
  have nope : refusalR l p ≠ 0 → ∀ (st : St) (e : Exit), (e = .ret ∨ e = .normal) → st.reg 4 = I 0 → st.reg 5 = I (refusalR l p) → FitO st (bkX q0 q1 q2 q3 q4 q5 q6 x0 x1 x2 x3 x4 x5 x6 g1 g2 g3 g5 g62 l) → InlPost lay.get Tryz.f46 (fun s' r => K (({ reg := s.reg, own := s'.own } : St).putR d r)) e st := fun hr st e he h1 h2 h3 =>
    inl_end2O (K := fun o r => K (({ reg := s.reg, own := o } : St).putR d r)) _ he rfl h1 h2 h3 fun s1 => hno s1 hr
  clear ho hx hy
  ((repeat (first | refine ps_nil ?_ | refine pq_nil ?_ | refine x_norm ?_ | refine pw_seq ?_)); refine pw_region ?_)
  refine ps_run (o_box rfl rfl rfl (by repeat' constructor) rfl ?_)
  generalize (s.own 3).1 + 1 = gg
  repeat (refine stp rfl ?_ ?_;·repeat' constructor)
  apply qst;exact rfl;exact rfl;exact q_callP rfl (h36) rfl (by repeat' constructor) rfl rfl
  repeat (refine stp rfl ?_ ?_;·repeat' constructor)
  refine pw_cond rfl (fun h => ?_) (fun h => ?_)
  · have hne : ¬ checkE p = 0 := by simpa using h
    have hr : refusalR l p = checkE p := by rw [refusalR, if_neg hne]
    repeat (refine stp rfl ?_ ?_;·repeat' constructor)
    exact nope (by rw [hr]; exact hne) _ _ (.inl rfl) rfl (by rw [hr]; rfl) ⟨rfl, rfl, rfl, rfl, rfl, rfl, rfl, rfl, rfl, rfl, rfl, rfl, trivial⟩
  have hc0 : checkE p = 0 := by simpa using h
  rw [refusalR, if_pos hc0] at nope hno hyes
  clear h h36
  refine pw_skip ?_
  refine x_norm ?_
  refine pw_cutP (¬ 400 ≤ l.length ∧ ¬ (0 < l.length ∧ p.day < (entL l l.length).day)) [(0, .ptr 1005 g5 0 0), (3, .ptr 3 gg 0 0)] ((3, gg, ⟨23, 9, [ePost p], 2⟩) :: bkX q0 q1 q2 q3 q4 q5 q6 x0 x1 x2 x3 x4 x5 x6 g1 g2 g3 g5 g62 l) ?_ ?_
  · repeat (refine stp rfl ?_ ?_;·repeat' constructor)
    rw [hll]
    by_cases h4 : 400 ≤ l.length
    · rw [if_pos h4] at nope
      refine pw_cond rfl (fun h => ?_) (fun h => ?_)
      · repeat (refine stp rfl ?_ ?_;·repeat' constructor)
        exact nope (by decide) _ _ (.inl rfl) rfl rfl ⟨rfl, rfl, rfl, rfl, rfl, rfl, rfl, rfl, rfl, rfl, rfl, rfl, trivial⟩
      · exact absurd (of_decide_eq_false h) (by omega)
    rw [if_neg h4] at nope
    refine pw_cond rfl (fun h => ?_) (fun h => ?_)
    · exact absurd (of_decide_eq_true h) (by omega)
    clear h
    have hwl : 0 < l.length → IntKind.wrap .i64 ((l.length : Int) - 1) = (l.length : Int) - 1 := fun h => wrap_i64 (by omega) (by omega)
    repeat (refine stp rfl ?_ ?_;·repeat' constructor)
    refine pw_draw 25 [24, 25, 26, 27, 28, 29, 30, 31, 32, 33, 34, 35, 36, 37, 38, 39, 40, 41, 42, 43, 44, 45, 46, 47, 23] (by decide +kernel) ?_
    repeat (refine stp rfl ?_ ?_;·repeat' constructor)
    rw [hll]
    (first | refine ps_split rfl rfl (fun h => ?_) (fun h => ?_) | refine pq_split rfl rfl (fun h => ?_) (fun h => ?_) | refine p3_split rfl rfl (fun h => ?_) (fun h => ?_))
    · have hlp := of_decide_eq_true h
      have he := entL_at (l := l) (n := l.length) (by omega) (by omega)
      have hwl := hwl (by omega)
      have hrow : (l.map ePost)[0 + ((l.length : Int) - 1).toNat]? = some (ePost (entL l l.length)) := by rw [List.getElem?_map, Nat.zero_add, he]; rfl
      repeat (refine stp rfl ?_ ?_;·repeat' constructor)
      rw [hll, hwl]
      apply qst;exact rfl;exact rfl;exact q_idxA rfl rfl rfl rfl rfl rfl rfl (by omega) (by omega)
      repeat (refine stp rfl ?_ ?_;·repeat' constructor)
      apply qst;exact rfl;exact rfl;exact q_ldp rfl rfl rfl hrow rfl
      repeat (refine stp rfl ?_ ?_;·repeat' constructor)
      refine pw_cond rfl (fun h => ?_) (fun h => ?_)
      · have hd := of_decide_eq_true h
        rw [if_pos ⟨by omega, hd⟩] at nope
        repeat (refine stp rfl ?_ ?_;·repeat' constructor)
        exact nope (by decide) _ _ (.inl rfl) rfl rfl ⟨rfl, rfl, rfl, rfl, rfl, rfl, rfl, rfl, rfl, rfl, rfl, rfl, trivial⟩
      · have hd := of_decide_eq_false h
        repeat (refine stp rfl ?_ ?_;·repeat' constructor)
        exact ⟨⟨h4, fun hc => hd hc.2⟩, rfl, rfl, rfl, rfl, rfl, rfl, rfl, rfl, rfl, rfl, rfl, rfl, rfl, rfl, rfl, trivial⟩
    · have hlp := of_decide_eq_false h
      repeat (refine stp rfl ?_ ?_;·repeat' constructor)
      exact ⟨⟨h4, fun hc => hlp (by omega)⟩, rfl, rfl, rfl, rfl, rfl, rfl, rfl, rfl, rfl, rfl, rfl, rfl, rfl, rfl, rfl, trivial⟩
  rintro ⟨h4, hday⟩ s1
  rw [if_neg h4, if_neg hday] at nope hno hyes
  repeat (refine stp rfl ?_ ?_;·repeat' constructor)
  apply qst;exact rfl;exact rfl;exact q_callP rfl (h37) rfl (by repeat' constructor) rfl rfl
  repeat (refine stp rfl ?_ ?_;·repeat' constructor)
  refine pw_cond rfl (fun h => ?_) (fun h => ?_)
  · have hne : ¬ refE l p = 0 := by simpa using h
    repeat (refine stp rfl ?_ ?_;·repeat' constructor)
    exact nope hne _ _ (.inl rfl) rfl rfl ⟨rfl, rfl, rfl, rfl, rfl, rfl, rfl, rfl, rfl, rfl, rfl, rfl, trivial⟩
  have hr0 : refE l p = 0 := by simpa using h
  clear h nope hno
  replace hyes := fun s1 => hyes s1 hr0
  have hsn := bk_snoc l (cleanP p)
  have hqo := clean_op p
  generalize hq : cleanP p = q at *
  refine pw_skip ?_
  refine x_norm ?_
  refine pw_cut [(0, .ptr 1005 g5 0 0), (3, .ptr 3 gg 0 0)] [(1, g1, ⟨142, 0, ordR l, 0⟩), (2, g2, ⟨143, 0, itmR l, 0⟩), (3, gg, ⟨23, 9, [ePost p], 2⟩), (1005, g5, ⟨146, 4, [bkRow g1 g2 g3 g62 (l ++ [q])], 2⟩), (62, g62 + (l ++ [q]).length, ⟨23, 9, (l ++ [q]).map ePost, 0⟩), (1003, g3, ⟨144, 0, gonR l, 0⟩), (2000, q0, x0), (2001, q1, x1), (2002, q2, x2), (2003, q3, x3), (2004, q4, x4), (2005, q5, x5), (2006, q6, x6)] ?_ ?_
  · refine pw_draw3 [1005, 62] [2, 3, 4, 8, 9, 10, 11] (by decide +kernel) ?_
    repeat (refine stp rfl ?_ ?_;·repeat' constructor)
    apply qst;exact rfl;exact rfl;exact q_call rfl (h38) rfl (by repeat' constructor) rfl
    repeat (refine stp rfl ?_ ?_;·repeat' constructor)
    apply qst;exact rfl;exact rfl;exact q_slit rfl rfl rfl rfl rfl rfl rfl rfl rfl rfl (by repeat' constructor) rfl
    repeat (refine stp rfl ?_ ?_;·repeat' constructor)
    refine z3e rfl rfl rfl (o_app 0 rfl rfl rfl rfl rfl rfl rfl rfl rfl rfl rfl (by repeat' constructor) (by intro row hr; first | (simp at hr; subst hr; rfl) | (simp at hr; obtain ⟨_, _, rfl⟩ := hr; rfl) | simp at hr) rfl rfl (by simp; omega) (by simp; omega) ⟨offz rfl, ?_⟩)
    repeat (refine stp rfl ?_ ?_;·repeat' constructor)
    refine ⟨rfl, rfl, rfl, rfl, rfl, ?_, ?_, rfl, rfl, rfl, rfl, rfl, rfl, rfl, rfl, trivial⟩
    · refine Eq.trans (b := (g5, some (Cont.mk 146 4 [[.als 62 (g62 + l.length + 1) 0 (l.map ePost ++ [ePost q]).length, .mp 1 g1, .mp 2 g2, .mp 1003 g3]] 2))) rfl ?_
      rw [als_snoc ePost 62 g62 l q]; rfl
    · exact cont_snoc ePost g62 23 9 0 l q
  intro s2
  have hl2 : (((l ++ [q]).map ePost).length : Int) = l.length + 1 := by simp
  have fin : ∀ (st : St), st.reg 4 = I (l.length + 1) → st.reg 5 = I 0 → FitO st (bkX q0 q1 q2 q3 q4 q5 q6 x0 x1 x2 x3 x4 x5 x6 g1 g2 g3 g5 g62 (l ++ [q])) → InlPost lay.get Tryz.f46 (fun s' r => K (({ reg := s.reg, own := s'.own } : St).putR d r)) .ret st := fun st h1 h2 h3 =>
    inl_end2O (K := fun o r => K (({ reg := s.reg, own := o } : St).putR d r)) _ (.inl rfl) rfl h1 h2 h3 fun s1 => hyes s1
  rw [refE] at hr0
  by_cases h0 : p.op = 0
  · rw [if_pos h0] at hr0
    have hz : ¬ 0 < ordNo l p.order := by intro hc; rw [if_pos hc] at hr0; omega
    have hqq : q.order = p.order := by rw [← hq, cleanP, h0]; rfl
    have hput := mput_new (v := I (l.length + 1)) (ord_none hz)
    have e1 : ordR (l ++ [q]) = ordR l ++ [[.str p.order, I (l.length + 1)]] := by rw [hsn.1, ordK, hqo.1, if_pos h0, hqq]; simp [numV]
    have e2 : itmR (l ++ [q]) = itmR l := by rw [hsn.2.1, itmK, hqo.1, if_neg (by omega)]; simp
    have e3 : gonR (l ++ [q]) = gonR l := by rw [hsn.2.2, gonK, hqo.1, if_neg (by omega)]; simp
    rw [← e1] at hput
    rw [bkX, e2, e3] at fin
    repeat (refine stp rfl ?_ ?_;·repeat' constructor)
    rw [hl2]
    repeat (first|(refine stp rfl ?_ ?_;·repeat' constructor)|(refine pw_cond rfl (fun hA => absurd hA (by intro hA; simp only [decide_eq_true_eq, decide_eq_false_iff_not, Bool.not_eq_true', Bool.not_eq_false'] at hA; omega)) (fun _ => ?_))|(refine pw_cond rfl (fun _ => ?_) (fun hA => absurd hA (by intro hA; simp only [decide_eq_true_eq, decide_eq_false_iff_not, Bool.not_eq_true', Bool.not_eq_false'] at hA; omega))))
    refine pw_draw 7 [74, 75, 76, 77, 78, 79, 80] (by decide +kernel) ?_
    repeat (refine stp rfl ?_ ?_;·repeat' constructor)
    refine ps_run0 (o_msetG none 0 rfl rfl rfl rfl rfl rfl rfl rfl rfl rfl (ordR_keyed l) rfl rfl ?_)
    rw [show nrm 0 (I (l.length + 1)) = I (l.length + 1) from rfl, hput]
    repeat (refine stp rfl ?_ ?_;·repeat' constructor)
    exact fin _ rfl rfl ⟨rfl, rfl, rfl, rfl, rfl, rfl, rfl, rfl, rfl, rfl, rfl, rfl, trivial⟩
  rw [if_neg h0] at hr0
  by_cases h1 : p.op = 1
  · rw [if_pos h1] at hr0
    have hz : ¬ 0 < itmNo l p.order p.item := by
      intro hc; rw [if_pos hc] at hr0; split at hr0 <;> omega
    have hqq : q.order = p.order ∧ q.item = p.item := by rw [← hq, cleanP, h1]; exact ⟨rfl, rfl⟩
    have hput := mput_new (v := I (l.length + 1)) (itm_none hz)
    have e1 : ordR (l ++ [q]) = ordR l := by rw [hsn.1, ordK, hqo.1, if_neg h0]; simp
    have e2 : itmR (l ++ [q]) = itmR l ++ [[.agg [.str p.order, .str p.item], I (l.length + 1)]] := by rw [hsn.2.1, itmK, hqo.1, if_pos h1, hqq.1, hqq.2]; simp [numV]
    have e3 : gonR (l ++ [q]) = gonR l := by rw [hsn.2.2, gonK, hqo.1, if_neg (by omega)]; simp
    rw [← e2] at hput
    rw [bkX, e1, e3] at fin
    clear h0
    repeat (refine stp rfl ?_ ?_;·repeat' constructor)
    rw [hl2]
    repeat (first|(refine stp rfl ?_ ?_;·repeat' constructor)|(refine pw_cond rfl (fun hA => absurd hA (by intro hA; simp only [decide_eq_true_eq, decide_eq_false_iff_not, Bool.not_eq_true', Bool.not_eq_false'] at hA; omega)) (fun _ => ?_))|(refine pw_cond rfl (fun _ => ?_) (fun hA => absurd hA (by intro hA; simp only [decide_eq_true_eq, decide_eq_false_iff_not, Bool.not_eq_true', Bool.not_eq_false'] at hA; omega))))
    refine pw_draw 10 [83, 84, 85, 86, 87, 88, 89, 90, 91, 92] (by decide +kernel) ?_
    repeat (refine stp rfl ?_ ?_;·repeat' constructor)
    refine ps_run0 (o_msetG (some [.str, .str]) 0 rfl rfl rfl good72 rfl rfl rfl rfl rfl rfl (itmR_keyed l _) rfl rfl ?_)
    rw [show nrm 0 (I (l.length + 1)) = I (l.length + 1) from rfl]
    refine Eq.mp (congrArg (fun r => POps _ _ _ _ _ (St.setOwn _ 2 g2 (some ⟨143, 0, r, 0⟩))) hput.symm) ?_
    repeat (refine stp rfl ?_ ?_;·repeat' constructor)
    exact fin _ rfl rfl ⟨rfl, rfl, rfl, rfl, rfl, rfl, rfl, rfl, rfl, rfl, rfl, rfl, trivial⟩
  rw [if_neg h1] at hr0
  by_cases h8 : p.op = 8
  · rw [if_neg (by omega), if_neg (by omega), if_pos h8] at hr0
    have hqq : q.ref = p.ref := by rw [← hq, cleanP, h8]; rfl
    have hput := mput_new (v := .bool true) (gon_none hW hr0)
    have e1 : ordR (l ++ [q]) = ordR l := by rw [hsn.1, ordK, hqo.1, if_neg h0]; simp
    have e2 : itmR (l ++ [q]) = itmR l := by rw [hsn.2.1, itmK, hqo.1, if_neg h1]; simp
    have e3 : gonR (l ++ [q]) = gonR l ++ [[I p.ref, .bool true]] := by rw [hsn.2.2, gonK, hqo.1, if_pos h8, hqq]
    rw [← e3] at hput
    rw [bkX, e1, e2] at fin
    clear h0 h1
    repeat (refine stp rfl ?_ ?_;·repeat' constructor)
    rw [hl2]
    repeat (first|(refine stp rfl ?_ ?_;·repeat' constructor)|(refine pw_cond rfl (fun hA => absurd hA (by intro hA; simp only [decide_eq_true_eq, decide_eq_false_iff_not, Bool.not_eq_true', Bool.not_eq_false'] at hA; omega)) (fun _ => ?_))|(refine pw_cond rfl (fun _ => ?_) (fun hA => absurd hA (by intro hA; simp only [decide_eq_true_eq, decide_eq_false_iff_not, Bool.not_eq_true', Bool.not_eq_false'] at hA; omega))))
    refine pw_draw 6 [95, 96, 97, 98, 99, 100] (by decide +kernel) ?_
    repeat (refine stp rfl ?_ ?_;·repeat' constructor)
    refine ps_run0 (o_msetG none 0 rfl rfl rfl rfl rfl rfl rfl rfl rfl rfl (gonR_keyed l) rfl rfl ?_)
    rw [show nrm 0 (.bool true) = .bool true from rfl, hput]
    repeat (refine stp rfl ?_ ?_;·repeat' constructor)
    exact fin _ rfl rfl ⟨rfl, rfl, rfl, rfl, rfl, rfl, rfl, rfl, rfl, rfl, rfl, rfl, trivial⟩
  have e1 : ordR (l ++ [q]) = ordR l := by rw [hsn.1, ordK, hqo.1, if_neg h0]; simp
  have e2 : itmR (l ++ [q]) = itmR l := by rw [hsn.2.1, itmK, hqo.1, if_neg h1]; simp
  have e3 : gonR (l ++ [q]) = gonR l := by rw [hsn.2.2, gonK, hqo.1, if_neg h8]; simp
  rw [bkX, e1, e2, e3] at fin
  repeat (refine stp rfl ?_ ?_;·repeat' constructor)
  rw [hl2]
  repeat (first|(refine stp rfl ?_ ?_;·repeat' constructor)|(refine pw_cond rfl (fun hA => absurd hA (by intro hA; simp only [decide_eq_true_eq, decide_eq_false_iff_not, Bool.not_eq_true', Bool.not_eq_false'] at hA; omega)) (fun _ => ?_))|(refine pw_cond rfl (fun _ => ?_) (fun hA => absurd hA (by intro hA; simp only [decide_eq_true_eq, decide_eq_false_iff_not, Bool.not_eq_true', Bool.not_eq_false'] at hA; omega))))
  exact fin _ rfl rfl ⟨rfl, rfl, rfl, rfl, rfl, rfl, rfl, rfl, rfl, rfl, rfl, rfl, trivial⟩
end Go.Pv


set_option maxHeartbeats 2000000
namespace Go.Pv
attribute [local irreducible] PWP POps PQuiet PSem XThen XBlock RetPost InlPost
open Go.Proofs
def recS (l : List SPost) (n : Int) (s : Str) : Option (SPost × Int) :=
  match progC (Lib.cut s [32, 35]).1 with
  | none => none
  | some c => if s = lineT n (textP c) then (if refusalR l c = 0 then some (cleanP c, sumF n (textP c)) else none) else none
theorem prog_fine {s : Str} {c : SPost} (h : progC s = some c) : checkE c = 0 ∧ textP c = s := by
  rw [progC, progC1] at h
  split at h
  · cases h
  split at h
  · cases h
  rw [progC2] at h
  split at h
  · cases h
  split at h
  · cases h
  unfold progF at h
  split at h
  · cases h
  · split at h
    · rename_i hc
      cases h; exact hc
    · cases h
theorem prog_clean {s : Str} {c : SPost} (h : progC s = some c) : cleanP c = c := by
  obtain ⟨h1, h2⟩ := prog_fine h
  have h3 := prog_back h1
  rw [h2, h] at h3
  exact (Option.some.inj h3).symm
theorem cut_le (s t : Str) : (Lib.cut s t).1.length ≤ s.length := by
  unfold Lib.cut
  split <;> simp <;> omega
def findR : Code → Option (Array Tmp × Code × Code)
  | .rangeFunc _ ps a b => some (ps, a, b)
  | .seq x y => match findR x with | some r => some r | none => findR y
  | .block _ c => findR c
  | .loop c => findR c
  | .cond _ x y => match findR x with | some r => some r | none => findR y
  | _ => none
noncomputable def rcR : Array Tmp × Code × Code := (findR ((Tryz.f21.body).getD .skip)).getD (#[], .skip, .skip)
noncomputable abbrev rcRec (st : LoopState) (pend : Option Code) (regs : Nat → PV) : Cont := rndC #[20] rcR.2.1 rcR.2.2 st pend regs
noncomputable def rcO (q0 q1 q2 q3 q4 q5 q6 : Nat) (st : LoopState) (regs : Nat → PV) (x4 x5 x6 : Cont) (g1 g2 g3 g5 g62 : Nat) (l : List SPost) (n a : Int) : List (Nat × Nat × Cont) :=
  bkX q0 q1 q2 q3 q4 q5 q6 (rcRec st none regs) ⟨41, 1, [[.ptr 1005 g5 0 0]], 2⟩ ⟨3, 1, [[I a]], 2⟩ ⟨3, 1, [[I n]], 2⟩ x4 x5 x6 g1 g2 g3 g5 g62 l
def rcG (q1 q2 q3 : Nat) : List (Nat × PV) := [(4, .ptr 2001 q1 0 0), (5, .ptr 2002 q2 0 0), (6, .ptr 2003 q3 0 0)]
set_option maxRecDepth 20000 in
theorem rec_round {Post : Exit → St → Prop} {q0 q1 q2 q3 q4 q5 q6 g1 g2 g3 g5 g62 : Nat} {x4 x5 x6 : Cont} (s0 s1 : St) (l : List SPost) (hA : Acc l) (n a : Int) (s : Str) (hs : s.length ≤ 100000) (h0 : 0 ≤ n) (h1 : n < 65521) (ha0 : 0 ≤ a) (ha1 : a ≤ 100000)
    (hno : ∀ s2, recS l n s = none → FitO s2 (rcO q0 q1 q2 q3 q4 q5 q6 .busy (s0.over (rcG q1 q2 q3) []).reg x4 x5 x6 g1 g2 g3 g5 g62 l n a) → Post (.exit 0) s2)
    (hyes : ∀ s2 c m, recS l n s = some (c, m) → FitO s2 (rcO q0 q1 q2 q3 q4 q5 q6 .busy (s0.over (rcG q1 q2 q3) []).reg x4 x5 x6 g1 g2 g3 g5 g62 (l ++ [c]) m (a + s.length)) → Post .normal s2) :
    PWP Tryz.prog lay.get rcR.2.1 (XThen (fun s2 => s2.own 2000 = (q0, some (rcRec .ready none (s0.over (rcG q1 q2 q3) []).reg)) ∧ PWP Tryz.prog lay.get rcR.2.2 Post { reg := s2.reg, own := (s2.setOwn 2000 q0 (some (rcRec .busy none (s0.over (rcG q1 q2 q3) []).reg))).own }) (fun _ _ => False))
      { reg := bindP [(20, .str s)] (s0.over (rcG q1 q2 q3) []).reg, own := (s1.over [] (rcO q0 q1 q2 q3 q4 q5 q6 .ready (s0.over (rcG q1 q2 q3) []).reg x4 x5 x6 g1 g2 g3 g5 g62 l n a)).own } := by
  have hW := hA.ok.wf
  refine pw_region ?_
  repeat (refine stp rfl ?_ ?_;·repeat' constructor)
  refine ⟨rfl, ?_⟩
  have hcut := cut_mark s [32, 35] (by omega)
  have hcl : (Lib.cut s [32, 35]).1.length ≤ 100000 := Nat.le_trans (cut_le s [32, 35]) hs
  have hpar := parse_ret (Lib.cut s [32, 35]).1 (by omega)
  rw [recS] at hno hyes
  generalize Lib.cut s [32, 35] = ct at *
  repeat (refine stp rfl ?_ ?_;·repeat' constructor)
  apply qst;exact rfl;exact rfl;exact q_callP rfl (hcut) rfl (by repeat' constructor) rfl rfl
  repeat (refine stp rfl ?_ ?_;·repeat' constructor)
  rcases hpc : progC ct.1 with _ | c
  · rw [hpc] at hpar hno
    replace hno := fun s2 => hno s2 rfl
    clear hyes
    repeat (refine stp rfl ?_ ?_;·repeat' constructor)
    apply qst;exact rfl;exact rfl;exact q_callF rfl (hpar) rfl (by repeat' constructor) rfl
    repeat (refine stp rfl ?_ ?_;·repeat' constructor)
    exact hno _ ⟨rfl, rfl, rfl, rfl, rfl, rfl, rfl, rfl, rfl, rfl, rfl, rfl, trivial⟩
  rw [hpc] at hpar hno hyes
  obtain ⟨hc0, hct⟩ := prog_fine hpc
  have hln := line_ret c n hc0 h0 h1
  simp only at hno hyes
  repeat (refine stp rfl ?_ ?_;·repeat' constructor)
  apply qst;exact rfl;exact rfl;exact q_callF rfl (hpar) rfl (by repeat' constructor) rfl
  repeat (refine stp rfl ?_ ?_;·repeat' constructor)
  apply qst;exact rfl;exact rfl;exact q_callP rfl (hln) rfl (by repeat' constructor) rfl rfl
  repeat (refine stp rfl ?_ ?_;·repeat' constructor)
  refine pw_cond rfl (fun h => ?_) (fun h => ?_)
  · have hne : ¬ s = lineT n (textP c) := by simpa using h
    rw [if_neg hne] at hno
    repeat (refine stp rfl ?_ ?_;·repeat' constructor)
    exact hno _ rfl ⟨rfl, rfl, rfl, rfl, rfl, rfl, rfl, rfl, rfl, rfl, rfl, rfl, trivial⟩
  have heq : s = lineT n (textP c) := by simpa using h
  clear h
  rw [if_pos heq] at hno hyes
  ((repeat ((fail_if_success (with_reducible refine pw_at 10 ?_)); (refine stp rfl ?_ ?_;·repeat' (first|exact True.intro|exact rfl|refine And.intro ?_ ?_)))); refine pw_regionS 2 ?_)
  repeat (refine stp rfl ?_ ?_;·repeat' constructor)
  refine psem_sm rfl (post_inlX (g1 := g1) (g2 := g2) (g3 := g3) (g5 := g5) (g62 := g62) l hW c rfl rfl ⟨rfl, rfl, rfl, rfl, rfl, rfl, rfl, rfl, rfl, rfl, rfl, rfl, trivial⟩ (fun s2 hne => ?_) (fun s2 hz => ?_))
  · rw [if_neg hne] at hno
    refine psem_ops ?_
    repeat (refine stp rfl ?_ ?_;·repeat' constructor)
    refine pw_cond rfl (fun h => ?_) (fun h => ?_)
    · repeat (refine stp rfl ?_ ?_;·repeat' constructor)
      exact hno _ rfl ⟨rfl, rfl, rfl, rfl, rfl, rfl, rfl, rfl, rfl, rfl, rfl, rfl, trivial⟩
    · exact absurd (by simpa using h) hne
  · rw [if_pos hz] at hyes
    refine psem_ops ?_
    repeat (refine stp rfl ?_ ?_;·repeat' constructor)
    refine hyes _ _ _ rfl ⟨rfl, rfl, rfl, rfl, rfl, rfl, rfl, ?_, rfl, rfl, rfl, rfl, trivial⟩
    refine Eq.trans (b := (q2, some (Cont.mk 3 1 [[I (IntKind.wrap .i64 (a + ((s.length : Nat) : Int)))]] 2))) rfl ?_
    rw [wrap_i64 (by omega) (by omega)]
end Go.Pv


set_option maxHeartbeats 2000000
namespace Go.Pv
attribute [local irreducible] PWP POps PQuiet PSem XThen XBlock RetPost InlPost
open Go.Proofs
set_option maxRecDepth 20000 in
theorem new_inlX {K : St → Prop} {s : St} {d : Nat} {ty : TypeId} {pos : String} {af : Array Edge}
    (hK : ∀ (s1 : St) (g1 g2 g3 g5 g62 : Nat), K (({ reg := s.reg, own := (s1.over [] [(1, g1, ⟨142, 0, [], 0⟩), (2, g2, ⟨143, 0, [], 0⟩), (1005, g5, ⟨146, 4, [[.als 62 g62 0 0, .mp 1 g1, .mp 2 g2, .mp 1003 g3]], 2⟩), (62, g62, ⟨23, 9, [], 0⟩), (1003, g3, ⟨144, 0, [], 0⟩)]).own } : St).putR d (.ptr 1005 g5 0 0))) :
    Sm Tryz.prog lay.get s ⟨some d, .call ⟨.value (.func 73), #[], #[]⟩, ty, pos, af, none⟩ K := by
  refine sm_inline layOk rfl rfl Tryz.func73 rfl (by decide) rfl rfl ?_
  show PWP _ _ _ _ (callSt s [])
  repeat (refine stp rfl ?_ ?_;·repeat' constructor)
  refine ps_run (o_mkmap rfl ?_)
  refine ps_run (o_mkmap rfl ?_)
  refine ps_run (o_mkmap rfl ?_)
  iterate 5 (refine stp rfl ?_ ?_;·repeat' constructor)
  refine pw_ghost (Ghost.move (k := 5) (k' := 1005) (t := 0) rfl rfl rfl rfl) ?_
  refine pw_ghost (Ghost.moveC (k := 3) (k' := 1003) (k0 := 1005) (i := 0) (j := 3) rfl rfl rfl rfl rfl rfl rfl rfl rfl rfl) ?_
  refine pw_ghost (Ghost.nilcell (k := 62) (k0 := 1005) (i := 0) (j := 0) 23 9 0 rfl rfl rfl rfl rfl rfl rfl) ?_
  repeat (refine stp rfl ?_ ?_;·repeat' constructor)
  refine inl_end1O (t := 0) (v := .ptr 1005 ((s.own 1005).1 + 1) 0 0) (K := fun o r => K (({ reg := s.reg, own := o } : St).putR d r)) [(1, (s.own 1).1 + 1, ⟨142, 0, [], 0⟩), (2, (s.own 2).1 + 1, ⟨143, 0, [], 0⟩), (1005, (s.own 1005).1 + 1, ⟨146, 4, [[.als 62 ((s.own 62).1 + 1) 0 0, .mp 1 ((s.own 1).1 + 1), .mp 2 ((s.own 2).1 + 1), .mp 1003 ((s.own 1003).1 + 1)]], 2⟩), (62, (s.own 62).1 + 1, ⟨23, 9, [], 0⟩), (1003, (s.own 1003).1 + 1, ⟨144, 0, [], 0⟩)] (.inl rfl) ?_ ?_ ?_ fun s1 => hK s1 _ _ _ _ _
  · rfl
  · rfl
  · exact ⟨rfl, rfl, rfl, rfl, rfl, trivial⟩
end Go.Pv


set_option maxHeartbeats 2000000
namespace Go.Pv
attribute [local irreducible] PWP POps PQuiet PSem XThen XBlock RetPost InlPost
open Go.Proofs
def recG : Nat → Str → List SPost → Int → Int → List SPost × Int
  | 0, _, l, _, a => (l, a)
  | f + 1, r, l, n, a =>
    if Lib.indexByte r 10 < 0 then (match recS l n r with
      | none => (l, a)
      | some (c, m) => (l ++ [c], a + r.length))
    else (match recS l n (r.take ((Lib.indexByte r 10).toNat + 1)) with
      | none => (l, a)
      | some (c, m) => recG f (r.drop ((Lib.indexByte r 10).toNat + 1)) (l ++ [c]) m (a + ((Lib.indexByte r 10).toNat + 1 : Nat)))
def recP (t : Str) : List SPost × Int := recG (t.length + 1) t [] 1 0
theorem index_one (s : Str) (c : UInt8) : Ret Tryz.prog .shared 155 [.str s, .str [c]] (I (Lib.indexByte s c)) := by
  refine ⟨⟨_, Go.Proofs.Tryz.func155, by decide, rfl⟩, fun w X args hg hX hl hargs => ?_⟩
  match args, hl with
  | [v, u], _ =>
    have hv := hargs 0 _ v rfl rfl
    have hu := hargs 1 _ u rfl rfl
    cases hv
    cases hu
    refine (Go.Proofs.Tryz.strings_Index_one ⟨s.toArray⟩ c w).mono ?_
    rintro e w' ⟨rfl, rfl⟩
    exact ⟨_, rfl, ⟨rfl, rfl, rfl, Nat.le_refl _, fun _ _ => rfl⟩, .int _ _⟩
theorem recS_some {l : List SPost} {n m : Int} {s : Str} {c : SPost} (h : recS l n s = some (c, m)) : ∃ c0, progC (Lib.cut s [32, 35]).1 = some c0 ∧ s = lineT n (textP c0) ∧ refusalR l c0 = 0 ∧ c = cleanP c0 ∧ m = sumF n (textP c0) := by
  rw [recS] at h
  split at h
  · cases h
  · rename_i c0 hp
    split at h
    · rename_i hs
      split at h
      · rename_i hr
        cases h
        exact ⟨c0, hp, hs, hr, rfl, rfl⟩
      · cases h
    · cases h
theorem pw_lp {P : Program} {L : Lay} {x : Code} {Q : Exit → St → Prop} {s : St} (h : PWP P L (.loop x) Q s) : PWP P L (.loop x) Q s := h
def RecI (t : Str) (k : Nat × Str × List SPost × Int × Int) : Prop :=
  recG k.1 k.2.1 k.2.2.1 k.2.2.2.1 k.2.2.2.2 = recP t ∧ Acc k.2.2.1 ∧ 0 ≤ k.2.2.2.1 ∧ k.2.2.2.1 < 65521 ∧ 0 ≤ k.2.2.2.2 ∧ k.2.2.2.2 + k.2.1.length = t.length ∧ k.2.1.length < k.1
theorem inl_one {L : Lay} {fn : Func} {K : St → PV → Prop} {s : St} {t : Nat} {v : PV} (h : fn.results.toList = [.tmp t]) (h1 : s.reg t = v) (hk : K s v) : InlPost L fn K .ret s := by
  unfold InlPost
  refine ⟨[s.reg t], True ∧ True, by rw [h]; rfl, ⟨trivial, trivial⟩, ?_⟩
  rw [h1]; exact hk
theorem pw_norm {P : Program} {L : Lay} {x : Code} {Q : Exit → St → Prop} {s : St} (R : List (Nat × PV)) (O : List (Nat × Nat × Cont)) (hf : Fit s R O) (h : ∀ s1 : St, PWP P L x Q (s1.over R O)) : PWP P L x Q s := by
  have := h s
  rwa [Fit.over hf] at this
set_option maxRecDepth 20000 in
theorem recover_ret (t : Str) (ht : t.length ≤ 100000) : Ret Tryz.prog .fresh 21 [.str t] (.tup [.dref (eBook (recP t).1) 0, I (recP t).2]) := by
  refine Ret.of_pwpR layOk mixed Go.Proofs.Tryz.func21 rfl (by decide) rfl rfl rfl ?_
  ((repeat ((fail_if_success (with_reducible refine pw_at 1 ?_)); (refine stp rfl ?_ ?_;·repeat' (first|exact True.intro|exact rfl|refine And.intro ?_ ?_)))); refine pw_regionS 0 ?_)
  refine ps_nil ?_
  refine psem_sm rfl (new_inlX fun s1 g1 g2 g3 g5 g62 => ?_)
  refine psem_ops ?_
  (repeat ((fail_if_success (with_reducible refine pw_at 3 ?_)); (refine stp rfl ?_ ?_;·repeat' (first|exact True.intro|exact rfl|refine And.intro ?_ ?_))))
  refine pw_ghost (Ghost.move (k := 4) (k' := 2001) (t := 4) rfl rfl rfl rfl) ?_
  refine pw_ghost (Ghost.move (k := 5) (k' := 2002) (t := 5) rfl rfl rfl rfl) ?_
  refine pw_ghost (Ghost.move (k := 6) (k' := 2003) (t := 6) rfl rfl rfl rfl) ?_
  refine pw_norm [(0, .str t), (4, .ptr 2001 ((s1.own 2001).1 + 1) 0 0), (5, .ptr 2002 ((s1.own 2002).1 + 1) 0 0), (6, .ptr 2003 ((s1.own 2003).1 + 1) 0 0)]
    [(1, g1, ⟨142, 0, [], 0⟩), (2, g2, ⟨143, 0, [], 0⟩), (1005, g5, ⟨146, 4, [[.als 62 g62 0 0, .mp 1 g1, .mp 2 g2, .mp 1003 g3]], 2⟩), (62, g62, ⟨23, 9, [], 0⟩), (1003, g3, ⟨144, 0, [], 0⟩), (2001, (s1.own 2001).1 + 1, ⟨41, 1, [[.ptr 1005 g5 0 0]], 2⟩), (2002, (s1.own 2002).1 + 1, ⟨3, 1, [[I 0]], 2⟩), (2003, (s1.own 2003).1 + 1, ⟨3, 1, [[I 1]], 2⟩)]
    ⟨rfl, rfl, rfl, rfl, rfl, rfl, rfl, rfl, rfl, rfl, rfl, rfl, trivial⟩ ?_
  generalize (s1.own 2001).1 + 1 = q1
  generalize (s1.own 2002).1 + 1 = q2
  generalize (s1.own 2003).1 + 1 = q3
  intro s2
  ((repeat ((fail_if_success (with_reducible refine pw_at 3 ?_)); (refine stp rfl ?_ ?_;·repeat' (first|exact True.intro|exact rfl|refine And.intro ?_ ?_)))); refine pw_regionS 1 ?_)
  iterate 1 (refine stp rfl ?_ ?_;·repeat' constructor)
  refine ps_nil ?_
  refine psem_sm rfl (sm_inline layOk rfl rfl Go.Proofs.Tryz.func74 rfl (by decide) rfl rfl ?_)
  ((repeat ((fail_if_success (with_reducible refine pw_at 1 ?_)); (refine stp rfl ?_ ?_;·repeat' (first|exact True.intro|exact rfl|refine And.intro ?_ ?_)))); refine pw_regionS 4 ?_)
  iterate 4 (refine stp rfl ?_ ?_;·repeat' constructor)
  refine ps_nil ?_
  refine psem_sm rfl (sm_inline layOk rfl rfl Go.Proofs.Tryz.func125 rfl (by decide) rfl rfl ?_)
  (repeat ((fail_if_success (with_reducible refine pw_at 1 ?_)); (refine stp rfl ?_ ?_;·repeat' (first|exact True.intro|exact rfl|refine And.intro ?_ ?_))))
  refine pw_ghost (Ghost.move (k := 3) (k' := 2005) (t := 3) rfl rfl rfl rfl) ?_
  refine pw_ghost (Ghost.move (k := 4) (k' := 2004) (t := 4) rfl rfl rfl rfl) ?_
  refine pw_ghost (Ghost.move (k := 5) (k' := 2006) (t := 5) rfl rfl rfl rfl) ?_
  repeat (refine stp rfl ?_ ?_;·repeat' constructor)
  refine inl_one rfl rfl ?_
  refine psem_ops ?_
  repeat (refine stp rfl ?_ ?_;·repeat' constructor)
  refine inl_one rfl rfl ?_
  refine psem_ops ?_
  repeat (refine stp rfl ?_ ?_;·repeat' constructor)
  refine pw_norm [(4, .ptr 2001 q1 0 0), (5, .ptr 2002 q2 0 0), (6, .ptr 2003 q3 0 0), (19, .clo 161 [.ptr 2004 ((s2.own 2004).1 + 1) 0 0, .ptr 2005 ((s2.own 2005).1 + 1) 0 0, .ptr 2006 ((s2.own 2006).1 + 1) 0 0])]
    [(1, g1, ⟨142, 0, [], 0⟩), (2, g2, ⟨143, 0, [], 0⟩), (1005, g5, ⟨146, 4, [[.als 62 g62 0 0, .mp 1 g1, .mp 2 g2, .mp 1003 g3]], 2⟩), (62, g62, ⟨23, 9, [], 0⟩), (1003, g3, ⟨144, 0, [], 0⟩), (2001, q1, ⟨41, 1, [[.ptr 1005 g5 0 0]], 2⟩), (2002, q2, ⟨3, 1, [[I 0]], 2⟩), (2003, q3, ⟨3, 1, [[I 1]], 2⟩),
      (2004, (s2.own 2004).1 + 1, ⟨9, 1, [[.str [10]]], 2⟩), (2005, (s2.own 2005).1 + 1, ⟨9, 1, [[.str t]], 2⟩), (2006, (s2.own 2006).1 + 1, ⟨3, 1, [[I 1]], 2⟩)]
    ⟨rfl, rfl, rfl, rfl, rfl, rfl, rfl, rfl, rfl, rfl, rfl, rfl, rfl, rfl, rfl, trivial⟩ ?_
  generalize (s2.own 2004).1 + 1 = q4
  generalize (s2.own 2005).1 + 1 = q5
  generalize (s2.own 2006).1 + 1 = q6
  intro s3
  refine pw_range (range_inl 2000 rfl Go.Proofs.Tryz.func161 rfl rfl rfl rfl rfl rfl ?_)
  generalize hq0 : (s3.own 2000).1 + 1 = q0
  (repeat ((fail_if_success (with_reducible refine pw_lp ?_)); (refine stp rfl ?_ ?_;·repeat' (first|exact True.intro|exact rfl|refine And.intro ?_ ?_))))
  refine pw_loop (RecI t) (fun _ => [(0, .yl 2000 q0), (1, .ptr 2004 q4 0 0), (2, .ptr 2005 q5 0 0), (3, .ptr 2006 q6 0 0)])
    (fun k => rcO q0 q1 q2 q3 q4 q5 q6 .ready ((s3.over [(19, .clo 161 [.ptr 2004 q4 0 0, .ptr 2005 q5 0 0, .ptr 2006 q6 0 0])] []).over (rcG q1 q2 q3) []).reg ⟨9, 1, [[.str [10]]], 2⟩ ⟨9, 1, [[.str k.2.1]], 2⟩ ⟨3, 1, [[I 1]], 2⟩ g1 g2 g3 g5 g62 k.2.2.1 k.2.2.2.1 k.2.2.2.2)
    (fun k => k.1) (t.length + 1, t, [], 1, 0) ⟨rfl, .nil, (show (0 : Int) ≤ 1 by decide), (show (1 : Int) < 65521 by decide), (show (0 : Int) ≤ 0 by decide), by simp, Nat.lt_succ_self _⟩ ⟨rfl, rfl, rfl, rfl, rfl, rfl, rfl, rfl, rfl, by rw [← hq0]; rfl, rfl, rfl, rfl, rfl, rfl, rfl, trivial⟩ ?_
  rintro ⟨f, r, l, n, a⟩ st ⟨hG, hA, hn0, hn1, ha0, har, hf⟩
  simp only at hG hA hn0 hn1 ha0 har hf
  dsimp only
  have hix := index_one r 10
  repeat (refine stp rfl ?_ ?_;·repeat' constructor)
  apply qst;exact rfl;exact rfl;exact q_callP rfl (hix) rfl (by repeat' constructor) rfl rfl
  repeat (refine stp rfl ?_ ?_;·repeat' constructor)
  refine pw_cond rfl (fun h => ?_) (fun h => ?_)
  · have hi : Lib.indexByte r 10 < 0 := of_decide_eq_true h
    clear h
    (repeat ((fail_if_success (with_reducible refine pw_at 10 ?_)); (refine stp rfl ?_ ?_;·repeat' (first|exact True.intro|exact rfl|refine And.intro ?_ ?_))))
    refine pw_regionI 2 ?_
    iterate 2 (refine stp rfl ?_ ?_;·repeat' constructor)
    refine ps_nil ?_
    refine psemi_sm rfl (sm_yield rfl rfl rfl rfl rfl ?_)
    refine rec_round (s3.over [(19, .clo 161 [.ptr 2004 q4 0 0, .ptr 2005 q5 0 0, .ptr 2006 q6 0 0])] []) st l hA n a r (by omega) hn0 hn1 ha0 (by omega) (fun s4 hr hfit => ?_) (fun s4 c m hr hfit => ?_)
    · rw [← Fit.over (l := []) hfit]
      refine ⟨rfl, ?_⟩
      refine psemi_ops ?_
      repeat (refine stp rfl ?_ ?_;·repeat' constructor)
      refine .inr (.inl ⟨0, rfl, ?_⟩)
      repeat (refine stp rfl ?_ ?_;·repeat' constructor)
      refine pw_draw 4 [56, 57, 2, 3] (by decide +kernel) ?_
      repeat (refine stp rfl ?_ ?_;·repeat' constructor)
      refine end2f rfl rfl rfl rfl rfl (by repeat' constructor) trivial ?_
      have he : recP t = (l, a) := by
        rw [← hG]
        cases f with
        | zero => omega
        | succ f => rw [recG, if_pos hi, hr]
      rw [he]
      rfl
    · rw [← Fit.over (l := []) hfit]
      refine ⟨rfl, ?_⟩
      refine psemi_ops ?_
      repeat (refine stp rfl ?_ ?_;·repeat' constructor)
      refine .inl ⟨rfl, ?_⟩
      repeat (refine stp rfl ?_ ?_;·repeat' constructor)
      refine pw_draw 4 [56, 57, 2, 3] (by decide +kernel) ?_
      repeat (refine stp rfl ?_ ?_;·repeat' constructor)
      refine end2f rfl rfl rfl rfl rfl (by repeat' constructor) trivial ?_
      have he : recP t = (l ++ [c], a + r.length) := by
        rw [← hG]
        cases f with
        | zero => omega
        | succ f => rw [recG, if_pos hi, hr]
      rw [he]
      rfl
  · have hi : ¬ Lib.indexByte r 10 < 0 := of_decide_eq_false h
    clear h
    repeat (refine stp rfl ?_ ?_;·repeat' constructor)
    have hlt := Lib.indexByte_ge r 10
    obtain ⟨i, hii⟩ : ∃ i : Nat, Lib.indexByte r 10 = i := ⟨(Lib.indexByte r 10).toNat, by omega⟩
    have hat := (Lib.indexByte_some hii).1
    have hil : i < r.length := (List.getElem?_eq_some_iff.1 hat).1
    rw [hii]
    have hw : IntKind.wrap .i64 ((i : Int) + 1) = ((i + 1 : Nat) : Int) := by rw [wrap_i64 (by omega) (by omega)]; omega
    rw [hw]
    apply qst;exact rfl;exact rfl;exact q_ssH layOk rfl rfl rfl rfl (by omega) (by omega)
    rw [Int.toNat_natCast]
    have hpl : (r.take (i + 1)).length = i + 1 := by rw [List.length_take]; omega
    obtain ⟨f, rfl⟩ : ∃ f', f = f' + 1 := ⟨f - 1, by omega⟩
    rw [recG, if_neg (by rw [hii]; omega), hii, Int.toNat_natCast] at hG
    (repeat ((fail_if_success (with_reducible refine pw_at 8 ?_)); (refine stp rfl ?_ ?_;·repeat' (first|exact True.intro|exact rfl|refine And.intro ?_ ?_))))
    refine pw_regionI 2 ?_
    iterate 2 (refine stp rfl ?_ ?_;·repeat' constructor)
    refine ps_nil ?_
    refine psemi_sm rfl (sm_yield rfl rfl rfl rfl rfl ?_)
    refine rec_round (s3.over [(19, .clo 161 [.ptr 2004 q4 0 0, .ptr 2005 q5 0 0, .ptr 2006 q6 0 0])] []) st l hA n a (r.take (i + 1)) (by omega) hn0 hn1 ha0 (by omega) (fun s4 hr hfit => ?_) (fun s4 c m hr hfit => ?_)
    · rw [← Fit.over (l := []) hfit]
      refine ⟨rfl, ?_⟩
      refine psemi_ops ?_
      repeat (refine stp rfl ?_ ?_;·repeat' constructor)
      refine .inr (.inl ⟨0, rfl, ?_⟩)
      repeat (refine stp rfl ?_ ?_;·repeat' constructor)
      refine pw_draw 4 [56, 57, 2, 3] (by decide +kernel) ?_
      repeat (refine stp rfl ?_ ?_;·repeat' constructor)
      refine end2f rfl rfl rfl rfl rfl (by repeat' constructor) trivial ?_
      rw [hr] at hG
      rw [← hG]
      rfl
    · rw [← Fit.over (l := []) hfit]
      refine ⟨rfl, ?_⟩
      refine psemi_ops ?_
      rw [hr] at hG
      simp only at hG
      repeat (refine stp rfl ?_ ?_;·repeat' constructor)
      rw [show IntKind.wrap .i64 ((i : Int) + ((([10] : Str).length : Nat) : Int)) = ((i + 1 : Nat) : Int) from hw]
      apply qst;exact rfl;exact rfl;exact q_ssT layOk rfl rfl rfl rfl (by omega) (by omega)
      rw [Int.toNat_natCast]
      repeat (refine stp rfl ?_ ?_;·repeat' constructor)
      obtain ⟨c0, _, _, hr0, rfl, rfl⟩ := recS_some hr
      have hsr := sumF_range (textP c0) hn0 hn1
      refine ⟨(f, r.drop (i + 1), l ++ [cleanP c0], sumF n (textP c0), a + ((r.take (i + 1)).length : Nat)), ⟨by rw [hpl]; exact hG, hA.snoc hr0, hsr.1, hsr.2, by simp only; omega, ?_, ?_⟩, Nat.lt_succ_self _, ?_⟩
      · simp only [hpl, List.length_drop]; omega
      · simp only [List.length_drop]; omega
      · exact ⟨rfl, rfl, rfl, rfl, rfl, rfl, rfl, rfl, rfl, rfl, rfl, rfl, rfl, rfl, rfl, rfl, trivial⟩
end Go.Pv


namespace Go.Pv
open Go.RowKit
variable [Globs]
section
variable {L : Lay} {s : St} {fn : Func} {r : PV}
end
end Go.Pv


namespace Go.Pv
open Go.RowKit
def plain1 : PV → Bool
  | .int _ _ | .bool _ | .str _ => true
  | _ => false
theorem plain_val {E : Env} {c : PV} {v : Value} (h : plain1 c = true) (hr : Rep E c v) : v = scv c := by
  cases c <;> simp only [plain1, Bool.false_eq_true] at h
  · exact hr.bool_inv
  · exact hr.int_inv
  · exact hr.str_inv
theorem plain_drep {c : PV} (h : plain1 c = true) (w : World) (ok : Nat → Prop) : DRep w ok c (scv c) ∧ (scv c).oneCell' = true := by
  cases c <;> simp only [plain1, Bool.false_eq_true] at h
  · exact ⟨.bool _, rfl⟩
  · exact ⟨.int _ _, rfl⟩
  · exact ⟨.str _, rfl⟩
variable [Globs]
theorem Ghost.nilfs {s : St} {t : Nat} (hr : s.reg t = .nil) : Ghost s (s.putR t (.fsl [])) := by
  intro C a w hX ⟨γ, h⟩
  refine ⟨γ, h.defers, h.size, fun r => ?_, h.sites, h.inj, h.base, h.below, h.top, h.kept⟩
  show Rep _ (bif Nat.beq r t then _ else s.reg r) _
  by_cases hrt : r = t
  · subst hrt
    have hp := h.regs r
    rw [hr] at hp
    simp only [Nat.beq_refl, cond_true]
    rw [hp.nil_inv]
    exact .fsl (.sl0 _ _)
  · rw [nbeq_ne hrt]; exact h.regs r
theorem Ghost.takeF {s : St} {k g t n kd sz : Nat} {T : TypeId} {rows : List (List PV)} {α : Type} {enc : α → List PV} (l : List α) (ho : s.own k = (g, some ⟨T, sz, rows, kd⟩)) (hr : s.reg t = .als k g 0 n) (he : rows = l.map enc) (hn : n = rows.length) (hpl : ∀ x, (enc x).all plain1 = true) :
    Ghost s ((s.setOwn k (g + 1) none).putR t (.fsl (l.map enc))) := by
  intro C a w hX ⟨γ, h⟩
  subst hn
  subst he
  obtain ⟨h1, hle, _⟩ := h.drop hX ho
  refine ⟨γ, h1.defers, h1.size, fun r => ?_, h1.sites, h1.inj, h1.base, h1.below, h1.top, h1.kept⟩
  show Rep _ (bif Nat.beq r t then _ else (s.setOwn k (g + 1) none).reg r) _
  by_cases hrt : r = t
  · subst hrt
    have hp := h.regs r
    rw [hr] at hp
    simp only [Nat.beq_refl, cond_true]
    refine .fsl ?_
    rcases h.als_at hp ho with ⟨q1, _, q3, q4⟩ | ⟨b, cap, cur, q1, q2, q3, q4, q5, q6, q7⟩
    · have : l.map enc = [] := (h.sites k _ (by rw [ho])).emp q1
      rw [this, q4]
      exact .sl0 _ _
    · obtain ⟨cur', g1, g2, g3, g4, g5⟩ := h.site_at ho q1 (h.cells_sz ho q1 q3 q6)
      have hb : (envOf C γ (s.setOwn k (g + 1) none) w).okf b := by
        have hbase := h.base k _ b (by rw [ho]) q1
        refine ⟨hbase.1, hbase.2, fun hx => ?_, fun k' c' hc' hb' => ?_⟩
        · have := hX b hx; omega
        · by_cases hk' : k' = k
          · subst hk'; rw [setOwn_same] at hc'; cases hc'
          · rw [setOwn_ne hk'] at hc'
            exact hk' (h.inj k' k c' _ b hc' (by rw [ho]) hb' q1)
      rw [q2]
      simp only [Nat.zero_mul]
      refine .sl (l.map enc) b 0 cap sz (fun i j => cur'.getD (i * sz + j) undef) hb g2 q4 g4 (fun i j row pv e1 e2 => ?_) (fun i j row pv e1 e2 => ?_)
      · obtain ⟨u, f1, f2, _⟩ := g5 i j row pv e1 e2
        have g1 : w.heap[b]? = some (.cells cur' T (0, 0)) := g1
        show w.cell? _ = _ ∧ _
        rw [cell_of_cells g1, Nat.zero_add, f1]
        simp [f1, f2]
      · obtain ⟨u, f1, _, f3⟩ := g5 i j row pv e1 e2
        have hu : cur'.getD (i * sz + j) undef = u := by simp [f1]
        simp only [hu]
        rw [List.getElem?_map, Option.map_eq_some_iff] at e1
        obtain ⟨y, _, rfl⟩ := e1
        have hpv := List.all_eq_true.1 (hpl y) _ (List.mem_of_getElem? e2)
        rw [plain_val hpv (f3.rep envOf_okfok)]
        exact (plain_drep hpv _ _).1
  · rw [nbeq_ne hrt]; exact h1.regs r
section
variable {P : Program} {L : Lay} {Q : Exit → St → Prop} {s : St}
theorem pw_exitE {ι : Type} {c : Code} {id : Nat} {next : St → Prop} (X : ι → Prop) (regs : ι → List (Nat × PV)) (owns : ι → List (Nat × Nat × Cont)) (h1 : PWP P L c (XBlock id (XThen (fun s' => ∃ i, X i ∧ Fit s' (regs i) (owns i)) Q)) s) (h2 : ∀ i, X i → ∀ s : St, next (s.over (regs i) (owns i))) : PWP P L c (XBlock id (XThen next Q)) s := by
  refine PWP.mono ?_ _ h1
  intro e s' h
  have key : (∃ i, X i ∧ Fit s' (regs i) (owns i)) → next s' := by
    rintro ⟨i, hX, hf⟩
    have := h2 i hX s'
    rwa [Fit.over hf] at this
  cases e
  case normal => exact key h
  case exit id' =>
    show if id' = id then _ else _
    have h : if id' = id then _ else _ := h
    split
    · rename_i he
      rw [if_pos he] at h
      exact key h
    · rename_i he
      rw [if_neg he] at h
      exact h
  all_goals exact h
end
end Go.Pv


set_option maxHeartbeats 2000000
namespace Go.Pv
attribute [local irreducible] PWP POps PQuiet PSem XThen XBlock RetPost InlPost
open Go.Proofs Go.RowKit
section
variable {P : Program} {L : Lay} {s : St}
theorem sm_eqnil [Globs] {T T' : TypeId} {d : Nat} {x : Operand} {r : LRow} {E : TypeId} {ty : TypeId} {pos : String} {af : Array Edge} {rows : List (List PV)} {K : St → Prop} (hL : LOk P L) (hr : L T = some r) (hs : r.sh = .sl E) (hx : s.ev x = .sl rows)
    (h1 : rows = [] → K (s.putR d (.bool true))) (h2 : K (s.putR d (.bool false))) : Sm P L s ⟨some d, .binOp .eql T x (.const (.slice none 0 0)) T', ty, pos, af, none⟩ K := by
  intro C a w Q hG ⟨γ, hs'⟩ hN
  have hv := hs'.ev x
  rw [hx] at hv
  have hu := und_sl (hL T r hr) hs
  have run : ∀ (v : Value) (b : Bool), a.eval x = v → ((v = .slice none 0 0 ∨ ∃ c, v = .slice none 0 c) ∧ b = true ∨ (∃ q n c, v = .slice (some q) n c) ∧ b = false) →
      (execOp a.eval ⟨some d, .binOp .eql T x (.const (.slice none 0 0)) T', ty, pos, af, none⟩).run P w = .ok (.value (.bool b)) w := by
    intro v b hv hb
    have e2 : a.eval (.const (.slice none 0 0)) = .slice none 0 0 := rfl
    simp only [execOp, hv, e2]
    refine wrapW ?_
    rcases hb with ⟨rfl | ⟨c, rfl⟩, rfl⟩ | ⟨⟨q, n, c, rfl⟩, rfl⟩
    · have hg : eqGuard .eql T x (.const (.slice none 0 0)) (.slice none 0 0) (.slice none 0 0) = pure () := by cases x <;> rfl
      rw [hg]
      have h : ∀ d : Nat, (Op.equalIn (d + 1) T (.slice none 0 0) (.slice none 0 0)).run P w = .ok true w := fun d => by simp [Op.equalIn, run_underlying hu]
      simp only [Sem.run_bind, Sem.run_pure, Result.andThen_ok, binOp]
      simp [Op.equal, Op.maxDepth, h 9999]
    · have hg : eqGuard .eql T x (.const (.slice none 0 0)) (.slice none 0 c) (.slice none 0 0) = pure () := by cases x <;> rfl
      rw [hg]
      have h : ∀ d : Nat, (Op.equalIn (d + 1) T (.slice none 0 c) (.slice none 0 0)).run P w = .ok true w := fun d => by simp [Op.equalIn, run_underlying hu]
      simp only [Sem.run_bind, Sem.run_pure, Result.andThen_ok, binOp]
      simp [Op.equal, Op.maxDepth, h 9999]
    · have hg : eqGuard .eql T x (.const (.slice none 0 0)) (.slice (some q) n c) (.slice none 0 0) = pure () := by cases x <;> rfl
      rw [hg]
      have h : ∀ d : Nat, (Op.equalIn (d + 1) T (.slice (some q) n c) (.slice none 0 0)).run P w = .ok false w := fun d => by simp [Op.equalIn, run_underlying hu]
      simp only [Sem.run_bind, Sem.run_pure, Result.andThen_ok, binOp]
      simp [Op.equal, Op.maxDepth, h 9999]
  generalize hev : a.eval x = v0 at hv
  cases hv with
  | d hd =>
    cases hd with
    | sl0 q cap =>
      cases q with
      | none =>
        unfold Oper.wp
        rw [run _ true hev (.inl ⟨.inr ⟨_, rfl⟩, rfl⟩), Oper.upon_value]
        exact ⟨_, ⟨_, hs'.put (d := some d) hN (.d (.bool _))⟩, h1 rfl⟩
      | some q =>
        unfold Oper.wp
        rw [run _ false hev (.inr ⟨⟨_, _, _, rfl⟩, rfl⟩), Oper.upon_value]
        exact ⟨_, ⟨_, hs'.put (d := some d) hN (.d (.bool _))⟩, h2⟩
    | sl rows b off cap sz vals =>
      unfold Oper.wp
      rw [run _ false hev (.inr ⟨⟨_, _, _, rfl⟩, rfl⟩), Oper.upon_value]
      exact ⟨_, ⟨_, hs'.put (d := some d) hN (.d (.bool _))⟩, h2⟩
end
theorem pw_rt {P : Program} {L : Lay} {Q : Exit → St → Prop} {s : St} (h : PWP P L .ret Q s) : PWP P L .ret Q s := h
set_option maxRecDepth 20000 in
theorem clone_ret (l : List SPost) (hl : l.length ≤ 1000000) : Ret Tryz.prog .fresh 80 [.sl (l.map ePost)] (.sl (l.map ePost)) := by
  refine Ret.of_pwp layOk mixed Go.Proofs.Tryz.func80 rfl (by decide) rfl rfl ?_
  ((repeat ((fail_if_success (with_reducible refine pw_at 1 ?_)); (refine stp rfl ?_ ?_;·repeat' (first|exact True.intro|exact rfl|refine And.intro ?_ ?_)))); refine pw_regionS 1 ?_)
  iterate 1 (refine stp rfl ?_ ?_;·repeat' constructor)
  refine ps_nil ?_
  refine psem_sm rfl (sm_eqnil layOk rfl rfl rfl (fun h0 => ?_) ?_)
  · rw [h0]
    refine psem_ops ?_
    (repeat ((fail_if_success (with_reducible refine pw_rt ?_)); (refine stp rfl ?_ ?_;·repeat' (first|exact True.intro|exact rfl|refine And.intro ?_ ?_))))
    refine pw_ghost (Ghost.nilfs (t := 2) rfl) ?_
    repeat (refine stp rfl ?_ ?_;·repeat' constructor)
    exact end1f rfl rfl rfl trivial rfl
  · refine psem_ops ?_
    repeat (refine stp rfl ?_ ?_;·repeat' constructor)
    refine ps_run (o_slit 0 rfl rfl rfl rfl rfl rfl rfl rfl rfl rfl rfl (by repeat' constructor) rfl ?_)
    repeat (refine stp rfl ?_ ?_;·repeat' constructor)
    refine ps_run (o_app 1 rfl rfl rfl rfl rfl rfl rfl rfl rfl rfl rfl (by repeat' constructor) (by intro row hr; obtain ⟨p, _, rfl⟩ := List.mem_map.1 hr; rfl) rfl rfl (by simp; omega) (by simp; omega) ?_)
    (repeat ((fail_if_success (with_reducible refine pw_rt ?_)); (refine stp rfl ?_ ?_;·repeat' (first|exact True.intro|exact rfl|refine And.intro ?_ ?_))))
    refine pw_ghost (Ghost.takeF (k := 5) (t := 2) l rfl rfl rfl rfl (fun _ => rfl)) ?_
    repeat (refine stp rfl ?_ ?_;·repeat' constructor)
    exact end1f rfl rfl rfl (by repeat' constructor) rfl
theorem bookPosts_ret (l : List SPost) (hl : l.length ≤ 1000000) : Ret Tryz.prog .fresh 26 [.dref (eBook l) 0] (.sl (l.map ePost)) := by
  have h := clone_ret l hl
  refine Ret.of_pwp layOk mixed Go.Proofs.Tryz.func26 rfl (by decide) rfl rfl ?_
  repeat (refine stp rfl ?_ ?_;·repeat' constructor)
  apply qst;exact rfl;exact rfl;exact q_callF rfl (h) rfl (by repeat' constructor) rfl
  repeat (refine stp rfl ?_ ?_;·repeat' constructor)
  exact end1f rfl rfl rfl trivial rfl
end Go.Pv


set_option maxHeartbeats 2000000
namespace Go.Pv
attribute [local irreducible] PWP POps PQuiet PSem XThen XBlock RetPost InlPost
open Go.Proofs
def hiB (s : Str) : Prop := ∀ c, c ∈ s → 45 ≤ c.toNat
theorem itoa_hi (v : Int) : hiB (Lib.itoa v) := by
  intro c hc
  rw [Lib.itoa] at hc
  split at hc
  · rcases List.mem_cons.1 hc with rfl | hc
    · decide
    · have := dec_digits _ _ (Nat.le_refl _) c hc; omega
  · have := dec_digits _ _ (Nat.le_refl _) c hc; omega
theorem name_hi {s : Str} (h : isName s = true) : hiB s := by
  intro c hc
  simp only [isName, Bool.and_eq_true, decide_eq_true_eq] at h
  obtain ⟨j, hj, rfl⟩ := List.getElem_of_mem hc
  have := fstE_zero h.2 j s[j] (List.getElem?_eq_getElem hj)
  rcases Nat.lt_or_ge s[j].toNat 45 with hlt | hge
  · exfalso
    have hb : badc j s[j] = true := by
      have e1 : letter s[j] = false := by
        simp only [letter, Bool.or_eq_false_iff, Bool.and_eq_false_iff, decide_eq_false_iff_not]
        omega
      simp only [badc, e1]
      simp
      omega
    rw [badE, if_pos hb] at this
    exact absurd this (by decide)
  · exact hge
theorem word_hi {op : Int} (h : inside op 0 8 = true) : hiB (wordOf op) := by
  rcases op_cases h with rfl | rfl | rfl | rfl | rfl | rfl | rfl | rfl | rfl <;> (unfold hiB; decide)
theorem join_hi : ∀ (xs : List Str), (∀ x, x ∈ xs → hiB x) → ∀ c, c ∈ Lib.joinTail [32] xs → 45 ≤ c.toNat ∨ c.toNat = 32
  | [], _, c, hc => by simp [Lib.joinTail] at hc
  | y :: ys, h, c, hc => by
    have e : Lib.joinTail [32] (y :: ys) = 32 :: (y ++ Lib.joinTail [32] ys) := by simp [Lib.joinTail]
    rw [e] at hc
    rcases List.mem_cons.1 hc with rfl | hc
    · exact .inr rfl
    rcases List.mem_append.1 hc with hc | hc
    · exact .inl (h y (by simp) c hc)
    · exact join_hi ys (fun x hx => h x (by simp [hx])) c hc
theorem text_hi {p : SPost} (hc : checkE p = 0) : ∀ c, c ∈ textP p → 45 ≤ c.toNat ∨ c.toNat = 32 := by
  intro c hm
  rw [text_pcs, pcs, Lib.join_cons] at hm
  rcases List.mem_append.1 hm with hm | hm
  · exact .inl (itoa_hi _ c hm)
  refine join_hi _ (fun y hy => ?_) c hm
  rcases List.mem_cons.1 hy with rfl | hy
  · exact word_hi (checkE_op hc).1
  · obtain ⟨f, hf, rfl⟩ := List.mem_map.1 hy
    obtain ⟨k, hk, rfl⟩ := List.getElem_of_mem hf
    have hf := List.getElem?_eq_getElem hk
    generalize (fdsOf p.op)[k] = f at *
    cases f with
    | o => exact name_hi (txt_name hc hf rfl)
    | i => exact name_hi (txt_name hc hf rfl)
    | s => exact name_hi (txt_name hc hf rfl)
    | w => exact name_hi (txt_name hc hf rfl)
    | a lo hi => exact itoa_hi _
    | r lo hi => exact itoa_hi _
    | l lo hi => exact itoa_hi _
theorem text_no {p : SPost} (hc : checkE p = 0) {a : UInt8} (ha : a.toNat < 45) (ha2 : a.toNat ≠ 32) : a ∉ textP p := fun hm => by
  have := text_hi hc a hm; omega
theorem itoa_no {v : Int} {a : UInt8} (ha : a.toNat < 45) : a ∉ Lib.itoa v := fun hm => by
  have := itoa_hi v a hm; omega
theorem index_mark : ∀ (T u : Str), (35 : UInt8) ∉ T → Lib.index (T ++ 32 :: 35 :: u) [32, 35] = T.length
  | [], u, _ => by simp [Lib.index, List.isPrefixOf]
  | b :: T, u, h => by
    have ih := index_mark T u (fun hm => h (by simp [hm]))
    have hp : ([32, 35] : Str).isPrefixOf (b :: (T ++ 32 :: 35 :: u)) = false := by
      cases T with
      | nil => simp [List.isPrefixOf]
      | cons d T =>
        have hd : ¬ (35 : UInt8) = d := fun e => h (by simp [e])
        simp [List.isPrefixOf, hd]
    rw [List.cons_append, Lib.index, hp, ih]
    have : ((T.length : Int) == -1) = false := by simp
    rw [this]
    simp
theorem cut_at (T u : Str) (h : (35 : UInt8) ∉ T) : (Lib.cut (T ++ 32 :: 35 :: u) [32, 35]).1 = T := by
  rw [Lib.cut, index_mark T u h, if_pos (by omega)]
  simp
theorem get_mem {α : Type} {l : List α} {k : Nat} {x : α} (h : l[k]? = some x) : x ∈ l := List.mem_of_getElem? h
theorem recS_line {l : List SPost} {n : Int} {q : Str} {k : Nat} (hk : k ≤ q.length) (hlast : ∀ j, k ≤ j → q[j]? ≠ some 35) (hm : k = 0 ∨ q[k - 1]? = some 35) :
    recS l n (q ++ [10]) = (if 2 ≤ k ∧ q[k - 2]? = some 32 then (match progC (q.take (k - 2)) with
      | none => none
      | some c => if Lib.itoa (sumF n (q.take (k - 2))) = q.drop k then (if refusalR l c = 0 then some (c, sumF n (q.take (k - 2))) else none) else none) else none) := by
  have back : ∀ c m, recS l n (q ++ [10]) = some (c, m) → 2 ≤ k ∧ q[k - 2]? = some 32 ∧ progC (q.take (k - 2)) = some c ∧ Lib.itoa (sumF n (q.take (k - 2))) = q.drop k ∧ refusalR l c = 0 ∧ m = sumF n (q.take (k - 2)) := by
    intro c m h
    obtain ⟨c0, h1, h2, h3, rfl, rfl⟩ := recS_some h
    obtain ⟨f1, f2⟩ := prog_fine h1
    have f3 := prog_clean h1
    have hq : q = textP c0 ++ 32 :: 35 :: Lib.itoa (sumF n (textP c0)) := by
      have : q ++ [10] = (textP c0 ++ 32 :: 35 :: Lib.itoa (sumF n (textP c0))) ++ [10] := by rw [h2, lineT]; simp
      exact List.append_cancel_right this
    have hlen : q.length = (textP c0).length + 2 + (Lib.itoa (sumF n (textP c0))).length := by rw [hq]; simp; omega
    have at35 : q[(textP c0).length + 1]? = some 35 := by rw [hq, List.getElem?_append_right (by omega)]; simp
    have hge : (textP c0).length + 2 ≤ k := by
      rcases Nat.lt_or_ge ((textP c0).length + 1) k with h' | h'
      · exact h'
      · exact absurd at35 (hlast _ h')
    have hke : k = (textP c0).length + 2 := by
      rcases Nat.lt_or_ge ((textP c0).length + 2) k with h' | h'
      · exfalso
        rcases hm with hm | hm
        · omega
        · rw [hq, List.getElem?_append_right (by omega)] at hm
          obtain ⟨d, hd⟩ : ∃ d, k - 1 - (textP c0).length = d + 2 := ⟨k - 1 - (textP c0).length - 2, by omega⟩
          rw [hd] at hm
          simp only [List.getElem?_cons_succ] at hm
          exact itoa_no (by decide) (get_mem hm)
      · omega
    have ht : q.take (k - 2) = textP c0 := by rw [hke, hq]; simp
    have hd : q.drop k = Lib.itoa (sumF n (textP c0)) := by rw [hke, hq]; simp
    have h32 : q[k - 2]? = some 32 := by rw [hke, hq, List.getElem?_append_right (by omega)]; simp
    refine ⟨by omega, h32, ?_, ?_, ?_, by rw [ht]⟩
    · rw [ht, f3, prog_back f1, f3]
    · rw [ht, hd]
    · rw [f3]; exact h3
  by_cases hc : 2 ≤ k ∧ q[k - 2]? = some 32
  · rw [if_pos hc]
    cases hp : progC (q.take (k - 2)) with
    | none =>
      cases hr : recS l n (q ++ [10]) with
      | none => rfl
      | some r => obtain ⟨c, m⟩ := r; have := (back c m hr).2.2.1; rw [hp] at this; cases this
    | some c =>
      dsimp only
      by_cases hi : Lib.itoa (sumF n (q.take (k - 2))) = q.drop k
      · rw [if_pos hi]
        obtain ⟨f1, f2⟩ := prog_fine hp
        have f3 := prog_clean hp
        have hm1 : q[k - 1]? = some 35 := hm.resolve_left (by omega)
        have hq : q = q.take (k - 2) ++ 32 :: 35 :: q.drop k := by
          have e1 : q.drop (k - 2) = 32 :: q.drop (k - 1) := by
            have := List.drop_eq_getElem?_toList_append (l := q) (i := k - 2)
            rw [hc.2] at this
            rw [this, show k - 2 + 1 = k - 1 by omega]; rfl
          have e2 : q.drop (k - 1) = 35 :: q.drop k := by
            have := List.drop_eq_getElem?_toList_append (l := q) (i := k - 1)
            rw [hm1] at this
            rw [this, show k - 1 + 1 = k by omega]; rfl
          rw [← e2, ← e1, List.take_append_drop]
        have hno : (35 : UInt8) ∉ q.take (k - 2) := by rw [← f2]; exact text_no f1 (by decide) (by decide)
        have hcut : (Lib.cut (q ++ [10]) [32, 35]).1 = q.take (k - 2) := by
          have : q ++ [10] = q.take (k - 2) ++ 32 :: 35 :: (q.drop k ++ [10]) := by
            conv => lhs; rw [hq]
            simp
          rw [this]
          exact cut_at _ _ hno
        have hline : q ++ [10] = lineT n (textP c) := by
          rw [lineT, f2, hi]
          conv => lhs; rw [hq]
          simp
        rw [recS, hcut, hp]
        dsimp only
        rw [if_pos hline, f2, f3]
      · rw [if_neg hi]
        cases hr : recS l n (q ++ [10]) with
        | none => rfl
        | some r => obtain ⟨c, m⟩ := r; exact absurd (back c m hr).2.2.2.1 hi
  · rw [if_neg hc]
    cases hr : recS l n (q ++ [10]) with
    | none => rfl
    | some r => obtain ⟨c, m⟩ := r; have := back c m hr; exact absurd ⟨this.1, this.2.1⟩ hc
theorem recS_open {l : List SPost} {n : Int} {q : Str} (h : (10 : UInt8) ∉ q) : recS l n q = none := by
  cases hr : recS l n q with
  | none => rfl
  | some r =>
    obtain ⟨c, m⟩ := r
    obtain ⟨c0, _, h2, _⟩ := recS_some hr
    exact absurd (by rw [h2, lineT]; simp) h
end Go.Pv


set_option maxHeartbeats 2000000
namespace Go.Pv
attribute [local irreducible] PWP POps PQuiet PSem XThen XBlock RetPost InlPost
open Go.Proofs
theorem ix_line : ∀ (b r : Str), (10 : UInt8) ∉ b → Lib.indexByte (b ++ 10 :: r) 10 = b.length
  | [], r, _ => by simp [Lib.indexByte]
  | c :: b, r, h => by
    have ih := ix_line b r (fun hm => h (by simp [hm]))
    have hc : ¬ c = 10 := fun e => h (by simp [e])
    rw [List.cons_append, Lib.indexByte, ih]
    simp [hc]
theorem ix_open : ∀ (b : Str), (10 : UInt8) ∉ b → Lib.indexByte b 10 = -1
  | [], _ => rfl
  | c :: b, h => by
    have ih := ix_open b (fun hm => h (by simp [hm]))
    have hc : ¬ c = 10 := fun e => h (by simp [e])
    rw [Lib.indexByte, ih]
    simp [hc]
theorem recG_open {r : Str} (h : (10 : UInt8) ∉ r) (f : Nat) (l : List SPost) (n a : Int) : recG f r l n a = (l, a) := by
  cases f with
  | zero => rfl
  | succ f => rw [recG, if_pos (by rw [ix_open r h]; decide), recS_open h]
theorem recG_line {b r : Str} (h : (10 : UInt8) ∉ b) (f : Nat) (l : List SPost) (n a : Int) : recG (f + 1) (b ++ 10 :: r) l n a = (match recS l n (b ++ [10]) with
      | none => (l, a)
      | some (c, m) => recG f r (l ++ [c]) m (a + (b.length + 1 : Nat))) := by
  have e1 : (b ++ 10 :: r).take (b.length + 1) = b ++ [10] := by
    rw [show b ++ 10 :: r = (b ++ [10]) ++ r by simp, List.take_left' (by simp)]
  have e2 : (b ++ 10 :: r).drop (b.length + 1) = r := by
    rw [show b ++ 10 :: r = (b ++ [10]) ++ r by simp, List.drop_left' (by simp)]
  rw [recG, ix_line b r h, if_neg (by omega), Int.toNat_natCast, e1, e2]
  all_goals (cases recS l n (b ++ [10]) <;> rfl)
end Go.Pv


set_option maxHeartbeats 2000000
namespace Go.Pv
attribute [local irreducible] PWP POps PQuiet PSem XThen XBlock RetPost InlPost
open Go.Proofs
theorem drop_get {t : Str} {a j : Nat} : (t.drop a)[j]? = t[a + j]? := by rw [List.getElem?_drop]
theorem range_no {t : Str} {a e : Nat} (he : e ≤ t.length) (h : ∀ j, a ≤ j → j < e → t[j]? ≠ some 10) : (10 : UInt8) ∉ (t.drop a).take (e - a) := by
  intro hm
  obtain ⟨j, hj, hx⟩ := List.getElem_of_mem hm
  have h1 : ((t.drop a).take (e - a))[j]? = some 10 := by rw [List.getElem?_eq_getElem hj, hx]
  rw [List.length_take, List.length_drop] at hj
  rw [List.getElem?_take, if_pos (by omega), drop_get] at h1
  exact h (a + j) (by omega) (by omega) h1
set_option maxRecDepth 20000 in
theorem recover_ref (t : Str) (ht : t.length ≤ 100000) : Ret Tryz.prog .shared 22 [.str t] (.tup [.sl ((recP t).1.map ePost), I (recP t).2]) := by
  refine Ret.of_pwp layOk mixed Go.Proofs.Tryz.func22 rfl (by decide) rfl rfl ?_
  ((repeat (first | refine ps_nil ?_ | refine pq_nil ?_ | refine x_norm ?_ | refine pw_seq ?_)); refine pw_region ?_)
  refine ps_v rfl trivial ?_
  refine ps_v rfl trivial ?_
  ((repeat (first | refine ps_nil ?_ | refine pq_nil ?_ | refine x_norm ?_ | refine pw_seq ?_)); refine pw_region ?_)
  refine ps_v rfl trivial ?_
  refine ps_nil ?_
  refine x_norm ?_
  refine pw_ghost (Ghost.nilreg (k := 4) (t := 4) 23 9 0 rfl rfl) ?_
  repeat (refine stp rfl ?_ ?_;·repeat' constructor)
  refine pw_loop (fun k : Nat × Nat × List SPost × Int => recG k.1 (t.drop k.2.1) k.2.2.1 k.2.2.2 k.2.1 = recP t ∧ Acc k.2.2.1 ∧ 0 ≤ k.2.2.2 ∧ k.2.2.2 < 65521 ∧ k.2.1 ≤ t.length ∧ t.length < k.1 + k.2.1)
    (fun k => [(0, .str t), (4, .als 4 (1 + k.2.2.1.length) 0 (k.2.2.1.map ePost).length), (5, I k.2.2.2), (6, I k.2.1)]) (fun k => [(4, 1 + k.2.2.1.length, ⟨23, 9, k.2.2.1.map ePost, 0⟩)]) (fun k => k.1) (t.length + 1, 0, [], 1)
    ⟨rfl, .nil, (show (0 : Int) ≤ 1 by decide), (show (1 : Int) < 65521 by decide), Nat.zero_le _, Nat.lt_succ_self _⟩ ⟨rfl, rfl, rfl, rfl, rfl, trivial⟩ ?_
  rintro ⟨f, a, l, n⟩ st ⟨hG, hA, hn0, hn1, hal, hf⟩
  simp only at hG hA hn0 hn1 hal hf
  dsimp only
  have hW := hA.ok.wf
  have hll := hW.len
  repeat (refine stp rfl ?_ ?_;·repeat' constructor)
  refine pw_cond rfl (fun h => ?_) (fun h => ?_)
  rotate_left
  · have ha : a = t.length := by have := of_decide_eq_false h; omega
    have he : recP t = (l, (a : Int)) := by rw [← hG, ha, List.drop_length]; exact recG_open (by simp) _ _ _ _
    rw [he]
    repeat (refine stp rfl ?_ ?_;·repeat' constructor)
    exact end2 rfl rfl rfl rfl rfl (by repeat' constructor) trivial rfl
  have halt : a < t.length := by have := of_decide_eq_true h; omega
  clear h
  obtain ⟨f, rfl⟩ : ∃ f', f = f' + 1 := ⟨f - 1, by omega⟩
  repeat (refine stp rfl ?_ ?_;·repeat' constructor)
  refine pw_exitE (fun e : Nat => a ≤ e ∧ e ≤ t.length ∧ (∀ j, a ≤ j → j < e → t[j]? ≠ some 10) ∧ (e = t.length ∨ t[e]? = some 10)) (fun e => [(0, .str t), (4, .als 4 (1 + l.length) 0 (l.map ePost).length), (5, I n), (6, I a), (7, I e)]) (fun _ => [(4, 1 + l.length, ⟨23, 9, l.map ePost, 0⟩)]) ?_ ?_
  · refine pw_loop (fun e : Nat => a ≤ e ∧ e ≤ t.length ∧ (∀ j, a ≤ j → j < e → t[j]? ≠ some 10)) (fun e => [(0, .str t), (4, .als 4 (1 + l.length) 0 (l.map ePost).length), (5, I n), (6, I a), (7, I e)]) (fun _ => [(4, 1 + l.length, ⟨23, 9, l.map ePost, 0⟩)]) (fun e => t.length - e) a ⟨Nat.le_refl _, hal, fun j h1 h2 => by omega⟩ ⟨rfl, rfl, rfl, rfl, rfl, rfl, trivial⟩ ?_
    rintro e st ⟨h1, h2, h3⟩
    repeat (refine stp rfl ?_ ?_;·repeat' constructor)
    (first | refine ps_split rfl rfl (fun h => ?_) (fun h => ?_) | refine pq_split rfl rfl (fun h => ?_) (fun h => ?_) | refine p3_split rfl rfl (fun h => ?_) (fun h => ?_))
    · have hlt : e < t.length := by have := of_decide_eq_true h; omega
      clear h
      obtain ⟨c, hc⟩ := get_lt hlt
      have hci : t.getD ((e : Int).toNat) 0 = c := by rw [Int.toNat_natCast, List.getD_eq_getElem?_getD, hc]; rfl
      repeat (refine stp rfl ?_ ?_;·repeat' constructor)
      apply qst;exact rfl;exact rfl;exact QOp.v rfl (show 0 ≤ (e : Int) ∧ (e : Int) < (t.length : Nat) by omega)
      rw [hci]
      repeat (refine stp rfl ?_ ?_;·repeat' constructor)
      refine pw_cond rfl (fun h => ?_) (fun h => ?_)
      · have hne : c ≠ 10 := by intro e1; subst e1; simp at h
        repeat (refine stp rfl ?_ ?_;·repeat' constructor)
        refine ⟨e + 1, ⟨by omega, by omega, fun j g1 g2 => ?_⟩, by omega, rfl, rfl, rfl, rfl, i64_next (by omega) (by omega), rfl, trivial⟩
        rcases Nat.lt_or_ge j e with g3 | g3
        · exact h3 j g1 g3
        · have : j = e := by omega
          subst this; rw [hc]; simpa using hne
      · have heq : c = 10 := by
          have : (c.toNat : Int) = 10 := by simpa using h
          exact UInt8.toNat_inj.1 (show c.toNat = (10 : UInt8).toNat from (by omega : c.toNat = 10))
        repeat (refine stp rfl ?_ ?_;·repeat' constructor)
        exact ⟨e, ⟨h1, h2, h3, .inr (by rw [hc, heq])⟩, rfl, rfl, rfl, rfl, rfl, rfl, trivial⟩
    · have hz : e = t.length := by have := of_decide_eq_false h; omega
      repeat (refine stp rfl ?_ ?_;·repeat' constructor)
      exact ⟨e, ⟨h1, h2, h3, .inl hz⟩, rfl, rfl, rfl, rfl, rfl, rfl, trivial⟩
  rintro e ⟨he1, he2, he3, he4⟩ st2
  repeat (refine stp rfl ?_ ?_;·repeat' constructor)
  refine pw_exitE (fun m : Nat => a ≤ m ∧ m ≤ e ∧ (∀ j, m ≤ j → j < e → t[j]? ≠ some 35) ∧ (m = a ∨ t[m - 1]? = some 35)) (fun m => [(0, .str t), (4, .als 4 (1 + l.length) 0 (l.map ePost).length), (5, I n), (6, I a), (7, I e), (8, I m)]) (fun _ => [(4, 1 + l.length, ⟨23, 9, l.map ePost, 0⟩)]) ?_ ?_
  · refine pw_loop (fun m : Nat => a ≤ m ∧ m ≤ e ∧ (∀ j, m ≤ j → j < e → t[j]? ≠ some 35)) (fun m => [(0, .str t), (4, .als 4 (1 + l.length) 0 (l.map ePost).length), (5, I n), (6, I a), (7, I e), (8, I m)]) (fun _ => [(4, 1 + l.length, ⟨23, 9, l.map ePost, 0⟩)]) (fun m => m) e ⟨he1, Nat.le_refl _, fun j h1 h2 => by omega⟩ ⟨rfl, rfl, rfl, rfl, rfl, rfl, rfl, trivial⟩ ?_
    rintro m st ⟨h1, h2, h3⟩
    repeat (refine stp rfl ?_ ?_;·repeat' constructor)
    (first | refine ps_split rfl rfl (fun h => ?_) (fun h => ?_) | refine pq_split rfl rfl (fun h => ?_) (fun h => ?_) | refine p3_split rfl rfl (fun h => ?_) (fun h => ?_))
    · have hlt : a < m := by have := of_decide_eq_true h; omega
      clear h
      obtain ⟨c, hc⟩ := get_lt (show m - 1 < t.length by omega)
      have hw : IntKind.wrap .i64 ((m : Int) - 1) = ((m - 1 : Nat) : Int) := by rw [wrap_i64 (by omega) (by omega)]; omega
      have hci : t.getD (((m - 1 : Nat) : Int).toNat) 0 = c := by rw [Int.toNat_natCast, List.getD_eq_getElem?_getD, hc]; rfl
      repeat (refine stp rfl ?_ ?_;·repeat' constructor)
      rw [hw]
      apply qst;exact rfl;exact rfl;exact QOp.v rfl (show 0 ≤ ((m - 1 : Nat) : Int) ∧ ((m - 1 : Nat) : Int) < (t.length : Nat) by omega)
      rw [hci]
      repeat (refine stp rfl ?_ ?_;·repeat' constructor)
      refine pw_cond rfl (fun h => ?_) (fun h => ?_)
      · have hne : c ≠ 35 := by intro e1; subst e1; simp at h
        repeat (refine stp rfl ?_ ?_;·repeat' constructor)
        refine ⟨m - 1, ⟨by omega, by omega, fun j g1 g2 => ?_⟩, by omega, rfl, rfl, rfl, rfl, rfl, by rw [← hw]; rfl, rfl, trivial⟩
        rcases Nat.lt_or_ge j m with g3 | g3
        · have : j = m - 1 := by omega
          subst this; rw [hc]; simpa using hne
        · exact h3 j g3 g2
      · have heq : c = 35 := by
          have : (c.toNat : Int) = 35 := by simpa using h
          exact UInt8.toNat_inj.1 (show c.toNat = (35 : UInt8).toNat from (by omega : c.toNat = 35))
        repeat (refine stp rfl ?_ ?_;·repeat' constructor)
        exact ⟨m, ⟨h1, h2, h3, .inr (by rw [hc, heq])⟩, rfl, rfl, rfl, rfl, rfl, rfl, rfl, trivial⟩
    · have hz : m = a := by have := of_decide_eq_false h; omega
      repeat (refine stp rfl ?_ ?_;·repeat' constructor)
      exact ⟨m, ⟨h1, h2, h3, .inl hz⟩, rfl, rfl, rfl, rfl, rfl, rfl, rfl, trivial⟩
  rintro m ⟨hm1, hm2, hm3, hm4⟩ st3
  have hW2 : IntKind.wrap .i64 ((a : Int) + 2) = ((a + 2 : Nat) : Int) := by rw [wrap_i64 (by omega) (by omega)]; omega
  repeat (refine stp rfl ?_ ?_;·repeat' constructor)
  (first | refine ps_split rfl rfl (fun h => ?_) (fun h => ?_) | refine pq_split rfl rfl (fun h => ?_) (fun h => ?_) | refine p3_split rfl rfl (fun h => ?_) (fun h => ?_))
  · have hz : e = t.length := by have := of_decide_eq_true h; omega
    clear h
    have hno := range_no (Nat.le_of_eq hz) he3
    rw [List.take_of_length_le (by rw [List.length_drop]; omega)] at hno
    have he : recP t = (l, (a : Int)) := by rw [← hG]; exact recG_open hno _ _ _ _
    rw [he]
    repeat (refine stp rfl ?_ ?_;·repeat' constructor)
    exact end2 rfl rfl rfl rfl rfl (by repeat' constructor) trivial rfl
  have hel : e < t.length := by have := of_decide_eq_false h; omega
  clear h
  have h10 : t[e]? = some 10 := he4.resolve_left (by omega)
  have hno := range_no he2 he3
  have hsp : t.drop a = (t.drop a).take (e - a) ++ 10 :: t.drop (e + 1) := by
    have e1 : (t.drop a).drop (e - a) = 10 :: t.drop (e + 1) := by
      rw [List.drop_drop, show a + (e - a) = e by omega]
      have := List.drop_eq_getElem?_toList_append (l := t) (i := e)
      rw [h10] at this
      rw [this]; rfl
    rw [← e1, List.take_append_drop]
  have hql : ((t.drop a).take (e - a)).length = e - a := by rw [List.length_take, List.length_drop]; omega
  have hrl := recS_line (l := l) (n := n) (q := (t.drop a).take (e - a)) (k := m - a) (by omega) (fun j hj hx => by
      have hjl := (List.getElem?_eq_some_iff.1 hx).1
      rw [List.getElem?_take, if_pos (by omega), drop_get] at hx
      exact hm3 (a + j) (by omega) (by omega) hx) (by
      rcases Nat.lt_or_ge a m with h' | h'
      · right
        rw [List.getElem?_take, if_pos (by omega), drop_get, show a + (m - a - 1) = m - 1 by omega]
        rcases hm4 with h'' | h''
        · omega
        · exact h''
      · left; omega)
  rw [hsp, recG_line hno, hrl, hql] at hG
  have htk : ((t.drop a).take (e - a)).take (m - a - 2) = (t.drop a).take (m - 2 - a) := by rw [List.take_take]; congr 1; omega
  have hdk : ((t.drop a).take (e - a)).drop (m - a) = (t.drop m).take (e - m) := by
    rw [List.drop_take, List.drop_drop, show a + (m - a) = m by omega]; congr 1; omega
  have hgk : 2 ≤ m - a → ((t.drop a).take (e - a))[m - a - 2]? = t[m - 2]? := fun h' => by
    rw [List.getElem?_take, if_pos (by omega), drop_get, show a + (m - a - 2) = m - 2 by omega]
  rw [htk, hdk] at hG
  clear hsp hrl hql htk hdk hno
  repeat (refine stp rfl ?_ ?_;·repeat' constructor)
  rw [hW2]
  (first | refine ps_split rfl rfl (fun h => ?_) (fun h => ?_) | refine pq_split rfl rfl (fun h => ?_) (fun h => ?_) | refine p3_split rfl rfl (fun h => ?_) (fun h => ?_))
  · have hz : m < a + 2 := by have := of_decide_eq_true h; omega
    clear h
    rw [if_neg (by omega)] at hG
    rw [← hG]
    repeat (refine stp rfl ?_ ?_;·repeat' constructor)
    exact end2 rfl rfl rfl rfl rfl (by repeat' constructor) trivial rfl
  have hma : a + 2 ≤ m := by have := of_decide_eq_false h; omega
  clear h
  rw [hgk (by omega)] at hG
  clear hgk
  have hw : IntKind.wrap .i64 ((m : Int) - 2) = ((m - 2 : Nat) : Int) := by rw [wrap_i64 (by omega) (by omega)]; omega
  obtain ⟨c, hc⟩ := get_lt (show m - 2 < t.length by omega)
  have hci : t.getD (((m - 2 : Nat) : Int).toNat) 0 = c := by rw [Int.toNat_natCast, List.getD_eq_getElem?_getD, hc]; rfl
  rw [hc] at hG
  repeat (refine stp rfl ?_ ?_;·repeat' constructor)
  rw [hw]
  apply qst;exact rfl;exact rfl;exact QOp.v rfl (show 0 ≤ ((m - 2 : Nat) : Int) ∧ ((m - 2 : Nat) : Int) < (t.length : Nat) by omega)
  rw [hci]
  repeat (refine stp rfl ?_ ?_;·repeat' constructor)
  refine pw_cond rfl (fun h => ?_) (fun h => ?_)
  · have hne : c ≠ 32 := by intro e1; subst e1; simp at h
    clear h
    rw [if_neg (by simp [hne])] at hG
    rw [← hG]
    repeat (refine stp rfl ?_ ?_;·repeat' constructor)
    exact end2 rfl rfl rfl rfl rfl (by repeat' constructor) trivial rfl
  have heq : c = 32 := by
    have : (c.toNat : Int) = 32 := by simpa using h
    exact UInt8.toNat_inj.1 (show c.toNat = (32 : UInt8).toNat from (by omega : c.toNat = 32))
  clear h hci
  subst heq
  rw [if_pos ⟨by omega, rfl⟩] at hG
  have hsl : ((t.drop a).take (m - 2 - a)).length ≤ 100000 := by rw [List.length_take, List.length_drop]; omega
  have hck := checked_ref n ((t.drop a).take (m - 2 - a)) hn0 hn1 (by omega)
  have hsr := sumF_range ((t.drop a).take (m - 2 - a)) hn0 hn1
  have hpar := parse_ref ((t.drop a).take (m - 2 - a)) (by omega)
  rw [both_read] at hpar
  repeat (refine stp rfl ?_ ?_;·repeat' constructor)
  rw [hw]
  apply qst;exact rfl;exact rfl;exact q_ssl layOk rfl rfl rfl rfl rfl (by omega) (by omega) (by omega)
  rw [Int.toNat_natCast, Int.toNat_natCast]
  generalize (t.drop a).take (m - 2 - a) = sx at *
  have hde := decimal_ret (sumF n sx) (by omega) (by omega)
  generalize sumF n sx = nx at *
  repeat (refine stp rfl ?_ ?_;·repeat' constructor)
  apply qst;exact rfl;exact rfl;exact q_callP rfl (hck) rfl (by repeat' constructor) rfl rfl
  rcases hpc : progC sx with _ | p
  · rw [hpc] at hpar hG
    dsimp only at hG
    rw [← hG]
    repeat (refine stp rfl ?_ ?_;·repeat' constructor)
    apply qst;exact rfl;exact rfl;exact q_callF rfl (hpar) rfl (by repeat' constructor) rfl
    repeat (refine stp rfl ?_ ?_;·repeat' constructor)
    refine pw_draw 17 [75, 76, 77, 78, 79, 80, 81, 82, 83, 84, 85, 86, 87, 88, 89, 90, 91] (by decide +kernel) ?_
    repeat (refine stp rfl ?_ ?_;·repeat' constructor)
    exact end2 rfl rfl rfl rfl rfl (by repeat' constructor) trivial rfl
  rw [hpc] at hpar hG
  dsimp only at hG
  have hrf := refusal_ref l hW p
  repeat (refine stp rfl ?_ ?_;·repeat' constructor)
  apply qst;exact rfl;exact rfl;exact q_callF rfl (hpar) rfl (by repeat' constructor) rfl
  repeat (refine stp rfl ?_ ?_;·repeat' constructor)
  refine pw_draw 17 [75, 76, 77, 78, 79, 80, 81, 82, 83, 84, 85, 86, 87, 88, 89, 90, 91] (by decide +kernel) ?_
  repeat (refine stp rfl ?_ ?_;·repeat' constructor)
  apply qst;exact rfl;exact rfl;exact q_callP rfl (hde) rfl (by repeat' constructor) rfl rfl
  repeat (refine stp rfl ?_ ?_;·repeat' constructor)
  apply qst;exact rfl;exact rfl;exact q_ssl layOk rfl rfl rfl rfl rfl (by omega) (by omega) (by omega)
  rw [Int.toNat_natCast, Int.toNat_natCast]
  generalize (t.drop m).take (e - m) = ux at *
  repeat (refine stp rfl ?_ ?_;·repeat' constructor)
  (first | refine ps_split rfl rfl (fun h => ?_) (fun h => ?_) | refine pq_split rfl rfl (fun h => ?_) (fun h => ?_) | refine p3_split rfl rfl (fun h => ?_) (fun h => ?_))
  · have hne : ¬ Lib.itoa nx = ux := by simpa using h
    clear h
    rw [if_neg hne] at hG
    rw [← hG]
    repeat (refine stp rfl ?_ ?_;·repeat' constructor)
    exact end2 rfl rfl rfl rfl rfl (by repeat' constructor) trivial rfl
  have hue : Lib.itoa nx = ux := by simpa using h
  clear h
  rw [if_pos hue] at hG
  repeat (refine stp rfl ?_ ?_;·repeat' constructor)
  apply qst;exact rfl;exact rfl;exact q_callP rfl (hrf) rfl (by repeat' constructor) rfl rfl
  repeat (refine stp rfl ?_ ?_;·repeat' constructor)
  refine pw_cond rfl (fun h => ?_) (fun h => ?_)
  · have hne : ¬ refusalR l p = 0 := by simpa using h
    clear h
    rw [if_neg hne] at hG
    rw [← hG]
    repeat (refine stp rfl ?_ ?_;·repeat' constructor)
    exact end2 rfl rfl rfl rfl rfl (by repeat' constructor) trivial rfl
  have hr0 : refusalR l p = 0 := by simpa using h
  clear h
  rw [if_pos hr0] at hG
  dsimp only at hG
  have hcl := prog_clean hpc
  repeat (refine stp rfl ?_ ?_;·repeat' constructor)
  apply qst;exact rfl;exact rfl;exact q_slit rfl rfl rfl rfl rfl rfl rfl rfl rfl rfl (by repeat' constructor) rfl
  repeat (refine stp rfl ?_ ?_;·repeat' constructor)
  refine ps_run (o_app 0 rfl rfl rfl rfl rfl rfl rfl rfl rfl rfl rfl (by repeat' constructor) (by intro row hr; first | (simp at hr; subst hr; rfl) | simp at hr) rfl rfl (by simp; omega) (by simp; omega) ?_)
  repeat (refine stp rfl ?_ ?_;·repeat' constructor)
  refine ⟨(f, e + 1, l ++ [p], nx), ⟨?_, ?_, hsr.1, hsr.2, (show e + 1 ≤ t.length by omega), (show t.length < f + (e + 1) by omega)⟩, Nat.lt_succ_self _, rfl, ?_, rfl, ?_, ?_, trivial⟩
  · show recG f (t.drop (e + 1)) (l ++ [p]) nx ((e + 1 : Nat) : Int) = recP t
    rw [← hG]
    congr 1
    omega
  · have := hA.snoc hr0
    rwa [hcl] at this
  · exact als_snoc ePost 4 1 l p
  · exact i64_next (by omega) (by omega)
  · exact cont_snoc ePost 1 23 9 0 l p
end Go.Pv


set_option maxHeartbeats 2000000
namespace Go.Pv
attribute [local irreducible] PWP POps PQuiet PSem XThen XBlock RetPost InlPost
open Go.Proofs
theorem postE : eqT Tryz.prog 23 [.int .i64, .int .i64, .str, .str, .str, .str, .int .i64, .int .i64, .int .i64] = true := by kernel_rfl
end Go.Pv


set_option maxHeartbeats 2000000
namespace Go.Pv
attribute [local irreducible] PWP POps PQuiet PSem XThen XBlock RetPost InlPost
open Go.Proofs
theorem postsZ_ret (a : List SPost) (hw : a.length ≤ 1000000) : Ret Tryz.prog .shared 25 [.sl (a.map ePost), .sl (a.map ePost)] (.bool true) := by
  have hll : ((a.map ePost).length : Int) = a.length := by simp
  refine Ret.of_pwp layOk mixed Go.Proofs.Tryz.func25 rfl (by decide) rfl rfl ?_
  repeat (refine stp rfl ?_ ?_;·repeat' constructor)
  refine pw_cond rfl (fun h => ?_) (fun h => ?_)
  · exact absurd h (by simp)
  clear h
  repeat (refine stp rfl ?_ ?_;·repeat' constructor)
  refine pw_loop (fun k => k ≤ a.length) (fun k => [(0, .sl (a.map ePost)), (1, .sl (a.map ePost)), (5, I k)]) (fun _ => []) (fun k => a.length - k) 0 (Nat.zero_le _) ⟨rfl, rfl, rfl, trivial⟩ ?_
  intro k s hk
  have hk : k ≤ a.length := hk
  repeat (refine stp rfl ?_ ?_;·repeat' constructor)
  rw [hll]
  refine pw_cond rfl (fun h => ?_) (fun h => ?_)
  · have hlt : k < a.length := by have := of_decide_eq_true h; omega
    obtain ⟨x, hx⟩ := get_lt hlt
    clear h
    repeat (refine stp rfl ?_ ?_;·repeat' constructor)
    refine pw_draw 9 [17, 18, 19, 20, 21, 22, 23, 24, 25] (by decide +kernel) ?_
    repeat (refine stp rfl ?_ ?_;·repeat' constructor)
    apply qst;exact rfl;exact rfl;exact q_idxm rfl rfl rfl rfl rfl (by omega) hx rfl
    repeat (refine stp rfl ?_ ?_;·repeat' constructor)
    apply qst;exact rfl;exact rfl;exact q_idxm rfl rfl rfl rfl rfl (by omega) hx rfl
    repeat (refine stp rfl ?_ ?_;·repeat' constructor)
    refine zqq rfl (q_seqN postE rfl rfl rfl) ?_
    repeat (refine stp rfl ?_ ?_;·repeat' constructor)
    refine pw_cond rfl (fun h => ?_) (fun h => ?_)
    · exact absurd h (by simp)
    · repeat (refine stp rfl ?_ ?_;·repeat' constructor)
      exact ⟨k + 1, hlt, by omega, rfl, rfl, i64_next (by omega) (by omega), trivial⟩
  · repeat (refine stp rfl ?_ ?_;·repeat' constructor)
    exact end1b rfl rfl rfl
theorem Acc.fine {l : List SPost} (h : Acc l) : ∀ p ∈ l, checkE p = 0 := by
  intro p hp
  obtain ⟨j, hj, rfl⟩ := List.getElem_of_mem hp
  exact (refusalR_zero (h.at_ j _ (List.getElem?_eq_getElem hj)).1).1
theorem recG_acc : ∀ (f : Nat) (r : Str) (l : List SPost) (n a : Int), Acc l → Acc (recG f r l n a).1
  | 0, r, l, n, a, h => h
  | f + 1, r, l, n, a, h => by
    have key : ∀ s c m, recS l n s = some (c, m) → Acc (l ++ [c]) := by
      intro s c m hs
      obtain ⟨c0, _, _, hr, rfl, _⟩ := recS_some hs
      exact h.snoc hr
    rw [recG]
    split
    · cases hs : recS l n r with
      | none => exact h
      | some q => exact key _ _ _ hs
    · cases hs : recS l n (r.take ((Lib.indexByte r 10).toNat + 1)) with
      | none => exact h
      | some q => exact recG_acc f _ _ _ _ (key _ _ _ hs)
theorem recP_len (t : Str) : (recP t).1.length ≤ 400 := (recG_acc (t.length + 1) t [] 1 0 .nil).ok.wf.len
set_option maxRecDepth 20000 in
theorem journals_law (hawake : Ret Tryz.prog .shared 11 [] (.bool true)) (l : List SPost) (t : Str) : Ret Tryz.prog .shared 4 [.sl (l.map ePost), .str t] (.bool true) := by
  have h19 := many_ret l
  cases hm : manyB l with
  | true =>
    rw [hm] at h19
    refine Ret.of_pwp layOk mixed Go.Proofs.Tryz.func4 rfl (by decide) rfl rfl ?_
    repeat (refine stp rfl ?_ ?_;·repeat' constructor)
    apply qst;exact rfl;exact rfl;exact q_callP rfl (h19) rfl (by repeat' constructor) rfl rfl
    repeat (refine stp rfl ?_ ?_;·repeat' constructor)
    apply qst;exact rfl;exact rfl;exact q_callP rfl (hawake) rfl (by repeat' constructor) rfl rfl
    repeat (refine stp rfl ?_ ?_;·repeat' constructor)
    exact end1b rfl rfl rfl
  | false =>
  rw [hm] at h19
  by_cases htl : 3000 < t.length
  · refine Ret.of_pwp layOk mixed Go.Proofs.Tryz.func4 rfl (by decide) rfl rfl ?_
    repeat (refine stp rfl ?_ ?_;·repeat' constructor)
    apply qst;exact rfl;exact rfl;exact q_callP rfl (h19) rfl (by repeat' constructor) rfl rfl
    repeat (refine stp rfl ?_ ?_;·repeat' constructor)
    refine pw_cond rfl (fun h => ?_) (fun h => ?_)
    · repeat (refine stp rfl ?_ ?_;·repeat' constructor)
      apply qst;exact rfl;exact rfl;exact q_callP rfl (hawake) rfl (by repeat' constructor) rfl rfl
      repeat (refine stp rfl ?_ ?_;·repeat' constructor)
      exact end1b rfl rfl rfl
    · exact absurd (of_decide_eq_false h) (by omega)
  have hll : l.length ≤ 40 := by
    simp only [manyB, Bool.or_eq_false_iff, decide_eq_false_iff_not] at hm
    omega
  clear hm
  have h20 := loaded_ret l (by omega)
  have hA := accR_acc (l := l) Acc.nil
  have hml := hA.ok.wf.len
  have h23 := journal_ret (accR [] l) hA.fine (by omega)
  have h24 := journal_ref (accR [] l) hA.fine (by omega)
  have h21 := recover_ret t (by omega)
  have h22 := recover_ref t (by omega)
  have hkl := recP_len t
  generalize recP t = rp at *
  obtain ⟨k, at_⟩ := rp
  dsimp only at h21 h22 hkl
  have h26 := bookPosts_ret k (by omega)
  have h25 := postsZ_ret k (by omega)
  generalize (jrnF (accR [] l)).1 = jt at *
  generalize accR [] l = m at *
  refine Ret.of_pwp layOk mixed Go.Proofs.Tryz.func4 rfl (by decide) rfl rfl ?_
  repeat (refine stp rfl ?_ ?_;·repeat' constructor)
  apply qst;exact rfl;exact rfl;exact q_callP rfl (h19) rfl (by repeat' constructor) rfl rfl
  repeat (refine stp rfl ?_ ?_;·repeat' constructor)
  refine pw_cond rfl (fun h => ?_) (fun h => ?_)
  · exact absurd (of_decide_eq_true h) (by omega)
  clear h
  repeat (refine stp rfl ?_ ?_;·repeat' constructor)
  apply qst;exact rfl;exact rfl;exact q_call rfl (h20) rfl (by repeat' constructor) rfl
  repeat (refine stp rfl ?_ ?_;·repeat' constructor)
  apply qst;exact rfl;exact rfl;exact q_callF rfl (h21) rfl (by repeat' constructor) rfl
  repeat (refine stp rfl ?_ ?_;·repeat' constructor)
  apply qst;exact rfl;exact rfl;exact q_call rfl (h22) rfl (by repeat' constructor) rfl
  repeat (refine stp rfl ?_ ?_;·repeat' constructor)
  apply qst;exact rfl;exact rfl;exact q_callP rfl (h23) rfl (by repeat' constructor) rfl rfl
  repeat (refine stp rfl ?_ ?_;·repeat' constructor)
  apply qst;exact rfl;exact rfl;exact q_callP rfl (h24) rfl (by repeat' constructor) rfl rfl
  repeat (refine stp rfl ?_ ?_;·repeat' constructor)
  (first | refine ps_split rfl rfl (fun h => ?_) (fun h => ?_) | refine pq_split rfl rfl (fun h => ?_) (fun h => ?_) | refine p3_split rfl rfl (fun h => ?_) (fun h => ?_))
  rotate_left
  · exact absurd h (by simp)
  clear h
  repeat (refine stp rfl ?_ ?_;·repeat' constructor)
  apply qst;exact rfl;exact rfl;exact q_callF rfl (h26) rfl (by repeat' constructor) rfl
  repeat (refine stp rfl ?_ ?_;·repeat' constructor)
  apply qst;exact rfl;exact rfl;exact q_callP rfl (h25) rfl (by repeat' constructor) rfl rfl
  repeat (refine stp rfl ?_ ?_;·repeat' constructor)
  (first | refine ps_split rfl rfl (fun h => ?_) (fun h => ?_) | refine pq_split rfl rfl (fun h => ?_) (fun h => ?_) | refine p3_split rfl rfl (fun h => ?_) (fun h => ?_))
  rotate_left
  · exact absurd h (by simp)
  clear h
  repeat (refine stp rfl ?_ ?_;·repeat' constructor)
  apply qst;exact rfl;exact rfl;exact q_callP rfl (hawake) rfl (by repeat' constructor) rfl rfl
  repeat (refine stp rfl ?_ ?_;·repeat' constructor)
  exact end1b rfl rfl rfl
end Go.Pv


set_option maxHeartbeats 2000000
namespace Go.Pv
attribute [local irreducible] PWP POps PQuiet PSem XThen XBlock RetPost InlPost
open Go.Proofs
theorem rows_map {α : Type} {f : α → List PV} : ∀ {rows : List (List PV)}, (∀ row ∈ rows, ∃ x, row = f x) → ∃ l : List α, rows = l.map f
  | [], _ => ⟨[], rfl⟩
  | row :: rows, h => by
    obtain ⟨x, rfl⟩ := h row (by simp)
    obtain ⟨l, rfl⟩ := rows_map (rows := rows) fun r hr => h r (by simp [hr])
    exact ⟨x :: l, rfl⟩
theorem dec_post {n : Nat} {cs : List PV} (h : tyP lay.get (n + 2) 23 cs) : ∃ x, cs = ePost x := by
  obtain ⟨parts, rfl, hl, hp⟩ := tyP_st h rfl
  match parts, hl, hp with
  | [p0, p1, p2, p3, p4, p5, p6, p7, p8], _, hp =>
    obtain ⟨a0, rfl⟩ := tyP_int (hp 0 _ p0 rfl rfl) rfl
    obtain ⟨a1, rfl⟩ := tyP_int (hp 1 _ p1 rfl rfl) rfl
    obtain ⟨a2, rfl⟩ := tyP_str (hp 2 _ p2 rfl rfl) rfl
    obtain ⟨a3, rfl⟩ := tyP_str (hp 3 _ p3 rfl rfl) rfl
    obtain ⟨a4, rfl⟩ := tyP_str (hp 4 _ p4 rfl rfl) rfl
    obtain ⟨a5, rfl⟩ := tyP_str (hp 5 _ p5 rfl rfl) rfl
    obtain ⟨a6, rfl⟩ := tyP_int (hp 6 _ p6 rfl rfl) rfl
    obtain ⟨a7, rfl⟩ := tyP_int (hp 7 _ p7 rfl rfl) rfl
    obtain ⟨a8, rfl⟩ := tyP_int (hp 8 _ p8 rfl rfl) rfl
    exact ⟨⟨a0, a1, a2, a3, a4, a5, a6, a7, a8⟩, rfl⟩
theorem dec_posts {c : PV} (h : argP lay.get 39 c) : ∃ s : List SPost, c = .sl (s.map ePost) := by
  obtain ⟨rows, hr, h2⟩ := tyP_sl (show tyP lay.get 6 39 [c] from h) rfl
  cases hr
  obtain ⟨l, rfl⟩ := rows_map (f := ePost) fun row hrow => dec_post (h2 row hrow)
  exact ⟨l, rfl⟩
end Go.Pv


namespace Go.Proofs.YtakfiahnhjnndaaGreatDoor
open Go Go.ChangeShapes Go.WideShapes Go.ChangeAt Go.RowKit Go.Pv Go.Stop Go.Extern Go.Kit
theorem ownL : ownKnob Tryz.prog.godebug = none := by kernel_rfl
theorem laidB : laidOutB Tryz.prog = true := by kernel_rfl
def laidL : List (String × DataW Unit) := [("math/bits.deBruijn32tab", Rows.laid_math_bits_deBruijn32tab), ("math/bits.deBruijn64tab", Rows.laid_math_bits_deBruijn64tab), ("internal/strconv.uint64pow10", Rows.laid_internal_strconv_uint64pow10), ("unicode/utf8.acceptRanges", Rows.laid_unicode_utf8_acceptRanges), ("strconv.ErrRange", Rows.laid_strconv_ErrRange), ("strconv.ErrSyntax", Rows.laid_strconv_ErrSyntax), ("unicode/utf8.first", Rows.laid_unicode_utf8_first)]
theorem laidL_plain (w : World) : laidMetH Tryz.prog laidL w = laidMet Tryz.prog laidL w := MakeChecks.laidMetH_plain _ _ _ (by kernel_rfl)
theorem laidL_met (os : Os) (args : Array Value) : laidMetH Tryz.prog laidL ((World.laidAll Tryz.prog os laidL).forCall (fun _ _ => 0) ⟨#[], args, []⟩).memory := by
  rw [laidL_plain]
  exact laidMet_laidAll _ (by kernel_rfl) (by kernel_rfl)
theorem pow_g : ∃ g t e, Tryz.prog.globalNamed "internal/strconv.uint64pow10" = some g ∧ (Tryz.prog.globals[g]?).map (·.type) = some t ∧ Tryz.prog.underlying t = some (.array 20 e) ∧ Tryz.prog.underlying e = some (.int .u64) ∧ Tryz.prog.cellsOf e = 1 ∧ Tryz.prog.cellsOf t = 20 := by
  refine ⟨(Tryz.prog.globalNamed "internal/strconv.uint64pow10").getD 0, ((Tryz.prog.globals[(Tryz.prog.globalNamed "internal/strconv.uint64pow10").getD 0]?).map (·.type)).getD 0, 237, ?_, ?_, ?_, ?_, ?_, ?_⟩ <;> kernel_rfl
theorem starE : "*" ++ "errors.errorString" = "*errors.errorString" := by decide
theorem rowE (u : TypeId) (h : Tryz.prog.typeName? 3 u = some "*errors.errorString") : u = 267 :=
  typeName_ptr_named (nm := "errors.errorString") (by rw [starE]; kernel_rfl) (by kernel_rfl) (by decide) u (by rw [starE]; exact h)
theorem holds_err {w : World} {nm : String} {text : List UInt8} {r : List (String × DataW Unit)} {g : Nat} (h : laidMet Tryz.prog ((nm, .iface "*errors.errorString" (.ptr (.agg [.lit (.string text)]))) :: r) w) (hg : Tryz.prog.globalNamed nm = some g) (ht : (Tryz.prog.globals[g]?).map (·.type) = some 115) : HoldsErr w nm := by
  obtain ⟨a, s, h1, _⟩ := laid_sentinel h hg ht Tryz.underlying115 rowE Tryz.underlying267 Tryz.underlying269 rfl rfl Tryz.underlying9 (by kernel_rfl) (by kernel_rfl)
  exact ⟨g, _, _, hg, by simpa using World.var?_cell hg h1 0⟩
theorem laidL_parts {w : World} (h : laidMetH Tryz.prog laidL w) : Lib.TabIs Tryz.prog w "internal/strconv.uint64pow10" .u64 Lib.pow10Tab ∧ HoldsErr w "strconv.ErrSyntax" ∧ HoldsErr w "strconv.ErrRange" := by
  rw [laidL_plain] at h
  unfold laidL at h
  have h3 := laidMet.tail (laidMet.tail h)
  have h5 := laidMet.tail (laidMet.tail h3)
  have h6 := laidMet.tail h5
  obtain ⟨g, t, e, h1, h2, h4, h5', h6', h7⟩ := pow_g
  exact ⟨Lib.tabIs_of_head (k := .u64) (zs := Lib.pow10Tab) h1 h2 h4 h5' h6' h7 h3, holds_err (g := 0) h6 (by kernel_rfl) (by kernel_rfl), holds_err (g := 1) h5 (by kernel_rfl) (by kernel_rfl)⟩
end Go.Proofs.YtakfiahnhjnndaaGreatDoor


namespace Go
variable {H : Type} {enc : TypeId × Value → H}
theorem handed_and_shaped {a : Assume} {C : Checked} {os : Os} {f : FuncId} {fn : Func} {s : ChangeSpec} {conds : List PathCond} {apart fresh handsOn again : Bool} {X : World → Array Value → Prop}
    (hX : ∀ (w w' : World) (args : Array Value), w.heap = w'.heap → X w args → X w' args)
    (own : ownKnob C.prog.godebug = none) (started : os.Started) (noInit : C.prog.inits.idxOf? f = none) (hfn : C.prog.funcs[f]? = some fn)
    (witness : ∃ (w : World) (tape : Tape) (i : Input), w.os = os ∧ (w.forCall tape i).Shaped C.prog ∧ i.vars = [] ∧ Input.okWide C.prog (w.forCall tape i) .any w.heap.size f i ∧
      ((s.pre enc C.prog fn conds apart (w.forCall tape i).memory i.args ∧ X (w.forCall tape i).memory i.args) ∧ sizedMet enc C.prog fn (OpenSpec.ofChange s) apart (w.forCall tape i).memory i.args) ∧ a.holds C.prog (lone (Frame.enter C.prog f i.args .normal) [] (w.forCall tape i)))
    (contract : ∀ (W : World) (base : Nat) (args : Array Value) (ds gs : List (DataW H)) (before : List MemPlace),
      (∀ (j : Nat) t v, fn.params[j]? = some t → args[j]? = some v → Value.okWide C.prog W .any base t v) →
      DataW.Whole enc C.prog fn.params.toList s.vars apart W args.toList ds gs before →
      conds.all (PathCond.test C.prog ⟨fn.params.toList, ds, s.plain.varTypes C.prog, gs⟩) = true →
      (DataW.weightsEach C.prog (fn.params.toList ++ s.plain.varTypes C.prog) (ds ++ gs)).all (· ≤ reachBytes) = true → X W args → W.ShapedOpen C.prog →
      a.holds C.prog (lone (Frame.enter C.prog f args .normal) [] W) →
      Calls C.prog f args W fun e W' => ∃ v, e = .returned v ∧ s.post enc C.prog fn apart fresh handsOn again W args v W') :
    ReturnsInHanded a C os f .any (fun w args => (s.pre enc C.prog fn conds apart w args ∧ X w args) ∧ sizedMet enc C.prog fn (OpenSpec.ofChange s) apart w args) (s.post enc C.prog fn apart fresh handsOn again) := by
  refine returnsInHanded_of_calls own started noInit witness ?_
  intro w tape i _ hsh _ hok hpre hholds
  obtain ⟨_, _, _, fn', hfn', _, _, _, _, hval⟩ := hok
  have e : fn' = fn := Option.some.inj (hfn'.symm.trans hfn)
  subst e
  obtain ⟨⟨⟨ds, gs, before, hw, hc⟩, hx⟩, hz⟩ := hpre
  have hw' := DataW.Whole.of_heap (w' := w.forCall tape i) (by rfl) hw
  refine (contract (w.forCall tape i) w.heap.size i.args ds gs before hval hw' hc (hz.weights hw) (hX _ _ _ (by rfl) hx) hsh hholds).mono fun e W' ⟨v, he, hp⟩ => ?_
  subst he
  exact ChangeSpec.post_blind hp
end Go
namespace Go.Proofs.YtakfiahnhjnndaaGreatDoor
open Go Go.ChangeShapes Go.WideShapes Go.ChangeAt Go.RowKit Go.Pv Go.Stop Go.Extern Go.Kit
theorem max_is {w : World} (h : w.ShapedOpen Tryz.prog) : MaxIs w := by
  obtain ⟨m, hm⟩ := cell_of_shapedOpen_int (P := Tryz.prog) (g := 2) (t := 3) (zero := #[.int .i64 0]) (k := .i64) h (by decide +kernel) (by kernel_rfl) (by kernel_rfl) (by kernel_rfl) (by kernel_rfl) (by kernel_rfl)
  exact ⟨2, m, by kernel_rfl, hm⟩
theorem laidL_max {w : World} (h : laidMetH Tryz.prog laidL w) (hs : w.ShapedOpen Tryz.prog) : Lib.TabIs Tryz.prog w "internal/strconv.uint64pow10" .u64 Lib.pow10Tab ∧ HoldsErr w "strconv.ErrSyntax" ∧ HoldsErr w "strconv.ErrRange" ∧ MaxIs w :=
  have p := laidL_parts h
  ⟨p.1, p.2.1, p.2.2, max_is hs⟩
end Go.Proofs.YtakfiahnhjnndaaGreatDoor

