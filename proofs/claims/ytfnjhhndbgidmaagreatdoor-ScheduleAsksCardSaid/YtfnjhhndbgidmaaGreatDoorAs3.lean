/- Texts of one hand, gathered: PvU, PvW3, PvMa, PvM, PvN, PvO, PvP, PvY, PvZ, AzA, PvEnd, PvTk, PvCp, AzB, PvT. -/
import Derived.Test.YtfnjhhndbgidmaaGreatDoorAs2
import Derived.OrdersIn
import Derived.TacticsIn
import Derived.RangeFuncIn
import Derived.RangeFuncRecord
import Derived.RangeFuncLeaves
import Derived.Laws.CopyRow
import Derived.Test.YtfnjhhndbgidmaaGreatDoorProg
import Derived.KernelRfl
import Derived.Lib.SmallJoins
import Derived.Lib.ItoaNum
set_option linter.unusedSectionVars false
set_option linter.unusedSimpArgs false
set_option linter.unusedVariables false
set_option linter.unnecessarySimpa false
namespace Go.Pv
open Go.RowKit
variable [Globs]
section
variable {P : Program} {L : Lay} {C : Ctx} {a : Act} {w w' : World} {ops : Array Oper}
theorem all_listed {listed : Array Bool} (hmem : ∀ i, i ∈ ([] : List Nat) ↔ i < ops.size ∧ listed.getD i true = false) : Region.ready .any ops listed = [] := by
  cases h : Region.ready .any ops listed with
  | nil => rfl
  | cons i l =>
    exfalso
    have hi : i ∈ Region.ready .any ops listed := by rw [h]; simp
    obtain ⟨hun, o, ho, _⟩ := mem_ready.1 hi
    have := (hmem i).2 ⟨(Array.getElem?_eq_some_iff.1 ho).1, hun⟩
    cases this
theorem getD_tf {listed : Array Bool} {i : Nat} (h : i < listed.size) : listed.getD i true = listed.getD i false := by simp [h]
theorem put_own (s : St) (d : Option Nat) (v : PV) : (s.put d v).own = s.own := by cases d <;> rfl
def WF2 (ops : Array Oper) (t i : Nat) : Bool := Region.waitsFor .any ops t i || (List.range ops.size).any fun j => Region.waitsFor .any ops t j && Region.waitsFor .any ops j i
def MV (ops : Array Oper) (n m : Nat) (full : St) (ot : Oper) : Prop :=
  (∃ x, (ot.op = .assign x ∨ ot.op = .move x) ∧ full.ev x ≠ .nil) ∧ ∀ x ∈ ot.looksAt ops, ∀ (q : Nat) (oq : Oper), n + m ≤ q → ops[q]? = some oq → oq.dst ≠ some x
theorem draw_late (hG : Good P L C) {n m : Nat} {ds F : List Nat} (hd : Draw2Ok ops n m ds F) {K' : St → Prop} {Q : Exit → Act → World → Prop} (hK : ∀ s' a' w', SimE C s' a' w' → K' s' → Q .normal a' w')
    (hN : ∀ o ∈ ops.toList, dstLt C.N o.dst = true) {full s0 : St} {vs : List PV}
    (hdi : ∀ i o, i < n + m → ops[i]? = some o → ∃ d, ds[i]? = some d ∧ o.dst = some d) (hole : OwnLe s0 full)
    (hv : ∀ i ∈ F, ∀ o, ops[i]? = some o → ∃ v sf, vs[i]? = some v ∧ Yld P L ops sf o v ∧ (∀ t ∈ o.looksAt ops, sf.reg t = full.reg t) ∧ (∀ d, ds[i]? = some d → full.reg d = v) ∧ sf.own = s0.own ∧ (dataAt full o.op = true ∨ ∀ t ot, n + m ≤ t → ops[t]? = some ot → WF2 ops t i = true ∨ MV ops n m full ot)) :
    ∀ (f : Nat) (U : List Nat) (listed : Array Bool) (p : Nat) (u s : St) (a : Act) (w : World), U.length = f → U.Nodup → (∀ i, i ∈ U ↔ i < ops.size ∧ listed.getD i true = false) → listed.size = ops.size →
      (∀ i, i < n + m → i ∉ F → listed.getD i true = true) → (∀ t, n + m ≤ t → t < ops.size → (listed.getD t true = true ↔ t < n + m + p)) → POps P L ops K' (ops.toList.drop (n + m + p)) u →
      (∀ t, (∀ q ot, n + m ≤ q → q < n + m + p → ops[q]? = some ot → ot.dst ≠ some t) → u.reg t = full.reg t) → s.own = u.own → (∀ t, (∀ i ∈ F, listed.getD i true = false → ds[i]? ≠ some t) → s.reg t = u.reg t) →
      ((∀ q oq, n + m ≤ q → q < n + m + p → ops[q]? = some oq → MV ops n m full oq) → u.own = full.own) →
      (∀ i o, ops[i]? = some o → listed.getD i true = true → ∀ e ∈ o.after, Region.binds .any e = true → listed.getD e.on true = true) → SimE C s a w →
      wpAny P .any ops Q f listed a w := by
  intro f
  induction f with
  | zero =>
    intro U listed p u s a w hU _ hmem hsz hhead htail hops _ hown hreg _ _ h
    have hU0 : U = [] := List.eq_nil_of_length_eq_zero hU
    subst hU0
    have hall : ∀ i, i < ops.size → listed.getD i true = true := fun i hi => by
      cases hb : listed.getD i true with
      | true => rfl
      | false => have := (hmem i).2 ⟨hi, hb⟩; cases this
    refine ⟨all_listed hmem, ?_⟩
    have hge : ops.size ≤ n + m + p := by
      rcases Nat.lt_or_ge (n + m + p) ops.size with h1 | h1
      · have := (htail (n + m + p) (by omega) h1).1 (hall _ h1); omega
      · exact h1
    rw [List.drop_eq_nil_of_le (by simpa using hge)] at hops
    have hsu : s = u := St.ext' (funext fun t => hreg t fun i hi hl _ => by
      have := hall i (by have := (hd.late i hi).1; have := hd.le; omega)
      rw [this] at hl; cases hl) hown
    rw [hsu] at h
    exact hK _ _ _ h hops
  | succ f ih =>
    intro U listed p u s a w hU hnd hmem hsz hhead htail hops hfull hown hreg hown0 hcl h
    refine ⟨fun hnil => absurd hnil (least_ready hsz hd.lex hmem (by intro e; rw [e] at hU; simp at hU)), fun i hi => ?_⟩
    obtain ⟨hun, o, ho, hall⟩ := mem_ready.1 hi
    have hisz : i < ops.size := (Array.getElem?_eq_some_iff.1 ho).1
    have hUi : i ∈ U := (hmem i).2 ⟨hisz, hun⟩
    have hil : i < listed.size := by omega
    have hmem' : ∀ k, k ∈ U.erase i ↔ k < ops.size ∧ (listed.setIfInBounds i true).getD k true = false := fun k => by
      rw [hnd.mem_erase_iff, hmem k]
      by_cases hki : k = i
      · subst hki; simp [hil]
      · rw [getD_set_ne true (Ne.symm hki)]
        exact ⟨fun x => x.2, fun x => ⟨hki, x⟩⟩
    have hset : ∀ k, (listed.setIfInBounds i true).getD k true = (if k = i then true else listed.getD k true) := fun k => by
      by_cases hki : k = i
      · subst hki; simp [hil]
      · rw [getD_set_ne true (Ne.symm hki), if_neg hki]
    have hlen' : (U.erase i).length = f := by rw [List.length_erase_of_mem hUi]; omega
    have hNo : dstLt C.N o.dst = true := hN o (by have := Array.mem_of_getElem? ho; simpa using this)
    have hdone : ∀ j, Region.waitsFor .any ops i j = true → listed.getD j true = true := by
      intro j hj
      obtain ⟨oj, hoj, e, he, hb, hon⟩ := Region.waitsFor_spec hj
      rw [ho] at hoj
      have hoj := Option.some.inj hoj
      subst hoj
      have h1 := hall e he hb
      have h2 := hd.lex i o ho e he hb
      rw [hon] at h1 h2
      rw [getD_tf (by omega)]; exact h1
    have hcl' : ∀ k o', ops[k]? = some o' → (listed.setIfInBounds i true).getD k true = true → ∀ e ∈ o'.after, Region.binds .any e = true → (listed.setIfInBounds i true).getD e.on true = true := by
      intro k o' ho' hk e he hb
      rw [hset] at hk ⊢
      split
      · rfl
      · by_cases hki : k = i
        · subst hki
          rw [ho] at ho'
          have ho' := Option.some.inj ho'
          subst ho'
          have h1 := hall e he hb
          have h2 := hd.lex k o ho e he hb
          rw [getD_tf (by omega)]; exact h1
        · rw [if_neg hki] at hk
          exact hcl k o' ho' hk e he hb
    by_cases hin : i < n + m
    ·
      have hiF : i ∈ F := by
        by_cases hF : i ∈ F
        · exact hF
        · have := hhead i hin hF; rw [this] at hun; cases hun
      obtain ⟨hn', o', ho', hfl⟩ := hd.late i hiF
      rw [ho] at ho'
      have ho' := Option.some.inj ho'
      subst ho'
      obtain ⟨d, hdd, hod⟩ := hdi i o hin ho
      obtain ⟨v, sf, _, hy, hsf, hfd, hso, hda⟩ := hv i hiF o ho
      have hnt : ∀ t ∈ o.looksAt ops, ∀ q ot, n + m ≤ q → q < n + m + p → ops[q]? = some ot → ot.dst ≠ some t := fun t ht q ot hq hqp hot e => by
        have hw := (hfl q ot hq hot).2.1 t e ht
        obtain ⟨oj, hoj, e', he', hb', hon'⟩ := Region.waitsFor_spec hw
        have hqs : q < ops.size := (Array.getElem?_eq_some_iff.1 hot).1
        have := hcl q oj hoj ((htail q hq hqs).2 hqp) e' he' hb'
        rw [hon', hun] at this; cases this
      have hsame : ∀ t ∈ o.looksAt ops, sf.reg t = s.reg t := fun t ht => by
        rw [hsf t ht, hreg t, hfull t (hnt t ht)]
        intro j hj hl hjt
        obtain ⟨hji, e, he, hb, hon⟩ := hd.looks i o hin ho t ht j (by have := (hd.late j hj).1; omega) hjt
        have := hall e he hb
        rw [hon] at this
        rw [getD_tf (by omega), this] at hl; cases hl
      have hyl : Yld P L ops s o v := by
        rcases hy with ⟨h1, h2⟩ | ⟨h1, h2⟩
        · refine .inl ⟨h1.congr hsame, ?_⟩
          rcases hda with hda | hda
          · exact h2.free2 (dataAt_congr (fun x hx => (ops_ev hsf x hx).symm) hda) (ops_ev hsame)
          · have huo : u.own = full.own := hown0 fun q oq hq hqp hoq => by
              rcases hda q oq hq hoq with hw | hmv
              · have hqs : q < ops.size := (Array.getElem?_eq_some_iff.1 hoq).1
                rw [WF2, Bool.or_eq_true, List.any_eq_true] at hw
                rcases hw with hw | ⟨j2, _, hw⟩
                · obtain ⟨oj, hoj, e', he', hb', hon'⟩ := Region.waitsFor_spec hw
                  have := hcl q oj hoj ((htail q hq hqs).2 hqp) e' he' hb'
                  rw [hon', hun] at this; cases this
                · rw [Bool.and_eq_true] at hw
                  obtain ⟨oj, hoj, e', he', hb', hon'⟩ := Region.waitsFor_spec hw.1
                  have h3 := hcl q oj hoj ((htail q hq hqs).2 hqp) e' he' hb'
                  rw [hon'] at h3
                  obtain ⟨oj2, hoj2, e2, he2, hb2, hon2⟩ := Region.waitsFor_spec hw.2
                  have := hcl j2 oj2 hoj2 h3 e2 he2 hb2
                  rw [hon2, hun] at this; cases this
              · exact hmv
            have g3 : QOp P L ⟨s.reg, s0.own⟩ o v := QOp.congr (s' := ⟨s.reg, s0.own⟩) hso (ops_ev (s' := ⟨s.reg, s0.own⟩) hsame) h2
            have hle : OwnLe ⟨s.reg, s0.own⟩ s := by
              intro k
              rcases hole k with hk | hk
              · left
                show s.own k = s0.own k
                rw [hown, huo]; exact hk
              · exact .inr hk
            exact g3.le hle rfl
        · exact .inr ⟨h1.congr hsame, h2⟩
      have hnext : ∀ a' w', SimE C (s.put o.dst v) a' w' → wpAny P .any ops Q f (listed.setIfInBounds i true) a' w' := by
        intro a' w' h'
        refine ih (U.erase i) _ p u _ a' w' hlen' (hnd.erase i) hmem' (by simp [hsz]) (fun k hk hkF => ?_) (fun t ht1 ht2 => ?_) hops hfull (by rw [hod]; exact hown) (fun t hnot => ?_) hown0 hcl' h'
        · rw [hset]; split
          · rfl
          · exact hhead k hk hkF
        · rw [hset, if_neg (by omega)]; exact htail t ht1 ht2
        · rw [hod]
          show (bif Nat.beq t d then v else s.reg t) = _
          by_cases htd : t = d
          · subst htd
            have hnd' : ∀ q ot, n + m ≤ q → q < n + m + p → ops[q]? = some ot → ot.dst ≠ some t := fun q ot hq _ hot e => (hfl q ot hq hot).1 (by rw [e, hod])
            rw [hfull t hnd', hfd t hdd]; simp
          · rw [nbeq_ne htd]
            refine hreg t fun j hj hl hjt => ?_
            have hji : j ≠ i := by
              intro e; subst e
              rw [hdd] at hjt
              exact htd (Option.some.inj hjt).symm
            exact hnot j hj (by rw [hset, if_neg hji]; exact hl) hjt
      unfold wpOp
      rw [ho]
      simp only
      rcases hyl with ⟨hw, hq⟩ | ⟨hw, hq⟩
      · rw [if_pos (hw.spec h)]
        exact .inl (hq.wp hG h hNo hnext)
      · rw [if_neg (by rw [hw.spec h]; simp)]
        refine hnext _ _ ?_
        rw [hq]
        exact h.put hNo undef
    ·
      have hip : i = n + m + p := by
        have h1 : ¬ i < n + m + p := fun hlt => by
          have := (htail i (by omega) hisz).2 hlt
          rw [this] at hun; cases hun
        rcases Nat.lt_or_ge (n + m + p) i with h2 | h2
        · have h3 := hdone (i - 1) (hd.chain i (by omega) hisz)
          have := (htail (i - 1) (by omega) (by omega)).1 h3
          omega
        · omega
      have hdrop : ops.toList.drop (n + m + p) = o :: ops.toList.drop (n + m + (p + 1)) := by
        rw [List.drop_eq_getElem_cons (by simp; omega)]
        congr 1
        have : ops[n + m + p]? = some o := by rw [← hip]; exact ho
        obtain ⟨hl, he⟩ := Array.getElem?_eq_some_iff.1 this
        simpa using he
      rw [hdrop] at hops
      have hsame : ∀ t ∈ o.looksAt ops, u.reg t = s.reg t := fun t ht => by
        refine (hreg t fun j hj hl hjt => ?_).symm
        obtain ⟨_, oj, hoj, hfl⟩ := hd.late j hj
        obtain ⟨d, hdd, hod⟩ := hdi j oj (by have := (hd.late j hj).1; omega) hoj
        rw [hdd] at hjt
        have hjt := Option.some.inj hjt
        subst hjt
        have := hdone j ((hfl i o (by omega) ho).2.2 d hod ht)
        rw [this] at hl; cases hl
      have hnext : ∀ u' s', POps P L ops K' (ops.toList.drop (n + m + (p + 1))) u' → s'.own = u'.own → (∀ t, o.dst = some t → s'.reg t = u'.reg t) → (∀ t, o.dst ≠ some t → s'.reg t = s.reg t ∧ u'.reg t = u.reg t) → (MV ops n m full o → u'.own = u.own) →
          ∀ a' w', SimE C s' a' w' → wpAny P .any ops Q f (listed.setIfInBounds i true) a' w' := by
        intro u' s' hops' hown' hr1 hr2 hU a' w' h'
        refine ih (U.erase i) _ (p + 1) u' s' a' w' hlen' (hnd.erase i) hmem' (by simp [hsz]) (fun k hk hkF => ?_) (fun t ht1 ht2 => ?_) hops' (fun t hnt => ?_) hown' (fun t hnot => ?_) (fun hall' => (hU (hall' i o (by omega) (by omega) ho)).trans (hown0 fun q oq h1 h2 h3 => hall' q oq h1 (by omega) h3)) hcl' h'
        · rw [hset, if_neg (by omega)]; exact hhead k hk hkF
        · rw [hset]
          by_cases hti : t = i
          · rw [if_pos hti]; simp; omega
          · rw [if_neg hti, htail t ht1 ht2]; omega
        · have hne : o.dst ≠ some t := hnt i o (by omega) (by omega) ho
          rw [(hr2 t hne).2]; exact hfull t fun q ot h1 h2 h3 => hnt q ot h1 (by omega) h3
        · by_cases hot : o.dst = some t
          · exact hr1 t hot
          · rw [(hr2 t hot).1, (hr2 t hot).2]
            exact hreg t fun j hj hl => hnot j hj (by rw [hset, if_neg (by have := (hd.late j hj).1; omega)]; exact hl)
      have hmvn : ∀ {u' : St}, MV ops n m full o → Eff P L u o u' → False := by
        intro u' hmv he
        obtain ⟨⟨x, hx, hxn⟩, hnw⟩ := hmv
        have hxe : u.ev x = full.ev x := by
          have hmem : x ∈ o.op.operands := by rcases hx with hx | hx <;> rw [hx] <;> simp [Op.operands]
          exact ops_ev (ops := ops) (s := u) (s' := full) (o := o) (fun t ht => hfull t fun q oq h1 _ h3 => hnw t ht q oq h1 h3) x hmem
        cases he with
        | nils e sz kd ho' hd' hx' =>
          rename_i x' d
          have : x' = x := by rcases hx with hx | hx <;> rcases ho' with ho' | ho' <;> rw [hx] at ho' <;> cases ho' <;> rfl
          subst this
          exact hxn (by rw [← hxe]; exact hx')
        | box ho' => rcases hx with hx | hx <;> rw [hx] at ho' <;> cases ho'
        | alloc ho' => rcases hx with hx | hx <;> rw [hx] at ho' <;> cases ho'
        | store kd ho' => rcases hx with hx | hx <;> rw [hx] at ho' <;> cases ho'
        | appN ho' => rcases hx with hx | hx <;> rw [hx] at ho' <;> cases ho'
        | app kd ho' => rcases hx with hx | hx <;> rw [hx] at ho' <;> cases ho'
        | make ho' => rcases hx with hx | hx <;> rw [hx] at ho' <;> cases ho'
        | slit kd ho' => rcases hx with hx | hx <;> rw [hx] at ho' <;> cases ho'
        | makeMap ho' => rcases hx with hx | hx <;> rw [hx] at ho' <;> cases ho'
        | mapOld ho' => rcases hx with hx | hx <;> rw [hx] at ho' <;> cases ho'
        | mapNew ho' => rcases hx with hx | hx <;> rw [hx] at ho' <;> cases ho'
        | entStore kd ho' => rcases hx with hx | hx <;> rw [hx] at ho' <;> cases ho'
        | mapSet kd ho' => rcases hx with hx | hx <;> rw [hx] at ho' <;> cases ho'
        | mapSetG kd ho' => rcases hx with hx | hx <;> rw [hx] at ho' <;> cases ho'
        | range ho' => rcases hx with hx | hx <;> rw [hx] at ho' <;> cases ho'
      have hput : ∀ v, (s.put o.dst v).own = (u.put o.dst v).own ∧ (∀ t, o.dst = some t → (s.put o.dst v).reg t = (u.put o.dst v).reg t) ∧ ∀ t, o.dst ≠ some t → (s.put o.dst v).reg t = s.reg t ∧ (u.put o.dst v).reg t = u.reg t := by
        intro v
        cases hdst : o.dst with
        | none => exact ⟨hown, fun t ht => by (cases ht), fun t _ => ⟨rfl, rfl⟩⟩
        | some d =>
          refine ⟨hown, fun t ht => ?_, fun t ht => ?_⟩
          · have := Option.some.inj ht
            subst this
            show (bif Nat.beq d d then v else _) = (bif Nat.beq d d then v else _)
            simp
          · have : t ≠ d := fun e => ht (by rw [e])
            exact ⟨by show (bif Nat.beq t d then v else s.reg t) = _; rw [nbeq_ne this]; rfl, by show (bif Nat.beq t d then v else u.reg t) = _; rw [nbeq_ne this]; rfl⟩
      unfold wpOp
      rw [ho]
      simp only
      rcases hops with ⟨hw, hp⟩ | ⟨hw, hp⟩
      · have hw' := hw.congr hsame
        rw [if_pos (hw'.spec h)]
        refine .inl ?_
        rcases hp with ⟨v, hq, hk⟩ | ⟨u', hq, hk⟩ | hq
        · obtain ⟨g1, g2, g3⟩ := hput v
          exact (hq.congr hown.symm (ops_ev hsame)).wp hG h hNo fun a' w' h' => hnext _ _ hk g1 g2 g3 (fun _ => put_own u _ _) a' w' h'
        · obtain ⟨s', hq', g1, g2, g3⟩ := hq.congr hown.symm (ops_ev hsame)
          exact hq'.sound hG.lay h hNo fun a' w' h' => hnext _ _ hk g1 g2 g3 (fun hmv => (hmvn hmv hq).elim) a' w' h'
        · exact (hq.congr hown.symm (ops_ev hsame)).sound h hNo fun s' a' w' h' ⟨u', hk, g1, g2, g3⟩ => hnext _ _ hk g1 g2 g3 (fun hmv => by
            exfalso
            obtain ⟨⟨x, hx, _⟩, _⟩ := hmv
            cases hq with
            | next ho' => rcases hx with hx | hx <;> rw [ho'] at hx <;> cases hx) a' w' h'
      · have hw' := hw.congr hsame
        rw [if_neg (by rw [hw'.spec h]; simp)]
        obtain ⟨g1, g2, g3⟩ := hput (.raw undef)
        exact hnext _ _ hp g1 g2 g3 (fun _ => put_own u _ _) _ _ (h.put hNo undef)
def allocd : List (Nat × Cont) → St → St
  | [], s => s
  | (d, c) :: l, s => allocd l ((s.fin d c).putR d (.ptr d ((s.own d).1 + 1) 0 0))
theorem puts_reg {s s' : St} (h : s.reg = s'.reg) : ∀ l, (puts l s).reg = (puts l s').reg
  | [] => h
  | (d, v) :: l => puts_reg (by funext t; show (bif Nat.beq t d then v else s.reg t) = (bif Nat.beq t d then v else s'.reg t); rw [h]) l
theorem allocd_spec : ∀ (l : List (Nat × Cont)) (s : St), (l.map (·.1)).Nodup → (allocd l s).reg = (puts (l.map fun p => (p.1, .ptr p.1 ((s.own p.1).1 + 1) 0 0)) s).reg ∧
    (∀ k c, (k, c) ∈ l → (allocd l s).own k = ((s.own k).1 + 1, some c)) ∧ ∀ k, k ∉ l.map (·.1) → (allocd l s).own k = s.own k
  | [], s, _ => ⟨rfl, fun k c h => (by cases h), fun k _ => rfl⟩
  | (d, c) :: l, s, hn => by
    simp only [List.map_cons, List.nodup_cons] at hn
    obtain ⟨h1, h2, h3⟩ := allocd_spec l ((s.fin d c).putR d (.ptr d ((s.own d).1 + 1) 0 0)) hn.2
    have hne : ∀ k, k ≠ d → ((s.fin d c).putR d (.ptr d ((s.own d).1 + 1) 0 0)).own k = s.own k := fun k hk => by show (s.fin d c).own k = _; rw [St.fin, setOwn_ne hk]
    have heq : ((s.fin d c).putR d (.ptr d ((s.own d).1 + 1) 0 0)).own d = ((s.own d).1 + 1, some c) := by show (s.fin d c).own d = _; rw [St.fin, setOwn_same]
    refine ⟨?_, fun k c' hk => ?_, fun k hk => ?_⟩
    · rw [allocd, h1, List.map_cons, puts]
      have : (l.map fun p => ((p.1, PV.ptr p.1 ((((s.fin d c).putR d (.ptr d ((s.own d).1 + 1) 0 0)).own p.1).1 + 1) 0 0) : Nat × PV)) = l.map fun p => (p.1, PV.ptr p.1 ((s.own p.1).1 + 1) 0 0) :=
        List.map_congr_left fun p hp => by rw [hne p.1 fun e => hn.1 (by rw [← e]; exact List.mem_map_of_mem hp)]
      rw [this]
      exact puts_reg (by rfl) _
    · rcases List.mem_cons.1 hk with hk | hk
      · have e1 : k = d := congrArg (·.1) hk
        have e2 : c' = c := congrArg (·.2) hk
        subst e1; subst e2
        rw [allocd, h3 k hn.1, heq]
      · have : k ≠ d := fun e => hn.1 (by rw [← e]; exact List.mem_map.2 ⟨_, hk, rfl⟩)
        rw [allocd, h2 k c' hk, hne k this]
    · simp only [List.map_cons, List.mem_cons, not_or] at hk
      rw [allocd, h3 k hk.2, hne k hk.1]
def AllocOk (L : Lay) (o : Oper) (c : Cont) : Prop := ∃ T r z, o.op = .alloc T ∧ L T = some r ∧ r.zero = some z ∧ 0 < z.length ∧ c = ⟨T, z.length, [z], 2⟩
theorem allocs_run {K : St → Prop} {tl : List Oper} : ∀ (l : List Oper) (ds : List Nat) (s : St), (∀ o ∈ l, ∃ T, o.op = .alloc T ∧ o.guard = none) → l.map (·.dst) = ds.map some → POps P L ops K (l ++ tl) s →
    ∃ cs : List Cont, cs.length = ds.length ∧ (∀ (k : Nat) (o : Oper) (c : Cont), l[k]? = some o → cs[k]? = some c → AllocOk L o c) ∧ POps P L ops K tl (allocd (ds.zip cs) s)
  | [], ds, s, _, hds, h => by
    have : ds = [] := by simpa using hds.symm
    subst this
    exact ⟨[], rfl, fun k o c hk => by simp at hk, h⟩
  | o :: l, ds, s, hal, hds, h => by
    cases ds with
    | nil => simp at hds
    | cons d ds =>
      simp only [List.map_cons, List.cons.injEq] at hds
      obtain ⟨T, hop, hg⟩ := hal o (by simp)
      have main : POp P L s o (POps P L ops K (l ++ tl)) := by
        rcases h with ⟨_, h⟩ | ⟨hw, _⟩
        · exact h
        · exfalso
          cases hw with
          | no h => rw [hg] at h; cases h
          | junk h => rw [hg] at h; cases h
      rcases main with ⟨v, hq, _⟩ | ⟨s', he, hk⟩ | hdem
      · exfalso
        cases hq with
        | v hq => rw [hop] at hq; simp [qv] at hq
        | seq ho => rw [hop] at ho; cases ho
        | idx ho => rw [hop] at ho; cases ho
        | idxA ho => rw [hop] at ho; cases ho
        | ldp ho => rw [hop] at ho; cases ho
        | slc ho => rw [hop] at ho; cases ho
        | slh ho => rw [hop] at ho; cases ho
        | slg fr ho => rw [hop] at ho; cases ho
        | slA ho => rw [hop] at ho; cases ho
        | slE ho => rw [hop] at ho; cases ho
        | call ho => rw [hop] at ho; cases ho
        | callF ho => rw [hop] at ho; cases ho
        | slit ho => rw [hop] at ho; cases ho
        | mks ho => rw [hop] at ho; cases ho
        | look ho => rw [hop] at ho; cases ho
        | sem hx ho => rw [hop] at ho; simp [Op.operands] at ho
        | semF hne => rw [hop] at hne; exact hne rfl
        | lookG ho => rw [hop] at ho; cases ho
        | s2b ho => rw [hop] at ho; cases ho
        | b2s ho => rw [hop] at ho; cases ho
        | entry ho => rw [hop] at ho; cases ho
      · cases he with
        | alloc ho hd hr hz h0 =>
          rename_i T' r z d'
          rw [hds.1] at hd
          have hd := Option.some.inj hd
          subst hd
          obtain ⟨cs, h1, h2, h3⟩ := allocs_run l ds _ (fun o' ho' => hal o' (by simp [ho'])) hds.2 hk
          refine ⟨⟨T', z.length, [z], 2⟩ :: cs, by simp [h1], fun k o' c hk' hc => ?_, h3⟩
          cases k with
          | zero =>
            simp at hk' hc
            subst hk'; subst hc
            exact ⟨T', r, z, ho, hr, hz, h0, rfl⟩
          | succ k => exact h2 k o' c (by simpa using hk') (by simpa using hc)
        | nils e sz kd ho => rcases ho with ho | ho <;> rw [hop] at ho <;> cases ho
        | box ho => rw [hop] at ho; cases ho
        | store kd ho => rw [hop] at ho; cases ho
        | appN ho => rw [hop] at ho; cases ho
        | app kd ho => rw [hop] at ho; cases ho
        | make ho => rw [hop] at ho; cases ho
        | slit kd ho => rw [hop] at ho; cases ho
        | makeMap ho => rw [hop] at ho; cases ho
        | mapOld ho => rw [hop] at ho; cases ho
        | mapNew ho => rw [hop] at ho; cases ho
        | entStore kd ho => rw [hop] at ho; cases ho
        | range ho => rw [hop] at ho; cases ho
        | mapSet kd ho => rw [hop] at ho; cases ho
        | mapSetG kd ho => rw [hop] at ho; cases ho
      · exfalso
        cases hdem with
        | next ho => rw [hop] at ho; cases ho
structure Agr2 (ds : List Nat) (vs : List PV) (cs : List Cont) (n m : Nat) (listed : Array Bool) (s0 s : St) : Prop where
  hit : ∀ t j, j < n + m → listed.getD j true = true → ds[j]? = some t → vs[j]? = some (s.reg t)
  miss : ∀ t, (∀ j, j < n + m → listed.getD j true = true → ds[j]? ≠ some t) → s.reg t = s0.reg t
  own1 : ∀ k, (∀ j, n ≤ j → j < n + m → listed.getD j true = true → ds[j]? ≠ some k) → s.own k = s0.own k
  own2 : ∀ j k, n ≤ j → j < n + m → listed.getD j true = true → ds[j]? = some k → s.own k = ((s0.own k).1 + 1, cs[j - n]?)
theorem draw_two (hG : Good P L C) {n m : Nat} {ds F : List Nat} (hd : Draw2Ok ops n m ds F) {K' : St → Prop} {Q : Exit → Act → World → Prop} (hK : ∀ s' a' w', SimE C s' a' w' → K' s' → Q .normal a' w')
    (hN : ∀ o ∈ ops.toList, dstLt C.N o.dst = true) {s0 full : St} {vs : List PV} {cs : List Cont}
    (hdi : ∀ i o, i < n + m → ops[i]? = some o → ∃ d, ds[i]? = some d ∧ o.dst = some d) (hinj : ∀ (i j t : Nat), ds[i]? = some t → ds[j]? = some t → i = j)
    (hnone : ∀ j k, n ≤ j → j < n + m → ds[j]? = some k → (s0.own k).2 = none)
    (hy : ∀ i o, i < n → ops[i]? = some o → ∃ v sf, vs[i]? = some v ∧ Yld P L ops sf o v ∧ sf.own = s0.own ∧ (∀ t j, j < i → ds[j]? = some t → vs[j]? = some (sf.reg t)) ∧ ∀ t, (∀ j, j < i → ds[j]? ≠ some t) → sf.reg t = s0.reg t)
    (ha : ∀ i o, n ≤ i → i < n + m → ops[i]? = some o → ∃ c d, cs[i - n]? = some c ∧ AllocOk L o c ∧ o.guard = none ∧ ds[i]? = some d ∧ vs[i]? = some (.ptr d ((s0.own d).1 + 1) 0 0))
    (hf1 : ∀ t j, j < n + m → ds[j]? = some t → vs[j]? = some (full.reg t)) (hf2 : ∀ t, (∀ j, j < n + m → ds[j]? ≠ some t) → full.reg t = s0.reg t)
    (hf3 : ∀ k, (∀ j, n ≤ j → j < n + m → ds[j]? ≠ some k) → full.own k = s0.own k) (hf4 : ∀ j k, n ≤ j → j < n + m → ds[j]? = some k → full.own k = ((s0.own k).1 + 1, cs[j - n]?))
    (hend : POps P L ops K' (ops.toList.drop (n + m)) full) (hfda : ∀ i ∈ F, ∀ o, ops[i]? = some o → dataAt full o.op = true ∨ ∀ t ot, n + m ≤ t → ops[t]? = some ot → WF2 ops t i = true ∨ MV ops n m full ot) :
    ∀ (f : Nat) (U : List Nat) (listed : Array Bool) (s : St) (a : Act) (w : World), U.length = f → U.Nodup → (∀ i, i ∈ U ↔ i < ops.size ∧ listed.getD i true = false) → listed.size = ops.size →
      (∀ t, n + m ≤ t → t < ops.size → listed.getD t true = false) → (∀ i o, ops[i]? = some o → listed.getD i true = true → ∀ e ∈ o.after, Region.binds .any e = true → listed.getD e.on true = true) →
      Agr2 ds vs cs n m listed s0 s → SimE C s a w → wpAny P .any ops Q f listed a w := by
  have hole : OwnLe s0 full := by
    intro k
    by_cases hx : ∃ j, n ≤ j ∧ j < n + m ∧ ds[j]? = some k
    · obtain ⟨j, g1, g2, g3⟩ := hx
      exact .inr (hnone j k g1 g2 g3)
    · exact .inl (hf3 k fun j g1 g2 g3 => hx ⟨j, g1, g2, g3⟩)
  have late : ∀ (f : Nat) (U : List Nat) (listed : Array Bool) (s : St) (a : Act) (w : World), U.length = f → U.Nodup → (∀ i, i ∈ U ↔ i < ops.size ∧ listed.getD i true = false) → listed.size = ops.size →
      (∀ t, n + m ≤ t → t < ops.size → listed.getD t true = false) → Agr2 ds vs cs n m listed s0 s → SimE C s a w → (∀ i, i < n + m → i ∉ F → listed.getD i true = true) →
      (∀ i o, ops[i]? = some o → listed.getD i true = true → ∀ e ∈ o.after, Region.binds .any e = true → listed.getD e.on true = true) → wpAny P .any ops Q f listed a w := by
    intro f U listed s a w hU hnd hmem hsz htail agr h hall hcl
    refine draw_late hG hd hK hN (full := full) (s0 := s0) (vs := vs) hdi hole (fun i hi o ho => ?_) f U listed 0 full s a w hU hnd hmem hsz hall (fun t h1 h2 => ?_) hend (fun t _ => rfl) ?_ (fun t hnot => ?_) (fun _ => rfl) hcl h
    · have hin := (hd.late i hi).1
      obtain ⟨v, sf, h1, h2, h3, h4, h5⟩ := hy i o hin ho
      refine ⟨v, sf, h1, h2, fun t ht => ?_, fun d hdd => ?_, h3, hfda i hi o ho⟩
      · by_cases hx : ∃ j, j < n + m ∧ ds[j]? = some t
        · obtain ⟨j, hj, hjt⟩ := hx
          obtain ⟨hji, _⟩ := hd.looks i o (by omega) ho t ht j hj hjt
          have e1 := h4 t j hji hjt
          have e2 := hf1 t j hj hjt
          rw [e1] at e2
          exact Option.some.inj e2
        · rw [h5 t fun j hj hjt => hx ⟨j, by omega, hjt⟩, hf2 t fun j hj hjt => hx ⟨j, hj, hjt⟩]
      · have e2 := hf1 d i (by omega) hdd
        rw [h1] at e2
        exact (Option.some.inj e2).symm
    · rw [htail t h1 h2]; simp; omega
    · funext k
      by_cases hx : ∃ j, n ≤ j ∧ j < n + m ∧ ds[j]? = some k
      · obtain ⟨j, h1, h2, h3⟩ := hx
        rw [agr.own2 j k h1 h2 (hall j h2 fun hF => by have := (hd.late j hF).1; omega) h3, hf4 j k h1 h2 h3]
      · rw [agr.own1 k fun j h1 h2 _ h3 => hx ⟨j, h1, h2, h3⟩, hf3 k fun j h1 h2 h3 => hx ⟨j, h1, h2, h3⟩]
    · by_cases hx : ∃ j, j < n + m ∧ ds[j]? = some t
      · obtain ⟨j, h1, h2⟩ := hx
        have hl : listed.getD j true = true := by
          by_cases hF : j ∈ F
          · cases hl : listed.getD j true with
            | true => rfl
            | false => exact absurd h2 (hnot j hF hl)
          · exact hall j h1 hF
        have e1 := agr.hit t j h1 hl h2
        have e2 := hf1 t j h1 h2
        rw [e1] at e2
        exact Option.some.inj e2
      · rw [agr.miss t fun j h1 _ h2 => hx ⟨j, h1, h2⟩, hf2 t fun j h1 h2 => hx ⟨j, h1, h2⟩]
  intro f
  induction f with
  | zero =>
    intro U listed s a w hU hnd hmem hsz htail hclosed agr h
    refine late 0 U listed s a w hU hnd hmem hsz htail agr h (fun i hi _ => ?_) hclosed
    have hU0 : U = [] := List.eq_nil_of_length_eq_zero hU
    subst hU0
    cases hb : listed.getD i true with
    | true => rfl
    | false => have := (hmem i).2 ⟨by have := hd.le; omega, hb⟩; cases this
  | succ f ih =>
    intro U listed s a w hU hnd hmem hsz htail hclosed agr h
    by_cases hall : ∀ i, i < n + m → i ∉ F → listed.getD i true = true
    · exact late (f + 1) U listed s a w hU hnd hmem hsz htail agr h hall hclosed
    have hex : ∃ i0, i0 < n + m ∧ i0 ∉ F ∧ listed.getD i0 true = false := by
      refine Classical.byContradiction fun hx => hall fun i hi hF => ?_
      cases hb : listed.getD i true with
      | true => rfl
      | false => exact absurd ⟨i, hi, hF, hb⟩ hx
    refine ⟨fun hnil => absurd hnil (least_ready hsz hd.lex hmem (by intro e; rw [e] at hU; simp at hU)), fun i hi => ?_⟩
    obtain ⟨hun, o, ho, hallE⟩ := mem_ready.1 hi
    have hisz : i < ops.size := (Array.getElem?_eq_some_iff.1 ho).1
    have hwait : ∀ j, Region.waitsFor .any ops i j = true → listed.getD j true = true := by
      intro j hj
      obtain ⟨oj, hoj, e, he, hb, hon⟩ := Region.waitsFor_spec hj
      rw [ho] at hoj
      have hoj := Option.some.inj hoj
      subst hoj
      have h1 := hallE e he hb
      have h2 := hd.lex i o ho e he hb
      rw [hon] at h1 h2
      rw [getD_tf (by omega)]; exact h1
    have hin : i < n + m := by
      rcases Nat.lt_or_ge i (n + m) with h1 | h1
      · exact h1
      · exfalso
        by_cases hit : i = n + m
        ·
          obtain ⟨i0, h2, h3, h4⟩ := hex
          have climb : ∀ (g j : Nat), n + m - j = g → j < n + m → j ∉ F → listed.getD j true = false → False := by
            intro g
            induction g using Nat.strongRecOn with
            | _ g ihg =>
              intro j hg hj hF hl
              obtain ⟨j', h5, h6, h7, h8⟩ := hd.sink (by omega) j hj hF
              by_cases hj' : j' = n + m
              · have := hwait j (by rw [hit, ← hj']; exact h8)
                rw [this] at hl; cases hl
              · have hF' : j' ∉ F := h7.resolve_left hj'
                cases hb : listed.getD j' true with
                | false => exact ihg (n + m - j') (by omega) j' rfl (by omega) hF' hb
                | true =>
                  obtain ⟨oj, hoj, e, he, hbd, hon⟩ := Region.waitsFor_spec h8
                  have := hclosed j' oj hoj hb e he hbd
                  rw [hon] at this
                  rw [this] at hl; cases hl
          exact climb _ i0 rfl h2 h3 h4
        · have h2 := hwait (i - 1) (hd.chain i (by omega) hisz)
          rw [htail (i - 1) (by omega) (by omega)] at h2
          cases h2
    obtain ⟨d, hdd, hod⟩ := hdi i o hin ho
    have hUi : i ∈ U := (hmem i).2 ⟨hisz, hun⟩
    have hil : i < listed.size := by omega
    have hset : ∀ k, (listed.setIfInBounds i true).getD k true = (if k = i then true else listed.getD k true) := fun k => by
      by_cases hki : k = i
      · subst hki; simp [hil]
      · rw [getD_set_ne true (Ne.symm hki), if_neg hki]
    have hNo : dstLt C.N o.dst = true := hN o (by have := Array.mem_of_getElem? ho; simpa using this)
    have hgo : ∀ s' a' w', Agr2 ds vs cs n m (listed.setIfInBounds i true) s0 s' → SimE C s' a' w' → wpAny P .any ops Q f (listed.setIfInBounds i true) a' w' := by
      intro s' a' w' agr' h'
      refine ih (U.erase i) _ s' a' w' (by rw [List.length_erase_of_mem hUi]; omega) (hnd.erase i) (fun k => ?_) (by simp [hsz]) (fun t h1 h2 => ?_) (fun k ok hok hl e he hb => ?_) agr' h'
      · rw [hnd.mem_erase_iff, hmem k, hset]
        by_cases hki : k = i
        · subst hki; simp
        · simp [hki]
      · rw [hset, if_neg (by omega)]; exact htail t h1 h2
      · rw [hset] at hl ⊢
        split
        · rfl
        · by_cases hki : k = i
          · subst hki
            rw [ho] at hok
            have hok := Option.some.inj hok
            subst hok
            have h1 := hallE e he hb
            have h2 := hd.lex k o ho e he hb
            rw [getD_tf (by omega)]; exact h1
          · rw [if_neg hki] at hl
            exact hclosed k ok hok hl e he hb
    have hagr : ∀ v s', vs[i]? = some v → (∀ t, s'.reg t = if t = d then v else s.reg t) → (i < n → s'.own = s.own) → (n ≤ i → (∀ k, k ≠ d → s'.own k = s.own k) ∧ s'.own d = ((s0.own d).1 + 1, cs[i - n]?)) → Agr2 ds vs cs n m (listed.setIfInBounds i true) s0 s' := by
      intro v s' hv hreg ho1 ho2
      have hself : (listed.setIfInBounds i true).getD i true = true := by rw [hset, if_pos rfl]
      refine ⟨fun t j hj hl hjt => ?_, fun t hm => ?_, fun k hm => ?_, fun j k h1 h2 hl hjk => ?_⟩
      · rw [hreg]
        by_cases htd : t = d
        · subst htd
          rw [if_pos rfl, hinj j i t hjt hdd]; exact hv
        · rw [if_neg htd]
          have hji : j ≠ i := by
            intro e; subst e
            rw [hdd] at hjt
            exact htd (Option.some.inj hjt).symm
          rw [hset, if_neg hji] at hl
          exact agr.hit t j hj hl hjt
      · have htd : t ≠ d := by
          intro e; subst e
          exact hm i hin hself hdd
        rw [hreg, if_neg htd]
        refine agr.miss t fun j hj hl hjt => hm j hj ?_ hjt
        rw [hset]; split
        · rfl
        · exact hl
      · have hs' : s'.own k = s.own k := by
          rcases Nat.lt_or_ge i n with h1 | h1
          · rw [ho1 h1]
          · refine (ho2 h1).1 k fun e => ?_
            subst e
            exact hm i h1 hin hself hdd
        rw [hs']
        refine agr.own1 k fun j h1 h2 hl hjk => hm j h1 h2 ?_ hjk
        rw [hset]; split
        · rfl
        · exact hl
      · by_cases hji : j = i
        · subst hji
          rw [hdd] at hjk
          have hjk := Option.some.inj hjk
          subst hjk
          exact (ho2 h1).2
        · rw [hset, if_neg hji] at hl
          have hkd : k ≠ d := by
            intro e; subst e
            exact hji (hinj j i k hjk hdd)
          have hs' : s'.own k = s.own k := by
            rcases Nat.lt_or_ge i n with h1 | h1
            · rw [ho1 h1]
            · exact (ho2 h1).1 k hkd
          rw [hs']
          exact agr.own2 j k h1 h2 hl hjk
    have hputr : ∀ v t, (s.put o.dst v).reg t = if t = d then v else s.reg t := by
      intro v t
      rw [hod]
      show (bif Nat.beq t d then v else s.reg t) = _
      by_cases htd : t = d
      · subst htd; simp
      · rw [nbeq_ne htd, if_neg htd]; rfl
    unfold wpOp
    rw [ho]
    simp only
    rcases Nat.lt_or_ge i n with hq | hq
    · obtain ⟨v, sf, h1, h2, h3, h4, h5⟩ := hy i o hq ho
      have hsame : ∀ t ∈ o.looksAt ops, sf.reg t = s.reg t := by
        intro t ht
        by_cases hx : ∃ j, j < n + m ∧ ds[j]? = some t
        · obtain ⟨j, hj, hjt⟩ := hx
          obtain ⟨hji, e, he, hb, hon⟩ := hd.looks i o hin ho t ht j hj hjt
          have hl : listed.getD j true = true := by
            have := hallE e he hb
            rw [hon] at this
            rw [getD_tf (by omega)]; exact this
          have e1 := agr.hit t j hj hl hjt
          have e2 := h4 t j hji hjt
          rw [e1] at e2
          exact (Option.some.inj e2).symm
        · rw [h5 t fun j hj hjt => hx ⟨j, by omega, hjt⟩, agr.miss t fun j hj _ hjt => hx ⟨j, hj, hjt⟩]
      have hown : OwnLe ⟨s.reg, s0.own⟩ s := by
        intro k
        by_cases hx : ∃ j, n ≤ j ∧ j < n + m ∧ ds[j]? = some k
        · obtain ⟨j, g1, g2, g3⟩ := hx
          exact .inr (hnone j k g1 g2 g3)
        · exact .inl (agr.own1 k fun j g1 g2 _ g3 => hx ⟨j, g1, g2, g3⟩)
      have hnext : ∀ a' w', SimE C (s.put o.dst v) a' w' → wpAny P .any ops Q f (listed.setIfInBounds i true) a' w' := fun a' w' h' =>
        hgo _ a' w' (hagr v _ h1 (hputr v) (fun _ => by rw [hod]; rfl) (fun g => by omega)) h'
      rcases h2 with ⟨g1, g2⟩ | ⟨g1, g2⟩
      · have g1' := g1.congr hsame
        rw [if_pos (g1'.spec h)]
        have g3 : QOp P L ⟨s.reg, s0.own⟩ o v := QOp.congr (s' := ⟨s.reg, s0.own⟩) h3 (ops_ev (s' := ⟨s.reg, s0.own⟩) hsame) g2
        exact .inl ((g3.le hown rfl).wp hG h hNo hnext)
      · have g1' := g1.congr hsame
        rw [if_neg (by rw [g1'.spec h]; simp)]
        refine hnext _ _ ?_
        rw [g2]
        exact h.put hNo undef
    · obtain ⟨c, d', h1, ⟨T, r, z, h2, h3, h4, h5, h6⟩, h7, h8, h9⟩ := ha i o hq hin ho
      rw [hdd] at h8
      have h8 := Option.some.inj h8
      subst h8
      have hown : s.own d = s0.own d := agr.own1 d fun j g1 g2 gl g3 => by
        have := hinj j i d g3 hdd
        subst this
        rw [hun] at gl; cases gl
      have hw : Wants ops s o true := .none h7
      rw [if_pos (hw.spec h)]
      have he : Eff P L s o ((s.fin d ⟨T, z.length, [z], 2⟩).putR d (.ptr d ((s.own d).1 + 1) 0 0)) := .alloc h2 hod h3 h4 h5
      refine .inl (he.sound hG.lay h hNo fun a' w' h' => hgo _ a' w' (hagr _ _ h9 (fun t => ?_) (fun g => by omega) fun _ => ⟨fun k hk => ?_, ?_⟩) h')
      · show (bif Nat.beq t d then _ else s.reg t) = _
        by_cases htd : t = d
        · subst htd; simp [hown]
        · rw [nbeq_ne htd, if_neg htd]; rfl
      · show (s.fin d _).own k = _
        rw [St.fin, setOwn_ne hk]
      · show (s.fin d _).own d = _
        rw [St.fin, setOwn_same, hown, h1, h6]
def FD (ops : Array Oper) (nm : Nat) (F : List Nat) (s : St) : Bool := F.all fun i => match ops[i]? with
  | some o => dataAt s o.op || (List.range ops.size).all fun t => decide (t < nm) || WF2 ops t i || (match ops[t]? with
    | some ot => (match ot.op with | .assign x => !(s.ev x).isNil | .move x => !(s.ev x).isNil | _ => false) && (ot.looksAt ops).all fun x => (List.range ops.size).all fun q => decide (q < nm) || !((ops[q]?).bind (·.dst) == some x)
    | none => false)
  | none => false
def PDraw2 (P : Program) (L : Lay) (ops : Array Oper) (K : St → Prop) (s : St) : Prop :=
  ∃ n m ds F, drawOk2 ops n m ds F = true ∧ (∀ d ∈ ds.drop n, (s.own d).2 = none) ∧ PQuiet P L ops (fun s' => FD ops (n + m) F s' = true ∧ POps P L ops K (ops.toList.drop n) s') (ops.toList.take n) s
theorem PDraw2.sound (hG : Good P L C) {K' : St → Prop} {Q : Exit → Act → World → Prop} (hK : ∀ s' a' w', SimE C s' a' w' → K' s' → Q .normal a' w') (hN : ∀ o ∈ ops.toList, dstLt C.N o.dst = true) {s : St}
    (h : SimE C s a w) (hq : PDraw2 P L ops K' s) : wpAny P .any ops Q ops.size (Array.replicate ops.size false) a { w with drawn := w.drawn + 1 } := by
  obtain ⟨n, m, ds, F, hok, hnone, hq⟩ := hq
  have hd := drawOk2_spec hok
  have hle := hd.le
  have hdl : ds.length = n + m := by
    have := congrArg List.length hd.dst
    simp at this
    omega
  have hdi : ∀ i o, i < n + m → ops[i]? = some o → ∃ d, ds[i]? = some d ∧ o.dst = some d := by
    intro i o hi ho
    have h1 : i < ds.length := by omega
    refine ⟨ds[i], List.getElem?_eq_getElem h1, ?_⟩
    have h2 : ((ops.toList.take (n + m)).map (·.dst))[i]? = (ds.map some)[i]? := by rw [hd.dst]
    rw [List.getElem?_map, List.getElem?_map, List.getElem?_take, if_pos hi, List.getElem?_eq_getElem h1] at h2
    have h3 : ops.toList[i]? = some o := by simpa using ho
    rw [h3] at h2
    simpa using h2
  have hinj : ∀ (i j t : Nat), ds[i]? = some t → ds[j]? = some t → i = j := by
    intro i j t h1 h2
    have e1 := (List.getElem?_eq_some_iff.1 h1).2
    have e2 := (List.getElem?_eq_some_iff.1 h2).2
    exact (List.getElem_inj hd.nodup).1 (e1.trans e2.symm)
  have hdst1 : (ops.toList.take n).map (·.dst) = (ds.take n).map some := by
    have := congrArg (List.take n) hd.dst
    rwa [← List.map_take, ← List.map_take, List.take_take, Nat.min_eq_left (Nat.le_add_right n m)] at this
  have hdst2 : ((ops.toList.drop n).take m).map (·.dst) = (ds.drop n).map some := by
    have := congrArg (List.drop n) hd.dst
    rwa [← List.map_drop, ← List.map_drop, List.drop_take, Nat.add_sub_cancel_left] at this
  obtain ⟨vs1, h1, h2, hFD, h3⟩ := PQuiet.ylds _ (ds.take n) s hdst1 hq
  have hv1 : vs1.length = n := by rw [h1, List.length_take]; omega
  have hsplit : ops.toList.drop n = (ops.toList.drop n).take m ++ ops.toList.drop (n + m) := by
    rw [← List.drop_drop, List.take_append_drop]
  rw [hsplit] at h3
  have hget : ∀ q, q < m → ((ops.toList.drop n).take m)[q]? = ops[n + q]? := fun q hq => by
    rw [List.getElem?_take, if_pos hq, List.getElem?_drop]; simp
  obtain ⟨cs, g1, g2, g3⟩ := allocs_run ((ops.toList.drop n).take m) (ds.drop n) _ (fun o ho => by
    obtain ⟨q, hql, rfl⟩ := List.getElem_of_mem ho
    have hqm : q < m := by simp at hql; omega
    obtain ⟨o', T, e1, e2, e3⟩ := hd.allocs q hqm
    have := hget q hqm
    rw [List.getElem?_eq_getElem hql, e1] at this
    have := Option.some.inj this
    rw [this]; exact ⟨T, e2, e3⟩) hdst2 h3
  have hcl : cs.length = m := by rw [g1, List.length_drop]; omega
  have hnod1 : (ds.take n).Nodup := hd.nodup.sublist (List.take_sublist _ _)
  have hnod2 : (ds.drop n).Nodup := hd.nodup.sublist (List.drop_sublist _ _)
  have hz1 : ((ds.take n).zip vs1).map (·.1) = ds.take n := by rw [List.map_fst_zip (by omega)]
  have hz2 : ((ds.drop n).zip cs).map (·.1) = ds.drop n := by rw [List.map_fst_zip (by rw [g1]; exact Nat.le_refl _)]
  let q0 := puts ((ds.take n).zip vs1) s
  have hq0 : q0.own = s.own := puts_own _ _
  obtain ⟨a1, a2, a3⟩ := allocd_spec ((ds.drop n).zip cs) q0 (by rw [hz2]; exact hnod2)
  have hpt : (((ds.drop n).zip cs).map fun p => ((p.1, PV.ptr p.1 ((q0.own p.1).1 + 1) 0 0) : Nat × PV)) = (ds.drop n).map fun d => (d, PV.ptr d ((s.own d).1 + 1) 0 0) := by
    conv => rhs; rw [← hz2]
    rw [List.map_map]
    exact List.map_congr_left fun p _ => by simp [hq0]
  rw [hpt] at a1
  have hdd : ∀ j t, n ≤ j → ((ds.drop n)[j - n]? = some t ↔ ds[j]? = some t) := fun j t hj => by rw [List.getElem?_drop, Nat.add_sub_cancel' hj]
  have before : ∀ (i t : Nat), i ≤ n → (∀ j, j < i → ds[j]? = some t → vs1[j]? = some ((puts (((ds.take n).zip vs1).take i) s).reg t)) ∧ ((∀ j, j < i → ds[j]? ≠ some t) → (puts (((ds.take n).zip vs1).take i) s).reg t = s.reg t) := by
    intro i t hi
    refine ⟨fun j hj hjt => ?_, fun hm => puts_miss _ _ _ fun p hp e => ?_⟩
    · have hjv : j < vs1.length := by omega
      rw [List.getElem?_eq_getElem hjv]
      congr 1
      refine (puts_hit _ s j t vs1[j] ?_ ?_).symm
      · rw [List.getElem?_take, if_pos hj]
        refine zip_get h1 ?_ (List.getElem?_eq_getElem hjv)
        rw [List.getElem?_take, if_pos (by omega)]; exact hjt
      · rw [List.map_take, hz1]; exact hnod1.sublist (List.take_sublist _ _)
    · obtain ⟨j, hj, rfl⟩ := List.getElem_of_mem hp
      simp at hj
      refine hm j (by omega) ?_
      rw [← e]
      simp
  have hfull : ((ds.take n).zip vs1).take n = (ds.take n).zip vs1 := List.take_of_length_le (by simp; omega)
  have before' := fun t => before n t (Nat.le_refl n)
  rw [hfull] at before'
  have ptrs : ∀ j t, n ≤ j → ds[j]? = some t → (allocd ((ds.drop n).zip cs) q0).reg t = .ptr t ((s.own t).1 + 1) 0 0 := by
    intro j t hj hjt
    rw [a1]
    refine puts_hit _ q0 (j - n) t _ ?_ (by rw [List.map_map, show ((fun x : Nat × PV => x.1) ∘ fun d : Nat => (d, PV.ptr d ((s.own d).1 + 1) 0 0)) = _root_.id from rfl, List.map_id]; exact hnod2)
    rw [List.getElem?_map, (hdd j t hj).2 hjt]; rfl
  have olds : ∀ t, (∀ j, n ≤ j → ds[j]? ≠ some t) → (allocd ((ds.drop n).zip cs) q0).reg t = q0.reg t := by
    intro t hm
    rw [a1]
    refine puts_miss _ _ _ fun p hp e => ?_
    obtain ⟨d, hdm, rfl⟩ := List.mem_map.1 hp
    obtain ⟨j, hj, hje⟩ := List.getElem_of_mem hdm
    refine hm (n + j) (by omega) ?_
    have : (ds.drop n)[j]? = some d := by rw [List.getElem?_eq_getElem hj, hje]
    rw [List.getElem?_drop] at this
    rw [this, ← e]
  have hfda : ∀ i ∈ F, ∀ o, ops[i]? = some o → dataAt (allocd ((ds.drop n).zip cs) q0) o.op = true ∨ ∀ t ot, n + m ≤ t → ops[t]? = some ot → WF2 ops t i = true ∨ MV ops n m (allocd ((ds.drop n).zip cs) q0) ot := by
    intro i hi o ho
    have e1 := List.all_eq_true.1 hFD i hi
    rw [ho] at e1
    simp only [Bool.or_eq_true] at e1
    rcases e1 with e1 | e1
    case inr =>
      refine .inr fun t ot ht hot => ?_
      have htl : t < ops.size := (Array.getElem?_eq_some_iff.1 hot).1
      have e2 := List.all_eq_true.1 e1 t (List.mem_range.2 htl)
      rw [hot] at e2
      simp only [Bool.or_eq_true, decide_eq_true_eq, Bool.and_eq_true] at e2
      rcases e2 with (e2 | e2) | ⟨e2, e3⟩
      · omega
      · exact .inl e2
      · have hnw : ∀ x ∈ ot.looksAt ops, ∀ (q : Nat) (oq : Oper), n + m ≤ q → ops[q]? = some oq → oq.dst ≠ some x := by
          intro x hx q oq hq hoq he
          have hql : q < ops.size := (Array.getElem?_eq_some_iff.1 hoq).1
          have e4 := List.all_eq_true.1 (List.all_eq_true.1 e3 x hx) q (List.mem_range.2 hql)
          rw [hoq] at e4
          simp only [Option.bind_some, he, beq_self_eq_true, Bool.not_true, Bool.or_false, decide_eq_true_eq] at e4
          omega
        have hev : ∀ x ∈ ot.op.operands, PV.isNil (q0.ev x) = false → (allocd ((ds.drop n).zip cs) q0).ev x ≠ .nil := by
          intro x hx hn' he
          cases x with
          | tmp tx =>
            by_cases hal : ∃ j, n ≤ j ∧ ds[j]? = some tx
            · obtain ⟨j, hj, hjt⟩ := hal
              have hp : (allocd ((ds.drop n).zip cs) q0).reg tx = _ := ptrs j tx hj hjt
              rw [show (allocd ((ds.drop n).zip cs) q0).ev (.tmp tx) = (allocd ((ds.drop n).zip cs) q0).reg tx from rfl, hp] at he
              cases he
            · have ho' : (allocd ((ds.drop n).zip cs) q0).reg tx = q0.reg tx := olds tx fun j hj hjt => hal ⟨j, hj, hjt⟩
              rw [show (allocd ((ds.drop n).zip cs) q0).ev (.tmp tx) = (allocd ((ds.drop n).zip cs) q0).reg tx from rfl, ho'] at he
              rw [show q0.ev (.tmp tx) = q0.reg tx from rfl, he] at hn'
              cases hn'
          | const c =>
            have he : q0.ev (.const c) = .nil := he
            rw [he] at hn'; cases hn'
          | global g => cases he
          | func f => cases he
        refine .inr ⟨?_, hnw⟩
        split at e2
        · rename_i x hop
          exact ⟨x, .inl hop, hev x (by rw [hop]; simp [Op.operands]) (by simpa using e2)⟩
        · rename_i x hop
          exact ⟨x, .inr hop, hev x (by rw [hop]; simp [Op.operands]) (by simpa using e2)⟩
        · cases e2
    have hin := (hd.late i hi).1
    refine .inl (dataAt_congr (ops_ev (ops := ops) fun t ht => (olds t fun j hj hjt => ?_).symm) e1)
    have hjl : j < n + m := by have := (List.getElem?_eq_some_iff.1 hjt).1; omega
    have := (hd.looks i o (by omega) ho t ht j hjl hjt).1
    omega
  obtain ⟨γ, h⟩ := h
  have hrep : ∀ (j : Nat) (d : Bool), (Array.replicate ops.size false).getD j d = if j < ops.size then false else d := by
    intro j d
    by_cases hj : j < ops.size
    · simp [hj]
    · simp [hj]
  refine draw_two hG hd (Q := Q) hK hN (s0 := s) (full := allocd ((ds.drop n).zip cs) q0) (vs := vs1 ++ (ds.drop n).map fun d => .ptr d ((s.own d).1 + 1) 0 0) (cs := cs) hdi hinj
    (fun j k hj1 hj2 hjk => hnone k (List.mem_of_getElem? ((hdd j k hj1).2 hjk))) (fun i o hi ho => ?_) (fun i o hi1 hi2 ho => ?_) (fun t j hj hjt => ?_) (fun t hm => ?_) (fun k hm => ?_) (fun j k hj1 hj2 hjk => ?_) g3 hfda
    ops.size (List.range ops.size) (Array.replicate ops.size false) s a _ (by simp) List.nodup_range (fun i => by
      rw [List.mem_range, hrep]
      constructor
      · intro hi; exact ⟨hi, by rw [if_pos hi]⟩
      · exact fun x => x.1)
    (by simp) (fun t _ ht2 => by rw [hrep, if_pos ht2]) (fun i o ho hl => by rw [hrep, if_pos (Array.getElem?_eq_some_iff.1 ho).1] at hl; cases hl)
    ⟨fun t j hj hl => (by rw [hrep, if_pos (by omega)] at hl; cases hl), fun _ _ => rfl, fun _ _ => rfl, fun j k _ hj hl => (by rw [hrep, if_pos (by omega)] at hl; cases hl)⟩ ⟨γ, h.ext (below_drew w)⟩
  · have hiv : i < vs1.length := by omega
    have hti : (ops.toList.take n)[i]? = some o := by rw [List.getElem?_take, if_pos hi]; simpa using ho
    refine ⟨vs1[i], _, ?_, h2 i o vs1[i] hti (List.getElem?_eq_getElem hiv), puts_own _ _, fun t j hj hjt => ?_, fun t hm => (before i t (by omega)).2 hm⟩
    · rw [List.getElem?_append_left hiv]; exact List.getElem?_eq_getElem hiv
    · rw [List.getElem?_append_left (by omega)]
      exact (before i t (by omega)).1 j hj hjt
  · obtain ⟨d, hdd', hod⟩ := hdi i o hi2 ho
    have hic : i - n < cs.length := by omega
    obtain ⟨o', T, e1, e2, e3⟩ := hd.allocs (i - n) (by omega)
    have hin : n + (i - n) = i := by omega
    rw [hin, ho] at e1
    have e1 := Option.some.inj e1
    subst e1
    refine ⟨cs[i - n], d, List.getElem?_eq_getElem hic, g2 (i - n) o _ (by rw [hget (i - n) (by omega), hin]; exact ho) (List.getElem?_eq_getElem hic), e3, hdd', ?_⟩
    rw [List.getElem?_append_right (by omega), hv1, List.getElem?_map, (hdd i d hi1).2 hdd']; rfl
  · rcases Nat.lt_or_ge j n with hjn | hjn
    · rw [List.getElem?_append_left (by omega), olds t fun j' hj' hjt' => by have := hinj j j' t hjt hjt'; omega]
      exact (before' t).1 j hjn hjt
    · rw [List.getElem?_append_right (by omega), hv1, List.getElem?_map, (hdd j t hjn).2 hjt, ptrs j t hjn hjt]; rfl
  · rw [olds t fun j hj hjt => hm j (by have := (List.getElem?_eq_some_iff.1 hjt).1; omega) hjt]
    exact (before' t).2 fun j hj => hm j (by omega)
  · rw [a3 k fun hk => ?_, hq0]
    rw [hz2] at hk
    obtain ⟨j, hj, hje⟩ := List.getElem_of_mem hk
    have : (ds.drop n)[j]? = some k := by rw [List.getElem?_eq_getElem hj, hje]
    rw [List.getElem?_drop] at this
    exact hm (n + j) (by omega) (by simp at hj; omega) this
  · have hic : j - n < cs.length := by omega
    rw [a2 k cs[j - n] ?_, hq0, List.getElem?_eq_getElem hic]
    refine List.mem_of_getElem? (i := j - n) ?_
    rw [List.getElem?_zip_eq_some]
    exact ⟨(hdd j k hj1).2 hjk, List.getElem?_eq_getElem hic⟩
end
end Go.Pv


namespace Go.Pv
open Go.RowKit
variable [Globs]
def zin : List Nat → Nat → Bool
  | [], _ => false
  | z :: Z, k => bif Nat.beq k z then true else zin Z k
def St.erase (Z : List Nat) (s : St) : St := { s with own := fun k => bif zin Z k then ((s.own k).1, none) else s.own k }
section
variable {P : Program} {L : Lay} {C : Ctx} {a : Act} {w w' : World} {ops : Array Oper}
inductive Step3 (P : Program) (L : Lay) (ops : Array Oper) (Z : List Nat) : Bool → St → Oper → St → Prop
  | no {c : Bool} {s : St} {o : Oper} (h : Wants ops s o false) : Step3 P L ops Z c s o (s.put o.dst (.raw undef))
  | free {s : St} {o : Oper} {v : PV} (h : Wants ops s o true) (hq : QOp P L (s.erase Z) o v) : Step3 P L ops Z false s o (s.put o.dst v)
  | quiet {s : St} {o : Oper} {v : PV} (h : Wants ops s o true) (hq : QOp P L s o v) : Step3 P L ops Z true s o (s.put o.dst v)
  | eff {s s' : St} {o : Oper} (h : Wants ops s o true) (he : Eff P L s o s') (hz : ∀ k, zin Z k = false → s'.own k = s.own k) : Step3 P L ops Z true s o s'
def P3 (P : Program) (L : Lay) (ops : Array Oper) (Z : List Nat) (cls : Nat → Bool) (K : St → Prop) : Nat → List Oper → St → Prop
  | _, [], s => K s
  | i, o :: rest, s => ∃ s', Step3 P L ops Z (cls i) s o s' ∧ P3 P L ops Z cls K (i + 1) rest s'
theorem P3.run {Z : List Nat} {cls : Nat → Bool} {K : St → Prop} : ∀ (l : List Oper) (i : Nat) (s : St), P3 P L ops Z cls K i l s → ∃ S : Nat → St, S 0 = s ∧ (∀ (j : Nat) (o : Oper), l[j]? = some o → Step3 P L ops Z (cls (i + j)) (S j) o (S (j + 1))) ∧ K (S l.length)
  | [], i, s, h => ⟨fun _ => s, rfl, fun j o hj => by simp at hj, h⟩
  | o :: l, i, s, ⟨s', h1, h2⟩ => by
    obtain ⟨S, g1, g2, g3⟩ := P3.run l (i + 1) s' h2
    refine ⟨fun n => match n with | 0 => s | n + 1 => S n, rfl, fun j o' hj => ?_, g3⟩
    cases j with
    | zero => simp at hj; subst hj; show Step3 _ _ _ _ _ s o (S 0); rw [g1]; exact h1
    | succ j =>
      have := g2 j o' (by simpa using hj)
      rw [show i + 1 + j = i + (j + 1) by omega] at this
      exact this
def maskOf (acc : List Nat) (o : Oper) : Nat := o.after.toList.foldl (fun m e => bif Region.binds .any e then m ||| 2 ^ e.on ||| acc.getD e.on 0 else m) 0
def masksGo : List Oper → List Nat → List Nat
  | [], acc => acc
  | o :: l, acc => masksGo l (acc ++ [maskOf acc o])
def masks (ops : Array Oper) : List Nat := masksGo ops.toList []
theorem maskOf_spec {acc : List Nat} {j : Nat} : ∀ (l : List Edge) (m : Nat), (l.foldl (fun m e => bif Region.binds .any e then m ||| 2 ^ e.on ||| acc.getD e.on 0 else m) m).testBit j = true →
    m.testBit j = true ∨ ∃ e ∈ l, Region.binds .any e = true ∧ (e.on = j ∨ (acc.getD e.on 0).testBit j = true)
  | [], m, h => .inl h
  | e :: l, m, h => by
    rw [List.foldl_cons] at h
    rcases maskOf_spec l _ h with h1 | ⟨e', he', h2⟩
    · cases hb : Region.binds .any e with
      | false => rw [hb] at h1; exact .inl h1
      | true =>
        rw [hb, cond_true, Nat.testBit_or, Nat.testBit_or, Nat.testBit_two_pow] at h1
        simp only [Bool.or_eq_true, decide_eq_true_eq] at h1
        rcases h1 with (h1 | h1) | h1
        · exact .inl h1
        · exact .inr ⟨e, by simp, hb, .inl h1⟩
        · exact .inr ⟨e, by simp, hb, .inr h1⟩
    · exact .inr ⟨e', by simp [he'], h2⟩
def MaskOk (all : List Oper) (acc : List Nat) : Prop := ∀ i j : Nat, (acc.getD i 0).testBit j = true → ∃ o, all[i]? = some o ∧ ∃ e ∈ o.after, Region.binds .any e = true ∧ (e.on = j ∨ (acc.getD e.on 0).testBit j = true)
theorem masksGo_ok (all : List Oper) : ∀ (l : List Oper) (acc : List Nat), all = all.take acc.length ++ l → acc.length ≤ all.length → MaskOk all acc → MaskOk all (masksGo l acc)
  | [], _, _, _, h => h
  | o :: l, acc, ha, hle, h => by
    have hlt : acc.length < all.length := by
      have := congrArg List.length ha
      rw [List.length_append, List.length_take, List.length_cons] at this
      omega
    have ho : all[acc.length]? = some o := by
      have : (all.take acc.length).length = acc.length := by rw [List.length_take]; omega
      rw [ha, List.getElem?_append_right (by omega), this]
      simp
    refine masksGo_ok all l _ ?_ (by simp; omega) fun i j hij => ?_
    · rw [List.length_append, List.length_singleton, take_snoc' ho, List.append_assoc]
      exact ha
    · have low : ∀ q, (acc.getD q 0).testBit j = true → ((acc ++ [maskOf acc o]).getD q 0).testBit j = true := by
        intro q hq
        rcases Nat.lt_or_ge q acc.length with h1 | h1
        · rw [List.getD_eq_getElem?_getD, List.getElem?_append_left h1, ← List.getD_eq_getElem?_getD]; exact hq
        · rw [List.getD_eq_getElem?_getD, List.getElem?_eq_none h1] at hq
          simp at hq
      rcases Nat.lt_trichotomy i acc.length with h1 | h1 | h1
      · rw [List.getD_eq_getElem?_getD, List.getElem?_append_left h1, ← List.getD_eq_getElem?_getD] at hij
        obtain ⟨o', e1, e, e2, e3, e4⟩ := h i j hij
        exact ⟨o', e1, e, e2, e3, e4.imp _root_.id (low _)⟩
      · subst h1
        rw [List.getD_eq_getElem?_getD, List.getElem?_append_right (Nat.le_refl _), Nat.sub_self] at hij
        rcases maskOf_spec _ 0 (show (maskOf acc o).testBit j = true from hij) with h2 | ⟨e, e2, e3, e4⟩
        · simp at h2
        · exact ⟨o, ho, e, by simpa using e2, e3, e4.imp _root_.id (low _)⟩
      · rw [List.getD_eq_getElem?_getD, List.getElem?_eq_none (by simp; omega)] at hij
        simp at hij
where
  take_snoc' {α : Type} {l : List α} {k : Nat} {x : α} (hx : l[k]? = some x) : l.take (k + 1) = l.take k ++ [x] := by
    rw [List.take_add_one, hx]; rfl
theorem masks_ok (ops : Array Oper) : MaskOk ops.toList (masks ops) :=
  masksGo_ok ops.toList ops.toList [] (by simp) (by simp) fun i j h => by simp at h
def drawOk3 (ops : Array Oper) (ch : List Nat) : Bool :=
  decide (ops.toList.filterMap (·.dst)).Nodup && (List.range ops.size).all fun i => match ops[i]? with
    | some o => o.after.all (fun e => !Region.binds .any e || decide (e.on < i)) &&
      ((o.looksAt ops).all fun t => (List.range ops.size).all fun j => decide (j = i) || !((ops[j]?).bind (·.dst) == some t) || (bif decide (j < i) then ((masks ops).getD i 0).testBit j else ((masks ops).getD j 0).testBit i)) &&
      (!zin ch i || (List.range i).all fun j => !zin ch j || ((masks ops).getD i 0).testBit j)
    | none => false
structure Draw3Ok (ops : Array Oper) (ch : List Nat) : Prop where
  nodup : ∀ (i j : Nat) (o o' : Oper) (t : Nat), ops[i]? = some o → ops[j]? = some o' → o.dst = some t → o'.dst = some t → i = j
  lex : ∀ i o, ops[i]? = some o → ∀ e ∈ o.after, Region.binds .any e = true → e.on < i
  reads : ∀ i o, ops[i]? = some o → ∀ t ∈ o.looksAt ops, ∀ j o', ops[j]? = some o' → o'.dst = some t → j ≠ i → (j < i → ((masks ops).getD i 0).testBit j = true) ∧ (i < j → ((masks ops).getD j 0).testBit i = true)
  chain : ∀ i j, i < ops.size → zin ch i = true → zin ch j = true → j < i → ((masks ops).getD i 0).testBit j = true
theorem filterMap_nodup {α : Type} {f : α → Option Nat} : ∀ {l : List α}, (l.filterMap f).Nodup → ∀ (i j : Nat) (x y : α) (t : Nat), l[i]? = some x → l[j]? = some y → f x = some t → f y = some t → i = j
  | [], _, i, j, x, y, t, h1, _, _, _ => by simp at h1
  | b :: l, hn, i, j, x, y, t, h1, h2, h3, h4 => by
    have hl : (l.filterMap f).Nodup := by
      rw [List.filterMap_cons] at hn
      split at hn
      · exact hn
      · exact (List.nodup_cons.1 hn).2
    have one : ∀ (k : Nat) z, f b = some t → l[k]? = some z → f z = some t → False := by
      intro k z g1 g2 g3
      rw [List.filterMap_cons, g1] at hn
      exact (List.nodup_cons.1 hn).1 (List.mem_filterMap.2 ⟨z, List.mem_of_getElem? g2, g3⟩)
    cases i with
    | zero =>
      cases j with
      | zero => rfl
      | succ j => simp at h1 h2; subst h1; exact (one j y h3 h2 h4).elim
    | succ i =>
      cases j with
      | zero => simp at h1 h2; subst h2; exact (one i x h4 h1 h3).elim
      | succ j => rw [filterMap_nodup hl i j x y t (by simpa using h1) (by simpa using h2) h3 h4]
theorem drawOk3_spec {ch : List Nat} (h : drawOk3 ops ch = true) : Draw3Ok ops ch := by
  simp only [drawOk3, Bool.and_eq_true, decide_eq_true_eq] at h
  obtain ⟨h0, h⟩ := h
  have hget : ∀ {i : Nat} {o : Oper}, ops[i]? = some o → ops.toList[i]? = some o := fun {i} {o} h => by rw [Array.getElem?_toList]; exact h
  refine ⟨fun i j o o' t h1 h2 h3 h4 => filterMap_nodup h0 i j o o' t (hget h1) (hget h2) h3 h4, fun i o ho e he hb => ?_, fun i o ho t ht j o' ho' hd hne => ?_, fun i j hi hzi hzj hlt => ?_⟩
  · have hi := (Array.getElem?_eq_some_iff.1 ho).1
    have e1 := List.all_eq_true.1 h i (List.mem_range.2 hi)
    rw [ho] at e1
    simp only [Bool.and_eq_true] at e1
    have e2 := Array.all_eq_true_iff_forall_mem.1 e1.1.1 e he
    simpa [hb] using e2
  · have hi := (Array.getElem?_eq_some_iff.1 ho).1
    have hj := (Array.getElem?_eq_some_iff.1 ho').1
    have e1 := List.all_eq_true.1 h i (List.mem_range.2 hi)
    rw [ho] at e1
    simp only [Bool.and_eq_true] at e1
    have e2 := List.all_eq_true.1 (List.all_eq_true.1 e1.1.2 t ht) j (List.mem_range.2 hj)
    rw [ho'] at e2
    simp only [Option.bind_some, hd, beq_self_eq_true, Bool.not_true, Bool.or_false, Bool.or_eq_true, decide_eq_true_eq] at e2
    rcases e2 with e2 | e2
    · exact absurd e2 hne
    · refine ⟨fun hlt => ?_, fun hlt => ?_⟩
      · rw [decide_eq_true hlt] at e2; exact e2
      · rw [decide_eq_false (by omega)] at e2; exact e2
  · have e1 := List.all_eq_true.1 h i (List.mem_range.2 hi)
    rw [Array.getElem?_eq_getElem hi] at e1
    simp only [Bool.and_eq_true, hzi, Bool.not_true, Bool.false_or] at e1
    have e2 := List.all_eq_true.1 e1.2 j (List.mem_range.2 hlt)
    simpa [hzj] using e2
def Clo (ops : Array Oper) (listed : Array Bool) : Prop := ∀ i o, ops[i]? = some o → listed.getD i true = true → ∀ e ∈ o.after, Region.binds .any e = true → listed.getD e.on true = true
theorem mask_ready {ch : List Nat} (hd : Draw3Ok ops ch) {listed : Array Bool} (hc : Clo ops listed) : ∀ (f i : Nat) (o : Oper), i ≤ f → ops[i]? = some o → (∀ e ∈ o.after, Region.binds .any e = true → listed.getD e.on true = true) → ∀ j, ((masks ops).getD i 0).testBit j = true → listed.getD j true = true := by
  intro f
  induction f with
  | zero =>
    intro i o hi ho hall j hj
    obtain ⟨o', e1, e, e2, e3, e4⟩ := masks_ok ops i j hj
    have e1 : ops[i]? = some o' := by simpa using e1
    rw [ho] at e1
    cases e1
    have := hd.lex i o ho e e2 e3
    omega
  | succ f ih =>
    intro i o hi ho hall j hj
    obtain ⟨o', e1, e, e2, e3, e4⟩ := masks_ok ops i j hj
    have e1 : ops[i]? = some o' := by simpa using e1
    rw [ho] at e1
    cases e1
    have hlt := hd.lex i o ho e e2 e3
    have hl := hall e e2 e3
    rcases e4 with e4 | e4
    · rw [← e4]; exact hl
    · have hsz : e.on < ops.size := by have := (Array.getElem?_eq_some_iff.1 ho).1; omega
      exact ih e.on ops[e.on] (by omega) (Array.getElem?_eq_getElem hsz) (fun e' he' hb => hc e.on _ (Array.getElem?_eq_getElem hsz) hl e' he' hb) j e4
theorem put_miss {o : Oper} {s : St} {v : PV} {t : Nat} (h : o.dst ≠ some t) : (s.put o.dst v).reg t = s.reg t := by
  cases hd : o.dst with
  | none => rfl
  | some d =>
    show (bif Nat.beq t d then v else s.reg t) = _
    have : t ≠ d := fun e => h (by rw [hd, e])
    rw [nbeq_ne this]; rfl
theorem put_hit {o : Oper} {s : St} {v : PV} {t : Nat} (h : o.dst = some t) : (s.put o.dst v).reg t = v := by
  rw [h]
  show (bif Nat.beq t t then v else s.reg t) = _
  simp
variable {Z ch : List Nat} {S : Nat → St}
theorem Step3.reg {c : Bool} {s s' : St} {o : Oper} (h : Step3 P L ops Z c s o s') {t : Nat} (ht : o.dst ≠ some t) : s'.reg t = s.reg t := by
  cases h with
  | no h => exact put_miss ht
  | free h hq => exact put_miss ht
  | quiet h hq => exact put_miss ht
  | eff h he hz =>
    obtain ⟨_, _, _, _, h4⟩ := he.congr rfl fun _ _ => rfl
    exact (h4 t ht).2
theorem Step3.off {c : Bool} {s s' : St} {o : Oper} (h : Step3 P L ops Z c s o s') {k : Nat} (hk : zin Z k = false) : s'.own k = s.own k := by
  cases h with
  | no h => rw [put_own]
  | free h hq => rw [put_own]
  | quiet h hq => rw [put_own]
  | eff h he hz => exact hz k hk
theorem Step3.same {s s' : St} {o : Oper} (h : Step3 P L ops Z false s o s') : s'.own = s.own := by
  cases h with
  | no h => rw [put_own]
  | free h hq => rw [put_own]
abbrev Run3 (P : Program) (L : Lay) (ops : Array Oper) (Z ch : List Nat) (S : Nat → St) : Prop := ∀ (i : Nat) (o : Oper), ops[i]? = some o → Step3 P L ops Z (zin ch i) (S i) o (S (i + 1))
theorem run_off (hr : Run3 P L ops Z ch S) {k : Nat} (hk : zin Z k = false) : ∀ i, i ≤ ops.size → (S i).own k = (S 0).own k
  | 0, _ => rfl
  | i + 1, hi => by rw [(hr i _ (Array.getElem?_eq_getElem (by omega))).off hk, run_off hr hk i (by omega)]
theorem run_own (hr : Run3 P L ops Z ch S) {i : Nat} : ∀ d, i + d ≤ ops.size → (∀ q, i ≤ q → q < i + d → zin ch q = false) → (S (i + d)).own = (S i).own
  | 0, _, _ => rfl
  | d + 1, hd, h => by
    have h1 := hr (i + d) _ (Array.getElem?_eq_getElem (by omega))
    rw [h (i + d) (by omega) (by omega)] at h1
    rw [← Nat.add_assoc, h1.same, run_own hr d (by omega) fun q h1 h2 => h q h1 (by omega)]
theorem run_reg (hr : Run3 P L ops Z ch S) {t i : Nat} : ∀ d, i + d ≤ ops.size → (∀ q o, i ≤ q → q < i + d → ops[q]? = some o → o.dst ≠ some t) → (S (i + d)).reg t = (S i).reg t
  | 0, _, _ => rfl
  | d + 1, hd, h => by
    rw [← Nat.add_assoc, (hr (i + d) _ (Array.getElem?_eq_getElem (by omega))).reg (h (i + d) _ (by omega) (by omega) (Array.getElem?_eq_getElem (by omega))), run_reg hr d (by omega) fun q o h1 h2 => h q o h1 (by omega)]
structure Agr3 (ops : Array Oper) (Z ch : List Nat) (S : Nat → St) (listed : Array Bool) (s : St) : Prop where
  hit : ∀ i o t, ops[i]? = some o → listed.getD i true = true → o.dst = some t → s.reg t = (S (i + 1)).reg t
  miss : ∀ t, (∀ i o, ops[i]? = some o → listed.getD i true = true → o.dst ≠ some t) → s.reg t = (S 0).reg t
  off : ∀ k, zin Z k = false → s.own k = (S 0).own k
  on : ∃ q, q ≤ ops.size ∧ (∀ i, i < ops.size → zin ch i = true → (listed.getD i true = true ↔ i < q)) ∧ ∀ k, zin Z k = true → s.own k = (S q).own k
theorem agr_reads (hd : Draw3Ok ops ch) (hr : Run3 P L ops Z ch S) {listed : Array Bool} {s : St} (hag : Agr3 ops Z ch S listed s) (hc : Clo ops listed) {j : Nat} {o : Oper} (ho : ops[j]? = some o) (hun : listed.getD j true = false)
    (hall : ∀ e ∈ o.after, Region.binds .any e = true → listed.getD e.on true = true) {t : Nat} (ht : t ∈ o.looksAt ops) : (S j).reg t = s.reg t := by
  have hjl := (Array.getElem?_eq_some_iff.1 ho).1
  by_cases hx : ∃ (i : Nat) (o' : Oper), ops[i]? = some o' ∧ o'.dst = some t
  · obtain ⟨i, o', hi, hdi⟩ := hx
    have hil := (Array.getElem?_eq_some_iff.1 hi).1
    have hone : ∀ (q : Nat) (o : Oper), ops[q]? = some o → o.dst = some t → q = i := fun q o h1 h2 => hd.nodup q i o o' t h1 hi h2 hdi
    have hno : listed.getD i true = false → s.reg t = (S 0).reg t := fun hl => hag.miss t fun q oq h1 h2 h3 => by
      rw [hone q oq h1 h3, hl] at h2; cases h2
    rcases Nat.lt_trichotomy i j with hlt | he | hlt
    · have hm := (hd.reads j o ho t ht i o' hi hdi (by omega)).1 hlt
      have hl := mask_ready hd hc j j o (Nat.le_refl _) ho hall i hm
      rw [hag.hit i o' t hi hl hdi]
      have := run_reg hr (t := t) (i := i + 1) (j - (i + 1)) (by omega) fun q oq h1 h2 h3 h4 => by have := hone q oq h3 h4; omega
      rwa [show i + 1 + (j - (i + 1)) = j by omega] at this
    · subst he
      rw [hno hun]
      have := run_reg hr (t := t) (i := 0) i (by omega) fun q oq h1 h2 h3 h4 => by have := hone q oq h3 h4; omega
      rwa [Nat.zero_add] at this
    · have hm := (hd.reads j o ho t ht i o' hi hdi (by omega)).2 hlt
      have hl : listed.getD i true = false := by
        cases hb : listed.getD i true with
        | false => rfl
        | true =>
          have := mask_ready hd hc i i o' (Nat.le_refl _) hi (fun e he hbd => hc i o' hi hb e he hbd) j hm
          rw [hun] at this; cases this
      rw [hno hl]
      have := run_reg hr (t := t) (i := 0) j (by omega) fun q oq h1 h2 h3 h4 => by have := hone q oq h3 h4; omega
      rwa [Nat.zero_add] at this
  · rw [hag.miss t fun q oq h1 _ h3 => hx ⟨q, oq, h1, h3⟩]
    have := run_reg hr (t := t) (i := 0) j (by omega) fun q oq h1 h2 h3 h4 => hx ⟨q, oq, h3, h4⟩
    rwa [Nat.zero_add] at this
theorem agr_own (hd : Draw3Ok ops ch) (hr : Run3 P L ops Z ch S) {listed : Array Bool} {s : St} (hag : Agr3 ops Z ch S listed s) (hc : Clo ops listed) {j : Nat} {o : Oper} (ho : ops[j]? = some o) (hun : listed.getD j true = false)
    (hall : ∀ e ∈ o.after, Region.binds .any e = true → listed.getD e.on true = true) (hz : zin ch j = true) : (S j).own = s.own ∧ ∀ i, i < ops.size → zin ch i = true → i ≠ j → (listed.getD i true = true ↔ i < j) := by
  have hjl := (Array.getElem?_eq_some_iff.1 ho).1
  have hord : ∀ i, i < ops.size → zin ch i = true → i ≠ j → (listed.getD i true = true ↔ i < j) := by
    intro i hi hzi hne
    constructor
    · intro hl
      rcases Nat.lt_or_ge i j with h | h
      · exact h
      · have hm := hd.chain i j hi hzi hz (by omega)
        have := mask_ready hd hc i i _ (Nat.le_refl _) (Array.getElem?_eq_getElem hi) (fun e he hb => hc i _ (Array.getElem?_eq_getElem hi) hl e he hb) j hm
        rw [hun] at this; cases this
    · intro hlt
      exact mask_ready hd hc j j o (Nat.le_refl _) ho hall i (hd.chain j i hjl hz hzi hlt)
  refine ⟨?_, hord⟩
  funext k
  cases hk : zin Z k with
  | false => rw [run_off hr hk j (by omega), hag.off k hk]
  | true =>
    obtain ⟨q, hq, h1, h2⟩ := hag.on
    rw [h2 k hk]
    have hjq : ¬ j < q := fun h => by
      have := (h1 j hjl hz).2 h
      rw [hun] at this; cases this
    have := run_own hr (i := q) (j - q) (by omega) fun i g1 g2 => by
      cases hzi : zin ch i with
      | false => rfl
      | true =>
        have hlt : i < j := by omega
        have := (h1 i (by omega) hzi).1 ((hord i (by omega) hzi (by omega)).2 hlt)
        omega
    rw [show q + (j - q) = j by omega] at this
    rw [this]
theorem draw_three (hG : Good P L C) (hd : Draw3Ok ops ch) {K' : St → Prop} {Q : Exit → Act → World → Prop} (hK : ∀ s' a' w', SimE C s' a' w' → K' s' → Q .normal a' w')
    (hN : ∀ o ∈ ops.toList, dstLt C.N o.dst = true) (hr : Run3 P L ops Z ch S) (hend : K' (S ops.size)) :
    ∀ (f : Nat) (U : List Nat) (listed : Array Bool) (s : St) (a : Act) (w : World), U.length = f → U.Nodup → (∀ i, i ∈ U ↔ i < ops.size ∧ listed.getD i true = false) → listed.size = ops.size → Clo ops listed → Agr3 ops Z ch S listed s → SimE C s a w →
      wpAny P .any ops Q f listed a w := by
  intro f
  induction f with
  | zero =>
    intro U listed s a w hU _ hmem hsz hc hag h
    have hU0 : U = [] := List.eq_nil_of_length_eq_zero hU
    subst hU0
    have hall : ∀ i, i < ops.size → listed.getD i true = true := fun i hi => by
      cases hb : listed.getD i true with
      | true => rfl
      | false => have := (hmem i).2 ⟨hi, hb⟩; cases this
    refine ⟨all_listed hmem, hK _ _ _ h ?_⟩
    have : s = S ops.size := by
      refine St.ext' (funext fun t => ?_) (funext fun k => ?_)
      · by_cases hx : ∃ (i : Nat) (o' : Oper), ops[i]? = some o' ∧ o'.dst = some t
        · obtain ⟨i, o', hi, hdi⟩ := hx
          have hil := (Array.getElem?_eq_some_iff.1 hi).1
          rw [hag.hit i o' t hi (hall i hil) hdi]
          have := run_reg hr (t := t) (i := i + 1) (ops.size - (i + 1)) (by omega) fun q oq h1 h2 h3 h4 => by have := hd.nodup q i oq o' t h3 hi h4 hdi; omega
          rw [show i + 1 + (ops.size - (i + 1)) = ops.size by omega] at this
          exact this.symm
        · rw [hag.miss t fun q oq h1 _ h3 => hx ⟨q, oq, h1, h3⟩]
          have := run_reg hr (t := t) (i := 0) ops.size (by omega) fun q oq h1 h2 h3 h4 => hx ⟨q, oq, h3, h4⟩
          rw [Nat.zero_add] at this
          exact this.symm
      · cases hk : zin Z k with
        | false => rw [run_off hr hk _ (Nat.le_refl _), hag.off k hk]
        | true =>
          obtain ⟨q, hq, h1, h2⟩ := hag.on
          rw [h2 k hk]
          have := run_own hr (i := q) (ops.size - q) (by omega) fun i g1 g2 => by
            cases hzi : zin ch i with
            | false => rfl
            | true =>
              have := (h1 i (by omega) hzi).1 (hall i (by omega))
              omega
          rw [show q + (ops.size - q) = ops.size by omega] at this
          rw [this]
    rw [this]; exact hend
  | succ f ih =>
    intro U listed s a w hU hnd hmem hsz hc hag h
    refine ⟨fun hnil => absurd hnil (least_ready hsz hd.lex hmem (fun he => by rw [he] at hU; simp at hU)), fun j hj => ?_⟩
    obtain ⟨hun, o, ho, hall0⟩ := mem_ready.1 hj
    have hjl := (Array.getElem?_eq_some_iff.1 ho).1
    have hlex := hd.lex j o ho
    have hall : ∀ e ∈ o.after, Region.binds .any e = true → listed.getD e.on true = true := fun e he hb => by
      have h1 := hall0 e he hb
      rw [getD_tf (by rw [hsz]; have := hlex e he hb; omega)]; exact h1
    have hjs : j < listed.size := by rw [hsz]; exact hjl
    have hNo : dstLt C.N o.dst = true := hN o (by have := Array.mem_of_getElem? ho; simpa using this)
    have hreads : ∀ t ∈ o.looksAt ops, (S j).reg t = s.reg t := fun t ht => agr_reads hd hr hag hc ho hun hall ht
    have hnew : ∀ q, (listed.setIfInBounds j true).getD q true = true ↔ q = j ∨ listed.getD q true = true := fun q => by
      by_cases hq : q = j
      · subst hq; simp [hjs]
      · rw [getD_set_ne true (Ne.symm hq)]; simp [hq]
    have hnext : ∀ s' a' w', (∀ t, o.dst = some t → s'.reg t = (S (j + 1)).reg t) → (∀ t, o.dst ≠ some t → s'.reg t = s.reg t) → (∀ k, zin Z k = false → s'.own k = s.own k) →
        (zin ch j = false → s'.own = s.own) → (zin ch j = true → ∀ k, zin Z k = true → s'.own k = (S (j + 1)).own k) → SimE C s' a' w' → wpAny P .any ops Q f (listed.setIfInBounds j true) a' w' := by
      intro s' a' w' g1 g2 g3 g4 g5 h'
      have hUj : j ∈ U := (hmem j).2 ⟨hjl, hun⟩
      refine ih (U.erase j) _ s' a' w' (by rw [List.length_erase_of_mem hUj]; omega) (hnd.erase j) (fun k => ?_) (by simpa using hsz) ?_ ?_ h'
      · rw [hnd.mem_erase_iff, hmem k]
        by_cases hki : k = j
        · subst hki
          simp [hjs]
        · rw [getD_set_ne true (Ne.symm hki)]
          exact ⟨fun x => x.2, fun x => ⟨hki, x⟩⟩
      · intro i oi hi hl e he hb
        rw [hnew]
        rcases (hnew i).1 hl with rfl | hl'
        · rw [ho] at hi; cases hi; exact .inr (hall e he hb)
        · exact .inr (hc i oi hi hl' e he hb)
      · refine ⟨fun i oi t hi hl hdi => ?_, fun t hm => ?_, fun k hk => by rw [g3 k hk, hag.off k hk], ?_⟩
        · rcases (hnew i).1 hl with rfl | hl'
          · rw [ho] at hi; cases hi; exact g1 t hdi
          · have hij : i ≠ j := fun e => by rw [e, hun] at hl'; cases hl'
            rw [g2 t (fun hdj => hij (hd.nodup i j oi o t hi ho hdi hdj)), hag.hit i oi t hi hl' hdi]
        · rw [g2 t (hm j o ho ((hnew j).2 (.inl rfl)))]
          exact hag.miss t fun i oi hi hl => hm i oi hi ((hnew i).2 (.inr hl))
        · obtain ⟨q, hq, h1, h2⟩ := hag.on
          cases hz : zin ch j with
          | false =>
            refine ⟨q, hq, fun i hi hzi => ?_, fun k hk => by rw [g4 hz, h2 k hk]⟩
            rw [hnew, ← h1 i hi hzi]
            constructor
            · rintro (rfl | hl)
              · rw [hz] at hzi; cases hzi
              · exact hl
            · exact .inr
          | true =>
            have hord := (agr_own hd hr hag hc ho hun hall hz).2
            refine ⟨j + 1, by omega, fun i hi hzi => ?_, fun k hk => g5 hz k hk⟩
            rw [hnew]
            by_cases hij : i = j
            · subst hij; simp
            · rw [hord i hi hzi hij]; omega
    have hev : ∀ x ∈ o.op.operands, (S j).ev x = s.ev x := ops_ev (ops := ops) hreads
    have hstep := hr j o ho
    have hoff := fun k hk => hstep.off (k := k) hk
    unfold wpOp
    rw [ho]
    simp only
    generalize hzj : zin ch j = cj at hstep
    generalize hSj : S (j + 1) = s1 at hstep hnext hoff
    cases hstep with
    | no hw =>
      have hw' : Wants ops s o false := hw.congr hreads
      rw [if_neg (by rw [hw'.spec h]; simp)]
      refine hnext (s.put o.dst (.raw undef)) _ _ (fun t ht => by rw [put_hit ht, put_hit ht]) (fun t ht => put_miss ht) (fun k _ => by rw [put_own]) (fun _ => by rw [put_own]) (fun hz k hk => ?_) (h.put hNo undef)
      rw [put_own, put_own, (agr_own hd hr hag hc ho hun hall hz).1]
    | free hw hq =>
      have hw' : Wants ops s o true := hw.congr hreads
      rw [if_pos (hw'.spec h)]
      have hle : OwnLe ((S j).erase Z) ⟨(S j).reg, s.own⟩ := fun k => by
        cases hk : zin Z k with
        | true => exact .inr (by simp [St.erase, hk])
        | false =>
          refine .inl ?_
          show s.own k = (bif zin Z k then _ else (S j).own k)
          rw [hk, run_off hr hk j (by omega), hag.off k hk]; rfl
      have hq2 := hq.le hle rfl
      have hq3 : QOp P L s o _ := QOp.congr (s := ⟨(S j).reg, s.own⟩) (s' := s) rfl hev hq2
      refine .inl (hq3.wp hG h hNo fun a' w' h' => hnext _ a' w' (fun t ht => by rw [put_hit ht, put_hit ht]) (fun t ht => put_miss ht) (fun k _ => by rw [put_own]) (fun _ => by rw [put_own]) (fun hz => by rw [hzj] at hz; cases hz) h')
    | quiet hw hq =>
      have hw' : Wants ops s o true := hw.congr hreads
      rw [if_pos (hw'.spec h)]
      have hown := (agr_own hd hr hag hc ho hun hall hzj).1
      have hq3 : QOp P L s o _ := QOp.congr (s := S j) hown hev hq
      refine .inl (hq3.wp hG h hNo fun a' w' h' => hnext _ a' w' (fun t ht => by rw [put_hit ht, put_hit ht]) (fun t ht => put_miss ht) (fun k _ => by rw [put_own]) (fun hz => by rw [put_own]) (fun _ k _ => by rw [put_own, put_own, hown]) h')
    | eff hw he hz =>
      have hw' : Wants ops s o true := hw.congr hreads
      rw [if_pos (hw'.spec h)]
      have hown := (agr_own hd hr hag hc ho hun hall hzj).1
      obtain ⟨s', e1, e2, e3, e4⟩ := he.congr hown hev
      refine .inl (e1.sound hG.lay h hNo fun a' w' h' => hnext s' a' w' (fun t ht => e3 t ht) (fun t ht => (e4 t ht).1) (fun k hk => by rw [e2, hoff k hk, hown]) (fun hz => by rw [hzj] at hz; cases hz) (fun _ k _ => by rw [e2]) h')
def PDraw3 (P : Program) (L : Lay) (ops : Array Oper) (K : St → Prop) (s : St) : Prop := ∃ Z ch, drawOk3 ops ch = true ∧ P3 P L ops Z (zin ch) K 0 ops.toList s
theorem PDraw3.sound (hG : Good P L C) {K' : St → Prop} {Q : Exit → Act → World → Prop} (hK : ∀ s' a' w', SimE C s' a' w' → K' s' → Q .normal a' w') (hN : ∀ o ∈ ops.toList, dstLt C.N o.dst = true) {s : St}
    (h : SimE C s a w) (hq : PDraw3 P L ops K' s) : wpAny P .any ops Q ops.size (Array.replicate ops.size false) a { w with drawn := w.drawn + 1 } := by
  obtain ⟨Z, ch, hok, hq⟩ := hq
  obtain ⟨S, h0, h1, h2⟩ := P3.run _ _ _ hq
  have hd := drawOk3_spec hok
  have hr : Run3 P L ops Z ch S := fun i o ho => by
    have := h1 i o (by simpa using ho)
    rwa [Nat.zero_add] at this
  have hend : K' (S ops.size) := by simpa using h2
  have hrep : ∀ i, i < ops.size → (Array.replicate ops.size false).getD i true = false := fun i hi => by simp [hi]
  refine draw_three hG hd hK hN hr hend ops.size (List.range ops.size) (Array.replicate ops.size false) s a _ (by simp) List.nodup_range (fun i => ?_) (by simp) ?_ ?_ (let ⟨γ, h⟩ := h; ⟨γ, sim_drew h⟩)
  · rw [List.mem_range]
    exact ⟨fun hi => ⟨hi, hrep i hi⟩, fun x => x.1⟩
  · intro i o ho hl
    rw [hrep i (Array.getElem?_eq_some_iff.1 ho).1] at hl; cases hl
  · refine ⟨fun i o t ho hl => ?_, fun t _ => by rw [h0], fun k _ => by rw [h0], 0, by omega, fun i hi _ => ?_, fun k _ => by rw [h0]⟩
    · rw [hrep i (Array.getElem?_eq_some_iff.1 ho).1] at hl; cases hl
    · rw [hrep i hi]
      exact ⟨fun h => (by cases h), fun h => (by omega)⟩
def PTree (P : Program) (L : Lay) (ops : Array Oper) (K : St → Prop) : Nat → Array Bool → St → Prop
  | 0, listed, s => Region.ready .any ops listed = [] ∧ K s
  | f + 1, listed, s => (Region.ready .any ops listed = [] → K s) ∧ ∀ i ∈ Region.ready .any ops listed, ∃ o, ops[i]? = some o ∧ PSem P L ops (PTree P L ops K f (listed.setIfInBounds i true)) [o] s
theorem PTree.sound (hG : Good P L C) {K' : St → Prop} {Q : Exit → Act → World → Prop} (hK : ∀ s' a' w', SimE C s' a' w' → K' s' → Q .normal a' w') (hN : ∀ o ∈ ops.toList, dstLt C.N o.dst = true) :
    ∀ (f : Nat) (listed : Array Bool) (s : St) (a : Act) (w : World), SimE C s a w → PTree P L ops K' f listed s → wpAny P .any ops Q f listed a w
  | 0, listed, s, a, w, h, hp => ⟨hp.1, hK s a w h hp.2⟩
  | f + 1, listed, s, a, w, h, hp => by
    refine ⟨fun e => hK s a w h (hp.1 e), fun i hi => ?_⟩
    obtain ⟨o, ho, hs⟩ := hp.2 i hi
    have hNo : dstLt C.N o.dst = true := hN o (by have := Array.mem_of_getElem? ho; simpa using this)
    unfold wpOp
    rw [ho]
    simp only
    rcases hs with ⟨hw, hs⟩ | ⟨hw, hs⟩
    · rw [if_pos (hw.spec h)]
      rcases hs with hs | hs
      · exact .inl (hs.wp hG h hNo fun s' a' w' h' hp' => PTree.sound hG hK hN f _ s' a' w' h' hp')
      · exact .inl (Oper.wp_mono (fun a' w' ⟨s', h', hp'⟩ => PTree.sound hG hK hN f _ s' a' w' h' hp') (hs C a w _ hG h hNo))
    · rw [if_neg (by rw [hw.spec h]; simp)]
      exact PTree.sound hG hK hN f _ _ _ w (h.put hNo undef) hs
def PTree0 (P : Program) (L : Lay) (ops : Array Oper) (K : St → Prop) (s : St) : Prop := PTree P L ops K ops.size (Array.replicate ops.size false) s
theorem PTree0.sound (hG : Good P L C) {K' : St → Prop} {Q : Exit → Act → World → Prop} (hK : ∀ s' a' w', SimE C s' a' w' → K' s' → Q .normal a' w') (hN : ∀ o ∈ ops.toList, dstLt C.N o.dst = true) {s : St}
    (h : SimE C s a w) (hq : PTree0 P L ops K' s) : wpAny P .any ops Q ops.size (Array.replicate ops.size false) a { w with drawn := w.drawn + 1 } :=
  PTree.sound hG hK hN _ _ s a _ (let ⟨γ, h⟩ := h; ⟨γ, sim_drew h⟩) hq
end
end Go.Pv


namespace Go.Pv
open Go.RowKit
def Fr (ro : Option Nat) : Fence := { Fence.wide with round := ro }
section
variable {P : Program} {ro : Option Nat} {n : Nat} {ops : Array Oper} {Q : Exit → Act → World → Prop}
theorem calls_fr {f : FuncId} {args : Array Value} {w : World} {R : Ending → World → Prop} (h : Calls P f args w R) : CallsIn (Fr ro) n P f args w R := callsIn_wide.2 h
theorem rows_fr {row : String} {args : Array Value} {w : World} {R : Value → World → Prop} (h : Rows P row args w R) : RowsIn (Fr ro) n P row args w R := fun c cs _ =>
  let ⟨v, w', r, s⟩ := h c cs; ⟨v, w', r, stepsIn_wide.2 s⟩
theorem notDefer_spec {op : Op} (h : notDefer op = true) (c : Call) : op ≠ .defer c := fun e => by subst e; cases h
theorem upon_fr {o : Oper} {a : Act} {next : Act → World → Prop} {r : Result Next} (h : o.upon P a next Q r) : o.uponIn (Fr ro) n P a next Q r := by
  have hd : (Fr ro).depth.isSome = true → 1 ≤ n := fun e => by simp [Fr, Fence.wide] at e
  cases r with
  | ok x w' =>
    cases x with
    | value v => exact h
    | skip => exact h
    | defer d => exact h
    | enter f args => exact ⟨hd, (calls_fr (show Calls P f args w' _ from h)).mono fun e w'' he => by cases e <;> exact he⟩
    | row row args => exact ⟨hd, rows_fr (show Rows P row args w' _ from h)⟩
    | _ => exact False.elim h
  | halt x w' =>
    cases x with
    | panic v => exact h
    | _ => exact False.elim h
theorem wp_fr {o : Oper} (hd : notDefer o.op = true) {a : Act} {w : World} {next : Act → World → Prop} (h : o.wp P a w next Q) : o.wpIn (Fr ro) n P a w next Q := by
  refine ⟨fun _ _ => trivial, ?_⟩
  rw [Oper.semAt_eq _ _ _ (notDefer_spec hd)]
  exact upon_fr h
theorem wpOps_fr (hQ : ¬ LetsOut Q) (hd : ∀ o ∈ ops.toList, notDefer o.op = true) : ∀ (l : List Nat) (a : Act) (w : World), wpOps P ops Q l a w → wpOpsIn (Fr ro) n P ops Q l a w
  | [], a, w, h => h
  | i :: rest, a, w, h => by
    unfold wpOps at h
    unfold wpOpsIn
    cases ho : ops[i]? with
    | none => simp only [ho] at h ⊢; exact wpOps_fr hQ hd rest a w h
    | some o =>
      simp only [ho] at h ⊢
      have hm : o ∈ ops.toList := List.mem_of_getElem? (by rw [Array.getElem?_toList]; exact ho)
      split
      · rename_i hw
        simp only [hw, if_true] at h
        rcases h with h | h
        · exact Oper.wpIn_mono (fun a w h => wpOps_fr hQ hd rest a w h) (wp_fr (hd o hm) h)
        · exact absurd h.2 hQ
      · rename_i hw
        simp only [hw] at h
        exact ⟨fun _ _ => trivial, wpOps_fr hQ hd rest _ w h⟩
theorem region_fr {id : Nat} {a : Act} {w : World} (hQ : ¬ LetsOut Q) (hd : ∀ o ∈ ops.toList, notDefer o.op = true) (h : wpList P ops Q ops.toList a w) : (Code.region id ops false).wpIn (Fr ro) n P Q a w :=
  wpIn_region (wpOps_fr hQ hd _ _ _ (by rw [List.range_eq_range', ← Array.length_toList, wpOps_eq_wpList ops.toList 0 (by simp)]; exact h))
theorem draw_fr {id : Nat} {a : Act} {w : World} (hm : P.follows .mixedOrders = true) (hQ : ¬ LetsOut Q) (hd : ∀ o ∈ ops.toList, notDefer o.op = true) (h : wpAny P .any ops Q ops.size (Array.replicate ops.size false) a { w with drawn := w.drawn + 1 }) :
    (Code.region id ops true).wpIn (Fr ro) n P Q a w :=
  wpIn_region_draw fun t => by
    simp only [Region.schedule, hm, Bool.true_or, if_true]
    exact wpOps_fr hQ hd _ _ _ (wpAny_sound ops.size t _ a _ h)
end
end Go.Pv


namespace Go.Pv
open Go.RowKit
variable [Globs]
def XThen (next : St → Prop) (Q : Exit → St → Prop) : Exit → St → Prop
  | .normal, s => next s
  | e, s => Q e s
def XBlock (id : Nat) (Q : Exit → St → Prop) : Exit → St → Prop
  | .exit id', s => if id' = id then Q .normal s else Q (.exit id') s
  | e, s => Q e s
def Ghost (s s1 : St) : Prop := ∀ C a w, (∀ b, C.X b → b < C.B) → SimE C s a w → SimE C s1 a w
theorem Ghost.refl (s : St) : Ghost s s := fun _ _ _ _ h => h
theorem Ghost.trans {s1 s2 s3 : St} (h1 : Ghost s1 s2) (h2 : Ghost s2 s3) : Ghost s1 s3 := fun C a w hx h => h2 C a w hx (h1 C a w hx h)
def Gh (K : St → Prop) (s : St) : Prop := ∃ s1, Ghost s s1 ∧ K s1
theorem Gh.of {K : St → Prop} {s : St} (h : K s) : Gh K s := ⟨s, .refl s, h⟩
def Dk (C : Ctx) : Prop := C.dfs.Nodup ∧ ∀ D ∈ C.dfs, C.B ≤ D ∧ C.keep .dfd (.pointer (some ⟨D, 0, none⟩))
structure Ext (C C' : Ctx) : Prop where
  B : C'.B = C.B
  X : C'.X = C.X
  w0 : C'.w0 = C.w0
  N : C'.N = C.N
  keep : ∀ c v, C.keep c v → C'.keep c v
  dk : Dk C → Dk C'
theorem Ext.refl (C : Ctx) : Ext C C := ⟨rfl, rfl, rfl, rfl, fun _ _ h => h, id⟩
theorem Ext.trans {A C D : Ctx} (h : Ext A C) (k : Ext C D) : Ext A D := ⟨k.B.trans h.B, k.X.trans h.X, k.w0.trans h.w0, k.N.trans h.N, fun c v hk => k.keep c v (h.keep c v hk), fun hk => k.dk (h.dk hk)⟩
def UpX (X : Ctx → Ctx → Prop) (C : Ctx) (Q : Exit → St → Prop) (e : Exit) (a : Act) (w : World) : Prop := ∃ C' s, X C C' ∧ SimE C' s a w ∧ Q e s
def RangeS (P : Program) (L : Lay) (g : Operand) (ps : Array Tmp) (assign body : Code) (Q : Exit → St → Prop) (s : St) : Prop :=
  ∀ (n : Nat) (C : Ctx) (a : Act) (w : World), Good P L C → SimE C s a w → codeB true C.N (.rangeFunc g ps assign body) = true → (∀ s, ¬ Q .outgrown s) → (Code.rangeFunc g ps assign body).wpIn (Fr none) n P (UpX Ext C Q) a w
def SmI (P : Program) (L : Lay) (s : St) (o : Oper) (K : St → Prop) : Prop := ∀ (ro : Option Nat) (n : Nat) (C : Ctx) (a : Act) (w : World) (Q : Exit → Act → World → Prop), Good P L C → SimE C s a w → dstLt C.N o.dst = true → ¬ LetsOut Q →
  o.wpIn (Fr ro) n P a w (fun a' w' => ∃ s', SimE C s' a' w' ∧ K s') Q
def PSemI (P : Program) (L : Lay) (ops : Array Oper) (K : St → Prop) : List Oper → St → Prop
  | [], s => K s
  | o :: rest, s => (Wants ops s o true ∧ (POp P L s o (PSemI P L ops K rest) ∨ Sm P L s o (PSemI P L ops K rest) ∨ SmI P L s o (PSemI P L ops K rest))) ∨ (Wants ops s o false ∧ PSemI P L ops K rest (s.put o.dst (.raw undef)))
theorem PSemI.sound {P : Program} {L : Lay} {C : Ctx} {ops : Array Oper} {ro : Option Nat} {n : Nat} (hG : Good P L C) {K' : St → Prop} {Q : Exit → Act → World → Prop} (hQ : ¬ LetsOut Q) (hK : ∀ s' a' w', SimE C s' a' w' → K' s' → Q .normal a' w') :
    ∀ (l : List Oper) (s : St) (a : Act) (w : World), (∀ o ∈ l, dstLt C.N o.dst = true ∧ notDefer o.op = true) → SimE C s a w → PSemI P L ops K' l s → wpListIn (Fr ro) n P ops Q l a w
  | [], s, a, w, _, h, hp => hK s a w h hp
  | o :: l, s, a, w, hN, h, hp => by
    unfold wpListIn
    have hN' : ∀ o' ∈ l, dstLt C.N o'.dst = true ∧ notDefer o'.op = true := fun o' ho' => hN o' (by simp [ho'])
    obtain ⟨h1, h2⟩ := hN o (by simp)
    rcases hp with ⟨hw, hp⟩ | ⟨hw, hp⟩
    · rw [if_pos (hw.spec h)]
      rcases hp with hp | hp | hp
      · exact wp_fr h2 (hp.wp hG h h1 fun s' a' w' h' hp' => PSemI.sound hG hQ hK l s' a' w' hN' h' hp')
      · exact wp_fr h2 (Oper.wp_mono (fun a' w' ⟨s', h', hp'⟩ => PSemI.sound hG hQ hK l s' a' w' hN' h' hp') (hp C a w _ hG h h1))
      · exact Oper.wpIn_mono (fun a' w' ⟨s', h', hp'⟩ => PSemI.sound hG hQ hK l s' a' w' hN' h' hp') (hp ro n C a w _ hG h h1 hQ)
    · rw [if_neg (by rw [hw.spec h]; simp)]
      exact ⟨fun _ _ => trivial, PSemI.sound hG hQ hK l _ _ w hN' (h.put h1 undef) hp⟩
def PWP (P : Program) (L : Lay) : Code → (Exit → St → Prop) → St → Prop
  | .skip, Q, s => Gh (Q .normal) s
  | .region _ ops d, Q, s => Gh (fun s => bif d then (PDraw P L ops (Q .normal) s ∨ PDraw2 P L ops (Q .normal) s ∨ PDraw3 P L ops (Q .normal) s ∨ PTree0 P L ops (Q .normal) s) else (POps P L ops (Q .normal) ops.toList s ∨ PSem P L ops (Q .normal) ops.toList s ∨ PSemI P L ops (Q .normal) ops.toList s)) s
  | .seq x y, Q, s => PWP P L x (XThen (fun s' => PWP P L y Q s') Q) s
  | .cond c x y, Q, s => Gh (fun s => ∃ b, s.ev c = .bool b ∧ (b = true → PWP P L x Q s) ∧ (b = false → PWP P L y Q s)) s
  | .block id c, Q, s => PWP P L c (XBlock id Q) s
  | .loop c, Q, s => Gh (fun s => ∃ (I : St → Prop) (μ : St → Nat), I s ∧ ∀ s, I s → PWP P L c (XThen (fun s' => I s' ∧ μ s' < μ s) Q) s) s
  | .exit id, Q, s => Gh (Q (.exit id)) s
  | .ret, Q, s => Gh (Q .ret) s
  | .label _, Q, s => Gh (Q .normal) s
  | .rangeFunc g ps assign body, Q, s => Gh (RangeS P L g ps assign body Q) s
  | _, _, _ => False
theorem pw_ghost {P : Program} {L : Lay} {s s1 : St} (hg : Ghost s s1) : ∀ {c : Code} {Q : Exit → St → Prop}, PWP P L c Q s1 → PWP P L c Q s
  | .skip, _, ⟨s2, h1, h2⟩ => ⟨s2, hg.trans h1, h2⟩
  | .region .., _, ⟨s2, h1, h2⟩ => ⟨s2, hg.trans h1, h2⟩
  | .seq x _, _, h => pw_ghost (c := x) hg h
  | .cond .., _, ⟨s2, h1, h2⟩ => ⟨s2, hg.trans h1, h2⟩
  | .block _ c, _, h => pw_ghost (c := c) hg h
  | .loop .., _, ⟨s2, h1, h2⟩ => ⟨s2, hg.trans h1, h2⟩
  | .exit .., _, ⟨s2, h1, h2⟩ => ⟨s2, hg.trans h1, h2⟩
  | .ret, _, ⟨s2, h1, h2⟩ => ⟨s2, hg.trans h1, h2⟩
  | .label .., _, ⟨s2, h1, h2⟩ => ⟨s2, hg.trans h1, h2⟩
  | .goto .., _, h => h.elim
  | .rangeFunc .., _, ⟨s2, h1, h2⟩ => ⟨s2, hg.trans h1, h2⟩
  | .scope .., _, h => h.elim
  | .refuse .., _, h => h.elim
section
variable {P : Program} {L : Lay} {C : Ctx} {s : St} {a : Act} {w w' : World}
def Up (C : Ctx) (Q : Exit → St → Prop) (e : Exit) (a : Act) (w : World) : Prop := ∃ s, SimE C s a w ∧ Q e s
theorem Good.ext {C' : Ctx} (hG : Good P L C) (h : Ext C C') : Good P L C' := ⟨hG.lay, by rw [h.X, h.B]; exact hG.x, hG.mixed, by rw [h.B, h.w0]; exact hG.glob⟩
theorem PWP.soundX {X : Ctx → Ctx → Prop} (hXr : ∀ C, X C C) (hXt : ∀ {A B D}, X A B → X B D → X A D) (hXe : ∀ {A B}, X A B → Ext A B) {r : Bool} {ro : Option Nat} (hr : r = true → ro = none ∧ ∀ A B, Ext A B → X A B) {n : Nat} :
    ∀ (c : Code) (Q : Exit → St → Prop) (C : Ctx) (s : St) (a : Act) (w : World), Good P L C → codeB r C.N c = true → (∀ s, ¬ Q .outgrown s) → SimE C s a w → PWP P L c Q s → c.wpIn (Fr ro) n P (UpX X C Q) a w
  | .skip, Q, C, s, a, w, hG, _, _, h, ⟨s1, g, hp⟩ => wpIn_skip ⟨C, s1, hXr C, g C a w hG.x h, hp⟩
  | .region id ops d, Q, C, s, a, w, hG, hc, hQ, h, hp => by
    obtain ⟨s1, g, hp⟩ := hp
    replace h := g C a w hG.x h
    have hcc : ∀ o ∈ ops.toList, dstLt C.N o.dst = true ∧ notDefer o.op = true := fun o ho => by
      have := List.all_eq_true.1 hc o ho
      simpa using this
    have hN : ∀ o ∈ ops.toList, dstLt C.N o.dst = true := fun o ho => (hcc o ho).1
    have hD : ∀ o ∈ ops.toList, notDefer o.op = true := fun o ho => (hcc o ho).2
    have hL : ¬ LetsOut (UpX X C Q) := fun ⟨_, _, _, s, _, _, hq⟩ => hQ s hq
    have fin : ∀ s' a' w', SimE C s' a' w' → Q .normal s' → UpX X C Q .normal a' w' := fun s' a' w' h' hk => ⟨C, s', hXr C, h', hk⟩
    cases d with
    | true =>
      rcases hp with hp | hp | hp | hp
      · exact draw_fr hG.mixed hL hD (PDraw.sound hG (Q := UpX X C Q) fin hN h hp)
      · exact draw_fr hG.mixed hL hD (PDraw2.sound hG (Q := UpX X C Q) fin hN h hp)
      · exact draw_fr hG.mixed hL hD (PDraw3.sound hG (Q := UpX X C Q) fin hN h hp)
      · exact draw_fr hG.mixed hL hD (PTree0.sound hG (Q := UpX X C Q) fin hN h hp)
    | false =>
      rcases hp with hp | hp | hp
      · exact region_fr hL hD (POps.sound hG (Q := UpX X C Q) fin ops.toList s1 a w hN h hp)
      · exact region_fr hL hD (PSem.sound hG (Q := UpX X C Q) fin ops.toList s1 a w hN h hp)
      · exact wpIn_region_list (PSemI.sound hG hL fin ops.toList s1 a w hcc h hp)
  | .seq x y, Q, C, s, a, w, hG, hc, hQ, h, hp => by
    simp only [codeB, Bool.and_eq_true] at hc
    refine wpIn_seq (wpIn_mono (PWP.soundX hXr hXt hXe hr x (XThen (fun s' => PWP P L y Q s') Q) C s a w hG hc.1 (fun s hq => hQ s hq) h hp) ?_)
    rintro e a' w' ⟨C', s', hX, h', hq⟩
    cases e
    case normal =>
      have he := hXe hX
      refine wpIn_mono (PWP.soundX hXr hXt hXe hr y Q C' s' a' w' (hG.ext he) (by rw [he.N]; exact hc.2) hQ h' hq) ?_
      rintro e2 a2 w2 ⟨C2, s2, hX2, h2, hq2⟩
      exact ⟨C2, s2, hXt hX hX2, h2, hq2⟩
    all_goals exact ⟨C', s', hX, h', hq⟩
  | .cond c x y, Q, C, s, a, w, hG, hc, hQ, h, hp => by
    simp only [codeB, Bool.and_eq_true] at hc
    obtain ⟨s1, g, b, hb, h1, h2⟩ := hp
    obtain ⟨γ, h'⟩ := g C a w hG.x h
    have he := h'.ev c
    rw [hb] at he
    refine wpIn_cond (t := b) he.bool_inv ?_
    cases b
    · exact PWP.soundX hXr hXt hXe hr y Q C s1 a w hG hc.2 hQ ⟨γ, h'⟩ (h2 rfl)
    · exact PWP.soundX hXr hXt hXe hr x Q C s1 a w hG hc.1 hQ ⟨γ, h'⟩ (h1 rfl)
  | .block id c, Q, C, s, a, w, hG, hc, hQ, h, hp => by
    refine wpIn_block (wpIn_mono (PWP.soundX hXr hXt hXe hr c (XBlock id Q) C s a w hG hc (fun s hq => hQ s hq) h hp) ?_)
    rintro e a' w' ⟨C', s', hX, h', hq⟩
    cases e
    case exit id' =>
      show if id' = id then _ else _
      have hq' : if id' = id then Q .normal s' else Q (.exit id') s' := hq
      split
      · rename_i hid; rw [if_pos hid] at hq'; exact ⟨C', s', hX, h', hq'⟩
      · rename_i hid; rw [if_neg hid] at hq'; exact ⟨C', s', hX, h', hq'⟩
    all_goals exact ⟨C', s', hX, h', hq⟩
  | .loop c, Q, C, s, a, w, hG, hc, hQ, h, hp => by
    obtain ⟨s1, g, I, μ, h0, hround⟩ := hp
    replace h := g C a w hG.x h
    let J : Act → World → Nat → Prop := fun a w n => ∃ C' s, X C C' ∧ SimE C' s a w ∧ I s ∧ μ s = n
    have least : ∀ a w, (∃ n, J a w n) → ∃ n, J a w n ∧ ∀ m, J a w m → n ≤ m := by
      intro a w ⟨n, hn⟩
      induction n using Nat.strongRecOn with
      | _ n ih =>
        by_cases hx : ∃ m, m < n ∧ J a w m
        · obtain ⟨m, hm, hj⟩ := hx
          exact ih m hm hj
        · exact ⟨n, hn, fun m hm => by
            rcases Nat.lt_or_ge m n with h | h
            · exact absurd ⟨m, h, hm⟩ hx
            · exact h⟩
    have hμ : ∃ f : Act → World → Nat, ∀ a w, (∃ n, J a w n) → J a w (f a w) ∧ ∀ m, J a w m → f a w ≤ m := by
      refine ⟨fun a w => Classical.epsilon fun n => J a w n ∧ ∀ m, J a w m → n ≤ m, fun a w hx => ?_⟩
      exact Classical.epsilon_spec (least a w hx)
    obtain ⟨f, hf⟩ := hμ
    refine wpIn_loop (fun a w => ∃ C' s, X C C' ∧ SimE C' s a w ∧ I s) f ⟨C, s1, hXr C, h, h0⟩ ?_
    rintro a1 w1 ⟨C1, s1, hX1, hs1, hI1⟩
    obtain ⟨⟨C2, s2, hX2, hs2, hI2, hm2⟩, _⟩ := hf a1 w1 ⟨_, C1, s1, hX1, hs1, hI1, rfl⟩
    have he := hXe hX2
    refine wpIn_mono (PWP.soundX hXr hXt hXe hr c (XThen (fun s' => I s' ∧ μ s' < μ s2) Q) C2 s2 a1 w1 (hG.ext he) (by rw [he.N]; exact hc) (fun s hq => hQ s hq) hs2 (hround s2 hI2)) ?_
    rintro e a3 w3 ⟨C3, s3, hX3, h3, hq⟩
    cases e
    case normal =>
      obtain ⟨i3, m3⟩ := hq
      refine ⟨⟨C3, s3, hXt hX2 hX3, h3, i3⟩, ?_⟩
      have := (hf a3 w3 ⟨_, C3, s3, hXt hX2 hX3, h3, i3, rfl⟩).2 _ ⟨C3, s3, hXt hX2 hX3, h3, i3, rfl⟩
      omega
    all_goals exact ⟨C3, s3, hXt hX2 hX3, h3, hq⟩
  | .exit id, Q, C, s, a, w, hG, _, _, h, ⟨s1, g, hp⟩ => wpIn_exit ⟨C, s1, hXr C, g C a w hG.x h, hp⟩
  | .ret, Q, C, s, a, w, hG, _, _, h, ⟨s1, g, hp⟩ => wpIn_ret ⟨C, s1, hXr C, g C a w hG.x h, hp⟩
  | .label l, Q, C, s, a, w, hG, _, _, h, ⟨s1, g, hp⟩ => wpIn_label ⟨C, s1, hXr C, g C a w hG.x h, hp⟩
  | .rangeFunc gg ps assign body, Q, C, s, a, w, hG, hc, hQ, h, ⟨s1, g, hp⟩ => by
    have hrt : r = true := by
      simp only [codeB, Bool.and_eq_true] at hc
      exact hc.1.1.1
    obtain ⟨rfl, hX⟩ := hr hrt
    subst hrt
    refine wpIn_mono (hp n C a w hG (g C a w hG.x h) hc hQ) ?_
    rintro e a' w' ⟨C', s', he, h', hq⟩
    exact ⟨C', s', hX _ _ he, h', hq⟩
  | .goto _, _, _, _, _, _, _, _, _, _, hp => hp.elim
  | .scope _, _, _, _, _, _, _, _, _, _, hp => hp.elim
  | .refuse _, _, _, _, _, _, _, _, _, _, hp => hp.elim
theorem PWP.sound (hG : Good P L C) (c : Code) (Q : Exit → St → Prop) (s : St) (a : Act) (w : World) (hc : codeOk C.N c = true) (hQ : ∀ s, ¬ Q .outgrown s) (h : SimE C s a w) (hp : PWP P L c Q s) : c.wp P (Up C Q) a w := by
  refine wpIn_wide (n := 0).1 (wpIn_mono (PWP.soundX (X := fun A B => A = B) (fun _ => rfl) (fun h k => h.trans k) (fun h => by subst h; exact .refl _) (r := false) (ro := none) (fun h => by cases h) c Q C s a w hG hc hQ h hp) ?_)
  rintro e a' w' ⟨C', s', rfl, h', hq⟩
  exact ⟨s', h', hq⟩
def rv (L : Lay) (s : St) : ResultVar → Option (PV × Prop)
  | .tmp t => some (s.reg t, True)
  | .cell t T => qv L s (.load T (.tmp t))
def rvs (L : Lay) (s : St) : List ResultVar → Option (List PV × Prop)
  | [] => some ([], True)
  | x :: xs => match rv L s x with
    | some (v, A) => (match rvs L s xs with | some (vs, B) => some (v :: vs, A ∧ B) | none => none)
    | none => none
def tupled : List PV → PV
  | [x] => x
  | l => .tup l
def Post (L : Lay) (fn : Func) (m : Mode) (r : PV) (s : St) : Prop :=
  ∃ l Cd d Cd2 fl, rvs L s fn.results.toList = some (l, Cd) ∧ Cd ∧ res s 5 (tupled l) = some (d, Cd2, fl) ∧ Cd2 ∧ (match m with | .shared => True | .fresh => fl.fr = true) ∧ d = r
def RetPost (L : Lay) (fn : Func) (m : Mode) (r : PV) : Exit → St → Prop
  | .normal, s | .ret, s => Post L fn m r s
  | _, _ => False
def initSt (pargs : List PV) : St := { reg := fun t => pargs.getD t (.raw undef), own := fun _ => (0, none) }
theorem rvs_spec (hL : LOk P L) {γ : Nat → Option Nat} (h : Sim C γ s a w) : ∀ (xs : List ResultVar) (l : List PV) (Cd : Prop), rvs L s xs = some (l, Cd) → Cd →
    ∃ vs : List Value, (xs.mapM (fun | .tmp t => pure (a.tmps.getD t undef) | .cell p t => do loadVar t (← asAddr (a.tmps.getD p undef)) : ResultVar → Sem Value)).run P w = .ok vs w ∧ l.length = vs.length ∧
      ∀ (i : Nat) (c : PV) (v : Value), l[i]? = some c → vs[i]? = some v → Rep (envOf C γ s w) c v
  | [], l, Cd, hq, _ => by
    simp only [rvs, Option.some.injEq, Prod.mk.injEq] at hq
    obtain ⟨rfl, _⟩ := hq
    exact ⟨[], by simp, rfl, fun i c v h => by simp at h⟩
  | x :: xs, l, Cd, hq, hc => by
    simp only [rvs] at hq
    split at hq
    · rename_i v A hv
      split at hq
      · rename_i vs B hvs
        simp only [Option.some.injEq, Prod.mk.injEq] at hq
        obtain ⟨rfl, rfl⟩ := hq
        obtain ⟨us, h1, h2, h3⟩ := rvs_spec hL h xs vs B hvs hc.2
        have key : ∃ u, ((fun | .tmp t => pure (a.tmps.getD t undef) | .cell p t => do loadVar t (← asAddr (a.tmps.getD p undef)) : ResultVar → Sem Value) x).run P w = .ok u w ∧ Rep (envOf C γ s w) v u := by
          cases x with
          | tmp t =>
            simp only [rv, Option.some.injEq, Prod.mk.injEq] at hv
            obtain ⟨rfl, _⟩ := hv
            exact ⟨_, rfl, h.regs t⟩
          | cell p T =>
            obtain ⟨u, e1, e2⟩ := snd_load (P := P) hL h hv hc.1
            refine ⟨u, ?_, e2⟩
            have he : a.eval (.tmp p) = a.tmps.getD p undef := rfl
            rw [he] at e1
            simp only [Sem.run_bind]
            generalize a.tmps.getD p undef = y at e1
            unfold Instr.loadAt Instr.sureAddr at e1
            split at e1
            · simpa [asAddr] using e1
            · simp at e1
        obtain ⟨u, k1, k2⟩ := key
        refine ⟨u :: us, ?_, by simp [h2], fun i c v' e1 e2 => ?_⟩
        · rw [List.mapM_cons, Sem.run_bind, k1]
          simp only [Result.andThen_ok, Sem.run_bind, h1, Sem.run_pure]
        · cases i with
          | zero => simp at e1 e2; subst e1; subst e2; exact k2
          | succ i => exact h3 i c v' (by simpa using e1) (by simpa using e2)
      · cases hq
    · cases hq
theorem Ret.of_pwp {m : Mode} {f : FuncId} {fn : Func} {body : Code} {pargs : List PV} {r : PV} (hL : LOk P L) (hm : P.follows .mixedOrders = true) (hf : P.funcs[f]? = some fn) (hb : fn.body = some body) (hn : (fn.name == "runtime.NumGoroutine") = false)
    (hlen : Nat.ble pargs.length fn.ntmps = true) (hc : codeOk fn.ntmps body = true) (h : PWP P L body (RetPost L fn m r) (initSt pargs)) : Ret P m f pargs r := by
  refine ⟨⟨fn, hf, hn, by simp [hb]⟩, fun w X args hg hX hl hargs => ?_⟩
  let C : Ctx := ⟨w.heap.size, X, w, fn.ntmps, fun _ _ => False, []⟩
  have hG : Good P L C := ⟨hL, hX, hm, fun w' hb => Globs.keep w w' hg hb⟩
  have hle : args.length ≤ fn.ntmps := by rw [← hl]; simpa using hlen
  have hsim : SimE C (initSt pargs) { tmps := args.toArray ++ Array.replicate (fn.ntmps - args.toArray.size) undef, defers := [] } w := by
    refine ⟨fun _ => none, rfl, by simp [C]; omega, fun t => ?_, fun k c hk => by simp [initSt] at hk, fun k k' c c' b hk => by simp [initSt] at hk, fun k c b hk => by simp [initSt] at hk, Below.refl _ _, Nat.le_refl _, fun c v hk => hk.elim⟩
    show Rep _ (pargs.getD t (.raw undef)) _
    rcases Nat.lt_or_ge t args.length with hlt | hge
    · have hlt' : t < pargs.length := by omega
      have e1 : pargs.getD t (.raw undef) = pargs[t] := by simp [hlt']
      have e2 : (args.toArray ++ Array.replicate (fn.ntmps - args.toArray.size) undef).getD t undef = args[t] := by
        rw [Array.getD_eq_getD_getElem?, Array.getElem?_append_left (by simpa using hlt)]
        simp [hlt]
      rw [e1, e2]
      refine .d ((hargs t pargs[t] args[t] (List.getElem?_eq_getElem hlt') (List.getElem?_eq_getElem hlt)).weaken fun b hb => ⟨hb.1, hb.2, fun k c hk => by simp [initSt] at hk⟩)
    · have e1 : pargs.getD t (.raw undef) = .raw undef := by simp [List.getElem?_eq_none (by omega : pargs.length ≤ t)]
      have e2 : (args.toArray ++ Array.replicate (fn.ntmps - args.toArray.size) undef).getD t undef = undef := by
        rw [Array.getD_eq_getD_getElem?, Array.getElem?_append_right (by simpa using hge)]
        rcases Nat.lt_or_ge (t - args.toArray.size) (fn.ntmps - args.toArray.size) with h1 | h1
        · rw [Array.getElem?_replicate, if_pos h1]; rfl
        · rw [Array.getElem?_eq_none (by simpa using h1)]; rfl
      rw [e1, e2]
      exact .d (.raw _)
  refine calls_of_wp hf hb (wp_mono (PWP.sound hG body _ _ _ w hc (fun _ hq => hq) hsim h) ?_)
  have fin : ∀ {s : St} {a : Act} {w' : World}, SimE C s a w' → Post L fn m r s → a.defers = [] ∧ ∃ v, (results fn a.tmps).run P w' = .ok v w' ∧ ∃ u, Ending.returned v = .returned u ∧ Below w.heap.size w w' ∧ DRep w' (m.ok X w w') r u := by
    rintro s a w' ⟨γ, hs⟩ ⟨l, Cd, d, Cd2, fl, h1, h2, h3, h4, h5, rfl⟩
    obtain ⟨vs, g1, g2, g3⟩ := rvs_spec (P := P) hL hs fn.results.toList l Cd h1 h2
    have hbel : Below w.heap.size w w' := hs.below
    have hok : ∀ k, okArg C γ s w' fl k → m.ok X w w' k := by
      intro k hk
      cases m with
      | shared => exact ⟨hk.1, hk.2.1⟩
      | fresh => exact ⟨hk.2.2.2 h5, hk.1⟩
    refine ⟨hs.defers, ?_⟩
    have hrun : (results fn a.tmps).run P w' = .ok (if h : vs.toArray.size = 1 then vs.toArray[0] else .tuple vs.toArray) w' := by
      unfold results
      rw [← Array.toArray_toList (xs := fn.results), List.mapM_toArray]
      simp only [Sem.run_bind, Sem.run_map, Sem.run_pure]
      exact congrArg (fun q : Result (List Value) => (q.andThen fun a w' => Result.ok a.toArray w').andThen fun a w' => Result.ok (if h : a.size = 1 then a[0] else .tuple a) w') g1
    rw [hrun]
    refine ⟨_, rfl, _, rfl, hbel, ?_⟩
    have hrep : Rep (envOf C γ s w') (tupled l) (if h : vs.toArray.size = 1 then vs.toArray[0] else .tuple vs.toArray) := by
      match l, vs, g2, g3 with
      | [], [], _, _ => exact .tup [] [] rfl fun i c v e => by simp at e
      | [c], [v], _, g3 => exact g3 0 c v rfl rfl
      | c1 :: c2 :: l, v1 :: v2 :: vs, hlen, g3 =>
        rw [dif_neg (by simp)]
        exact .tup _ _ hlen g3
    exact (res_spec hX hs 5 _ _ _ _ _ h3 h4 hrep).weaken hok
  rintro e a w' ⟨s, hs, hq⟩
  cases e
  case normal => exact fin hs hq
  case ret => exact fin hs hq
  all_goals exact hq.elim
structure Taken (dfs : List Nat) (w w' : World) : Prop where
  os : w'.os = w.os
  tape : w'.tape = w.tape
  output : w'.output = w.output
  size : w'.heap.size = w.heap.size
  same : ∀ b, w'.heap[b]? = w.heap[b]? ∨ (b ∈ dfs ∧ w.heap[b]? = some (.deferred (some [])))
def InlPost (L : Lay) (fn : Func) (K : St → PV → Prop) : Exit → St → Prop
  | .normal, s | .ret, s => ∃ l Cd, rvs L s fn.results.toList = some (l, Cd) ∧ Cd ∧ K s (tupled l)
  | _, _ => False
def callSt (s : St) (pargs : List PV) : St := { reg := fun t => pargs.getD t (.raw undef), own := s.own }
theorem sm_inline {o : Oper} {fop : Operand} {args : Array Operand} {tys : Array TypeId} {f : FuncId} {caps : List PV} {fn : Func} {body : Code} {K : St → Prop} (hL : LOk P L) (ho : o.op = .call ⟨.value fop, args, tys⟩) (hclo : s.ev fop = .clo f caps)
    (hf : P.funcs[f]? = some fn) (hb : fn.body = some body) (hn : (fn.name == "runtime.NumGoroutine") = false) (hlen : Nat.ble (args.toList.map s.ev ++ caps).length fn.ntmps = true) (hc : codeOk fn.ntmps body = true)
    (h : PWP P L body (InlPost L fn (fun s' r => K (({ reg := s.reg, own := s'.own } : St).put o.dst r))) (callSt s (args.toList.map s.ev ++ caps))) : Sm P L s o K := by
  intro C a w Q hG hs hN
  obtain ⟨γ, hs⟩ := hs
  have hfv := hs.ev fop
  rw [hclo] at hfv
  obtain ⟨vs, hv, hcl, hcd⟩ := hfv.clo_inv
  unfold Oper.wp
  rw [run_call (f := f) ho hv ⟨fn, hf, hn, by simp [hb]⟩, Oper.upon_enter]
  let C' : Ctx := ⟨C.B, C.X, C.w0, fn.ntmps, fun c v => C.keep c v ∨ ∃ t, c = s.reg t ∧ v = a.tmps.getD t undef, []⟩
  have hG' : Good P L C' := ⟨hG.lay, hG.x, hG.mixed, hG.glob⟩
  have hargs : ∀ (i : Nat) (c : PV) (v : Value), (args.toList.map s.ev ++ caps)[i]? = some c → (args.toList.map a.eval ++ vs)[i]? = some v → Rep (envOf C γ s w) c v := by
    intro i c v e1 e2
    rw [List.getElem?_append] at e1 e2
    simp only [List.length_map] at e1 e2
    split at e1
    · rename_i hlt
      rw [if_pos hlt] at e2
      rw [List.getElem?_map] at e1 e2
      cases hx : args.toList[i]? with
      | none => rw [hx] at e1; simp at e1
      | some x => rw [hx] at e1 e2; simp at e1 e2; subst e1; subst e2; exact hs.ev x
    · rename_i hlt
      rw [if_neg hlt] at e2
      exact hcd _ c v e1 e2
  have hlv : (args.toList.map s.ev ++ caps).length = (args.toList.map a.eval ++ vs).length := by simp [hcl]
  have hle : (args.toList.map a.eval ++ vs).length ≤ fn.ntmps := by rw [← hlv]; simpa using hlen
  generalize args.toList.map s.ev ++ caps = pargs at h hargs hlv
  generalize args.toList.map a.eval ++ vs = vargs at hargs hlv hle
  have hsim : SimE C' (callSt s pargs) { tmps := vargs.toArray ++ Array.replicate (fn.ntmps - vargs.toArray.size) undef, defers := [] } w := by
    refine ⟨γ, rfl, by simp [C']; omega, fun t => ?_, hs.sites, hs.inj, hs.base, hs.below, hs.top, ?_⟩
    · show Rep (envOf C γ s w) (pargs.getD t (.raw undef)) _
      rcases Nat.lt_or_ge t vargs.length with hlt | hge
      · have hlt' : t < pargs.length := by omega
        have e1 : pargs.getD t (.raw undef) = pargs[t] := by simp [hlt']
        have e2 : (vargs.toArray ++ Array.replicate (fn.ntmps - vargs.toArray.size) undef).getD t undef = vargs[t] := by
          rw [Array.getD_eq_getD_getElem?, Array.getElem?_append_left (by simpa using hlt)]
          simp [hlt]
        rw [e1, e2]
        exact hargs t pargs[t] vargs[t] (List.getElem?_eq_getElem hlt') (List.getElem?_eq_getElem hlt)
      · have e1 : pargs.getD t (.raw undef) = .raw undef := by simp [List.getElem?_eq_none (by omega : pargs.length ≤ t)]
        have e2 : (vargs.toArray ++ Array.replicate (fn.ntmps - vargs.toArray.size) undef).getD t undef = undef := by
          rw [Array.getD_eq_getD_getElem?, Array.getElem?_append_right (by simpa using hge)]
          rcases Nat.lt_or_ge (t - vargs.toArray.size) (fn.ntmps - vargs.toArray.size) with h1 | h1
          · rw [Array.getElem?_replicate, if_pos h1]; rfl
          · rw [Array.getElem?_eq_none (by simpa using h1)]; rfl
        rw [e1, e2]
        exact .d (.raw _)
    · rintro c v (hk | ⟨t, rfl, rfl⟩)
      · exact hs.kept c v hk
      · exact hs.regs t
  refine calls_of_wp hf hb (wp_mono (PWP.sound hG' body _ _ _ w hc (fun _ hq => hq) hsim h) ?_)
  have fin : ∀ {s' : St} {a' : Act} {w' : World}, SimE C' s' a' w' → (∃ l Cd, rvs L s' fn.results.toList = some (l, Cd) ∧ Cd ∧ K (({ reg := s.reg, own := s'.own } : St).put o.dst (tupled l))) →
      a'.defers = [] ∧ ∃ v, (results fn a'.tmps).run P w' = .ok v w' ∧ ∃ s'', SimE C s'' (a.put o.dst v) w' ∧ K s'' := by
    rintro s' a' w' ⟨γ', hs'⟩ ⟨l, Cd, h1, h2, h3⟩
    obtain ⟨vs, g1, g2, g3⟩ := rvs_spec (P := P) hL hs' fn.results.toList l Cd h1 h2
    refine ⟨hs'.defers, ?_⟩
    have hrun : (results fn a'.tmps).run P w' = .ok (if h : vs.toArray.size = 1 then vs.toArray[0] else .tuple vs.toArray) w' := by
      unfold results
      rw [← Array.toArray_toList (xs := fn.results), List.mapM_toArray]
      simp only [Sem.run_bind, Sem.run_map, Sem.run_pure]
      exact congrArg (fun q : Result (List Value) => (q.andThen fun a w' => Result.ok a.toArray w').andThen fun a w' => Result.ok (if h : a.size = 1 then a[0] else .tuple a) w') g1
    have hrep : Rep (envOf C' γ' s' w') (tupled l) (if h : vs.toArray.size = 1 then vs.toArray[0] else .tuple vs.toArray) := by
      match l, vs, g2, g3 with
      | [], [], _, _ => exact .tup [] [] rfl fun i c v e => by simp at e
      | [c], [v], _, g3 => exact g3 0 c v rfl rfl
      | c1 :: c2 :: l, v1 :: v2 :: vs, hlen, g3 =>
        rw [dif_neg (by simp)]
        exact .tup _ _ hlen g3
    refine ⟨_, hrun, _, ⟨γ', ?_⟩, h3⟩
    have hback : Sim C γ' { reg := s.reg, own := s'.own } a w' :=
      ⟨hs.defers, hs.size, fun r => hs'.kept _ _ (.inr ⟨r, rfl, rfl⟩), hs'.sites, hs'.inj, hs'.base, hs'.below, hs'.top, fun c v hk => hs'.kept c v (.inl hk)⟩
    exact hback.put hN hrep
  rintro e a' w' ⟨s', hs', hq⟩
  cases e
  case normal => exact fin hs' hq
  case ret => exact fin hs' hq
  all_goals exact hq.elim
end
end Go.Pv


namespace Go.Pv
open Go.RowKit
variable [Globs]
section
variable {P : Program} {L : Lay} {Q : Exit → St → Prop} {K : St → Prop} {s : St} {ops : Array Oper} {rest : List Oper} {o : Oper}
theorem POp.mono' {K' : St → Prop} (hk : ∀ s, K s → K' s) (h : POp P L s o K) : POp P L s o K' := by
  rcases h with ⟨pv, h1, h2⟩ | ⟨s', h1, h2⟩ | h1
  · exact .inl ⟨pv, h1, hk _ h2⟩
  · exact .inr (.inl ⟨s', h1, hk _ h2⟩)
  · exact .inr (.inr (h1.mono hk))
theorem pw_seq {x y : Code} (h : PWP P L x (XThen (fun s' => PWP P L y Q s') Q) s) : PWP P L (.seq x y) Q s := h
theorem pw_skip (h : Q .normal s) : PWP P L .skip Q s := Gh.of h
theorem pw_block {id : Nat} {c : Code} (h : PWP P L c (XBlock id Q) s) : PWP P L (.block id c) Q s := h
theorem pw_ret (h : Q .ret s) : PWP P L .ret Q s := Gh.of h
theorem pw_exit {id : Nat} (h : Q (.exit id) s) : PWP P L (.exit id) Q s := Gh.of h
theorem pw_region {id : Nat} {l : List Oper} (h : POps P L l.toArray (Q .normal) l s) : PWP P L (.region id l.toArray false) Q s := Gh.of (.inl h)
theorem psem_app {K : St → Prop} : ∀ (l1 l2 : List Oper) (s : St), POps P L ops (fun s' => PSem P L ops K l2 s') l1 s → PSem P L ops K (l1 ++ l2) s
  | [], _, _, h => h
  | _ :: l1, l2, _, h => h.imp (fun x => ⟨x.1, .inl (x.2.mono' fun s' h' => psem_app l1 l2 s' h')⟩) (fun x => ⟨x.1, psem_app l1 l2 _ x.2⟩)
theorem pw_regionS {id : Nat} {l : List Oper} (n : Nat) (h : POps P L l.toArray (fun s' => PSem P L l.toArray (Q .normal) (l.drop n) s') (l.take n) s) : PWP P L (.region id l.toArray false) Q s := by
  have := psem_app (K := Q .normal) (l.take n) (l.drop n) s h
  rw [List.take_append_drop] at this
  exact Gh.of (.inr (.inl this))
theorem psem_sm (hg : o.guard = none) (h : Sm P L s o (PSem P L ops K rest)) : PSem P L ops K (o :: rest) s := .inl ⟨.none hg, .inr h⟩
theorem psem_ops (h : POps P L ops K rest s) : PSem P L ops K rest s := by
  have := psem_app (P := P) (L := L) (ops := ops) (K := K) rest [] s h
  rwa [List.append_nil] at this
theorem PQuiet.mono {K K' : St → Prop} (hk : ∀ s, K s → K' s) : ∀ (l : List Oper) (s : St), PQuiet P L ops K l s → PQuiet P L ops K' l s
  | [], s, h => hk s h
  | _ :: l, _, h => h.imp (fun ⟨x, pv, y, z⟩ => ⟨x, pv, y, PQuiet.mono hk l _ z⟩) (fun x => ⟨x.1, PQuiet.mono hk l _ x.2⟩)
theorem pw_draw {id : Nat} {l : List Oper} (n : Nat) (ds : List Nat) (hok : drawOk l.toArray n ds = true) (h : PQuiet P L l.toArray (fun s' => POps P L l.toArray (Q .normal) (l.drop n) s') (l.take n) s) : PWP P L (.region id l.toArray true) Q s :=
  Gh.of (Or.inl ⟨n, ds, hok, PQuiet.mono (fun _ h => psem_ops h) _ _ h⟩)
theorem pw_drawS {id : Nat} {l : List Oper} (n : Nat) (ds : List Nat) (hok : drawOk l.toArray n ds = true) (h : PQuiet P L l.toArray (fun s' => PSem P L l.toArray (Q .normal) (l.drop n) s') (l.take n) s) : PWP P L (.region id l.toArray true) Q s :=
  Gh.of (Or.inl ⟨n, ds, hok, h⟩)
theorem pw_draw3 {id : Nat} {l : List Oper} (Z ch : List Nat) (hok : drawOk3 l.toArray ch = true) (h : P3 P L l.toArray Z (zin ch) (Q .normal) 0 l s) : PWP P L (.region id l.toArray true) Q s :=
  Gh.of (Or.inr (Or.inr (Or.inl ⟨Z, ch, hok, h⟩)))
theorem pw_draw2 {id : Nat} {l : List Oper} (n m : Nat) (ds F : List Nat) (hok : drawOk2 l.toArray n m ds F = true) (hnone : (ds.drop n).all (fun d => (s.own d).2.isNone) = true) (h : PQuiet P L l.toArray (fun s' => FD l.toArray (n + m) F s' = true ∧ POps P L l.toArray (Q .normal) (l.drop n) s') (l.take n) s) : PWP P L (.region id l.toArray true) Q s :=
  Gh.of (Or.inr (Or.inl ⟨n, m, ds, F, hok, fun d hd => by simpa using List.all_eq_true.1 hnone d hd, h⟩))
theorem pw_cond {c : Operand} {x y : Code} {b : Bool} (hc : s.ev c = .bool b) (h1 : b = true → PWP P L x Q s) (h2 : b = false → PWP P L y Q s) : PWP P L (.cond c x y) Q s := Gh.of ⟨b, hc, h1, h2⟩
theorem pw_true {c : Operand} {x y : Code} (hc : s.ev c = .bool true) (h1 : PWP P L x Q s) : PWP P L (.cond c x y) Q s := Gh.of ⟨true, hc, fun _ => h1, fun h => by cases h⟩
theorem pw_false {c : Operand} {x y : Code} (hc : s.ev c = .bool false) (h1 : PWP P L y Q s) : PWP P L (.cond c x y) Q s := Gh.of ⟨false, hc, (fun h => by cases h), fun _ => h1⟩
theorem x_norm {next : St → Prop} (h : next s) : XThen next Q .normal s := h
theorem x_exit {next : St → Prop} {id : Nat} (h : Q (.exit id) s) : XThen next Q (.exit id) s := h
theorem xb_norm {id : Nat} (h : Q .normal s) : XBlock id Q .normal s := h
theorem xb_here {id : Nat} (h : Q .normal s) : XBlock id Q (.exit id) s := by show if id = id then _ else _; rw [if_pos rfl]; exact h
theorem xb_away {id id' : Nat} (hne : Nat.beq id' id = false) (h : Q (.exit id') s) : XBlock id Q (.exit id') s := by
  show if id' = id then _ else _
  rw [if_neg (fun e => by subst e; simp at hne)]; exact h
variable {d e j : Nat} {op : Op} {ty : TypeId} {pos : String} {af : Array Edge} {want : Bool}
theorem ps_nil (h : K s) : POps P L ops K [] s := h
theorem ps_run (h : POp P L s ⟨some d, op, ty, pos, af, none⟩ (POps P L ops K rest)) : POps P L ops K (⟨some d, op, ty, pos, af, none⟩ :: rest) s := .inl ⟨.none rfl, h⟩
theorem ps_run0 (h : POp P L s ⟨none, op, ty, pos, af, none⟩ (POps P L ops K rest)) : POps P L ops K (⟨none, op, ty, pos, af, none⟩ :: rest) s := .inl ⟨.none rfl, h⟩
theorem pq_nil (h : K s) : PQuiet P L ops K [] s := h
theorem ps_v {pv : PV} {Cd : Prop} (hq : qv L s op = some (pv, Cd)) (hc : Cd) (h : POps P L ops K rest (s.putR d pv)) : POps P L ops K (⟨some d, op, ty, pos, af, none⟩ :: rest) s := ps_run (.inl ⟨pv, .v hq hc, h⟩)
theorem op_v {pv : PV} {Cd : Prop} {g : Option (Nat × Bool)} (hq : qv L s op = some (pv, Cd)) (hc : Cd) (h : K (s.putR d pv)) : POp P L s ⟨some d, op, ty, pos, af, g⟩ K := .inl ⟨pv, .v hq hc, h⟩
theorem op_q {pv : PV} {g : Option (Nat × Bool)} (hq : QOp P L s ⟨some d, op, ty, pos, af, g⟩ pv) (h : K (s.putR d pv)) : POp P L s ⟨some d, op, ty, pos, af, g⟩ K := .inl ⟨pv, hq, h⟩
theorem ps_q {pv : PV} (hq : QOp P L s ⟨some d, op, ty, pos, af, none⟩ pv) (h : POps P L ops K rest (s.putR d pv)) : POps P L ops K (⟨some d, op, ty, pos, af, none⟩ :: rest) s := ps_run (.inl ⟨pv, hq, h⟩)
theorem pq_q {pv : PV} (hq : QOp P L s ⟨some d, op, ty, pos, af, none⟩ pv) (h : PQuiet P L ops K rest (s.putR d pv)) : PQuiet P L ops K (⟨some d, op, ty, pos, af, none⟩ :: rest) s := .inl ⟨.none rfl, pv, hq, h⟩
section ops
variable {g : Option (Nat × Bool)} {T : TypeId} {x y : Operand} {r re : LRow} {E : TypeId}
theorem q_idx {ix : Operand} {rows : List (List PV)} {row : List PV} {k : IntKind} {n : Int} (hr : L T = some r) (hs : r.sh = .sl E) (hre : L E = some re) (hx : s.ev x = .sl rows) (hix : s.ev ix = .int k n) (h0 : 0 ≤ n) (hrow : rows[n.toNat]? = some row)
    (hlen : row.length = re.size) : QOp P L s ⟨some d, .indexAddr T x ix, ty, pos, af, g⟩ (.dref row 0) := .idx rfl hr hs hre (.inl hx) hix h0 hrow hlen
theorem q_idxm {α : Type} {enc : α → List PV} {l : List α} {a : α} {ix : Operand} {k : IntKind} {n : Int} (hr : L T = some r) (hs : r.sh = .sl E) (hre : L E = some re) (hx : s.ev x = .sl (l.map enc)) (hix : s.ev ix = .int k n) (h0 : 0 ≤ n) (hget : l[n.toNat]? = some a)
    (hlen : (enc a).length = re.size) : QOp P L s ⟨some d, .indexAddr T x ix, ty, pos, af, g⟩ (.dref (enc a) 0) := q_idx hr hs hre hx hix h0 (by rw [List.getElem?_map, hget]; rfl) hlen
theorem q_idxA {ix : Operand} {k : IntKind} {n : Int} {st gn i m : Nat} {c : Cont} (hr : L T = some r) (hs : r.sh = .sl E) (hre : L E = some re) (hx : s.ev x = .als st gn i m) (hown : s.own st = (gn, some c)) (hsz : c.sz = re.size) (hix : s.ev ix = .int k n) (h0 : 0 ≤ n) (hlt : n < m) :
    QOp P L s ⟨some d, .indexAddr T x ix, ty, pos, af, g⟩ (.ptr st gn (i + n.toNat) 0) := .idxA rfl hr hs hre hx hown hsz hix h0 hlt
theorem q_slA {lo hi : Option Operand} {st gn i m : Nat} {c : Cont} (l h : Nat) (hr : L T = some r) (hs : r.sh = .sl E) (hre : L E = some re) (hx : s.ev x = .als st gn i m) (hown : s.own st = (gn, some c)) (hsz : c.sz = re.size) (hlo : bnd s lo 0 l) (hhi : bnd s hi m h) (hlt : l < h) (hle : h ≤ m) :
    QOp P L s ⟨some d, .slice T x lo hi none, ty, pos, af, g⟩ (.als st gn (i + l) (h - l)) := .slA rfl hr hs hre hx hown hsz hlo hhi hlt hle
theorem q_slE {lo hi : Option Operand} {st gn i m : Nat} {c : Cont} (l : Nat) (hr : L T = some r) (hs : r.sh = .sl E) (hre : L E = some re) (hx : s.ev x = .als st gn i m) (hown : s.own st = (gn, some c)) (hlo : bnd s lo 0 l) (hhi : bnd s hi m l) (hle : l ≤ m) :
    QOp P L s ⟨some d, .slice T x lo hi none, ty, pos, af, g⟩ (.sl []) := .slE rfl hr hs hre hx hown hlo hhi hle
theorem q_seqN {x y : Operand} {T' : TypeId} {ks : List Sh} {us vs : List PV} {r : Bool} (hT : eqT P T ks = true) (hx : s.ev x = .agg us) (hy : s.ev y = .agg vs) (hl : leqs ks us vs = some r) :
    QOp P L s ⟨some d, .binOp .neq T x y T', ty, pos, af, g⟩ (.bool (!r)) := .seq (neg := true) rfl hT hx hy hl
theorem q_ldp {st gn i jj : Nat} {c : Cont} {row : List PV} {pv : PV} (hr : L T = some r) (hx : s.ev x = .ptr st gn i jj) (hown : s.own st = (gn, some c)) (hrow : c.rows[i]? = some row) (hp : part r row jj = some pv) :
    QOp P L s ⟨some d, .load T x, ty, pos, af, g⟩ pv := .ldp rfl hr hx hown hrow hp
theorem q_call {fop : Operand} {args : Array Operand} {tys : Array TypeId} {f : FuncId} {caps pargs : List PV} {Cd : Prop} {b : Fl} {rr : PV} (hf : s.ev fop = .clo f caps) (hret : Ret P .shared f pargs rr) (hres : resL (res s 4) (args.toList.map s.ev ++ caps) = some (pargs, Cd, b)) (hc : Cd) (hb : b.cl = true) :
    QOp P L s ⟨some d, .call ⟨.value fop, args, tys⟩, ty, pos, af, g⟩ rr := .call rfl hf hres hc hb hret
theorem q_callF {fop : Operand} {args : Array Operand} {tys : Array TypeId} {f : FuncId} {caps pargs : List PV} {Cd : Prop} {b : Fl} {rr rf : PV} (hf : s.ev fop = .clo f caps) (hret : Ret P .fresh f pargs rr) (hres : resL (res s 4) (args.toList.map s.ev ++ caps) = some (pargs, Cd, b)) (hc : Cd) (hrf : rr.frs.fz = some rf) :
    QOp P L s ⟨some d, .call ⟨.value fop, args, tys⟩, ty, pos, af, g⟩ rf := by
  rw [PV.fz_eq] at hrf
  have := QOp.callF (P := P) (L := L) (o := ⟨some d, .call ⟨.value fop, args, tys⟩, ty, pos, af, g⟩) rfl hf hres hc hret
  rwa [Option.some.inj hrf] at this
theorem q_callP {fop : Operand} {args : Array Operand} {tys : Array TypeId} {f : FuncId} {caps pargs : List PV} {Cd : Prop} {b : Fl} {rr rf : PV} (hf : s.ev fop = .clo f caps) (hret : Ret P .shared f pargs rr) (hres : resL (res s 4) (args.toList.map s.ev ++ caps) = some (pargs, Cd, b)) (hc : Cd) (hfl : rr.flat = true) (hrf : rr.frs.fz = some rf) :
    QOp P L s ⟨some d, .call ⟨.value fop, args, tys⟩, ty, pos, af, g⟩ rf := q_callF hf (hret.fresh_of_flat hfl) hres hc hrf
theorem o_box {v : PV} {gn : Nat} {oc : Option Cont} {Pr : Prop} (hx : (s.ev x).fz = some v) (hown : s.own d = (gn, oc)) (h1 : oneL s v.cells = some Pr) (h2 : Pr) (h0 : Nat.blt 0 v.cells.length = true)
    (h : K ((s.setOwn d (gn + 1) (some ⟨T, v.cells.length, [v.cells], 2⟩)).putR d (.ptr d (gn + 1) 0 0))) : POp P L s ⟨some d, .box T x, ty, pos, af, g⟩ K := by
  rw [PV.fz_eq] at hx
  have hx' := Option.some.inj hx
  refine .inr (.inl ⟨_, .box rfl rfl (by rw [hx']; exact h1) h2 (by rw [hx']; simpa using h0), ?_⟩)
  rw [hx', St.fin, hown]; exact h
theorem o_alloc {z : List PV} {gn : Nat} {oc : Option Cont} (hr : L T = some r) (hz : r.zero = some z) (hown : s.own d = (gn, oc)) (h0 : Nat.blt 0 z.length = true)
    (h : K ((s.setOwn d (gn + 1) (some ⟨T, z.length, [z], 2⟩)).putR d (.ptr d (gn + 1) 0 0))) : POp P L s ⟨some d, .alloc T, ty, pos, af, g⟩ K := by
  refine .inr (.inl ⟨_, .alloc rfl rfl hr hz (by simpa using h0), ?_⟩)
  rw [St.fin, hown]; exact h
theorem o_store1 {v : PV} {k gn jj : Nat} {tc : TypeId} {sz : Nat} {row new : List PV} {Pr : Prop} (hr : L T = some r) (hx : s.ev x = .ptr k gn 0 jj) (hown : s.own k = (gn, some ⟨tc, sz, [row], 2⟩)) (hv : (s.ev y).fz = some v) (h1 : oneL s v.cells = some Pr) (h2 : Pr)
    (hsz : v.cells.length = r.size) (hle : Nat.ble (jj + r.size) row.length = true) (hnew : splc row jj v.cells = new) (h : K (s.setOwn k gn (some ⟨tc, sz, [new], 2⟩))) : POp P L s ⟨none, .store T x y, ty, pos, af, g⟩ K := by
  rw [PV.fz_eq] at hv
  have hv' := Option.some.inj hv
  refine .inr (.inl ⟨_, .store 2 rfl rfl hr hx hown (by rfl) (by rw [hv']; exact h1) h2 (by rw [hv']; exact hsz) (by simpa using hle) (Nat.le_refl _) (by rw [List.all_eq_true]; intro c _; cases c <;> rfl), ?_⟩)
  have hm : ∀ l : List PV, l.map (nrm 2) = l := by intro l; induction l with | nil => rfl | cons c l ih => rw [List.map_cons, ih]; cases c <;> rfl
  rw [hv', hm]
  have : ([row] : List (List PV)).set 0 (splc row jj v.cells) = [new] := by rw [hnew]; rfl
  rw [this]; exact h
theorem o_store {v : PV} {k gn i jj kd kd' : Nat} {tc : TypeId} {sz : Nat} {rows : List (List PV)} {row : List PV} {Pr : Prop} (hr : L T = some r) (hx : s.ev x = .ptr k gn i jj) (hown : s.own k = (gn, some ⟨tc, sz, rows, kd⟩)) (hrow : rows[i]? = some row) (hv : (s.ev y).fz = some v) (h1 : oneL s v.cells = some Pr) (h2 : Pr)
    (hsz : v.cells.length = r.size) (hle : Nat.ble (jj + r.size) row.length = true) (hk : Nat.ble kd kd' = true) (hkd : v.cells.all (kOk kd') = true) (h : K (s.setOwn k gn (some ⟨tc, sz, rows.set i (splc row jj (v.cells.map (nrm kd'))), kd'⟩))) : POp P L s ⟨none, .store T x y, ty, pos, af, g⟩ K := by
  rw [PV.fz_eq] at hv
  have hv' := Option.some.inj hv
  refine .inr (.inl ⟨_, .store kd' rfl rfl hr hx hown hrow (by rw [hv']; exact h1) h2 (by rw [hv']; exact hsz) (by simpa using hle) (by simpa using hk) (by rw [hv']; exact hkd), ?_⟩)
  rw [hv']; exact h
theorem o_appN {gn k2 : Nat} {oc : Option Cont} {rows2 : List (List PV)} {Cd2 : Prop} (hr : L T = some r) (hs : r.sh = .sl E) (hre : L E = some re) (hz : re.zero.isSome = true) (hsz : Nat.blt 0 re.size = true) (hx : s.ev x = .nil) (hq : srcOf s (s.ev y) = some (rows2, k2, Cd2)) (hown : s.own d = (gn, oc))
    (hc2 : Cd2) (hlen : ∀ row ∈ rows2, row.length = re.size) (hb : rows2.length * re.bytes ≤ 140737488355328) (h63 : rows2.length ≤ 9223372036854775807) (h : K ((s.setOwn d (gn + 1) (some ⟨E, re.size, rows2, k2⟩)).putR d (.als d (gn + 1) 0 rows2.length))) :
    POp P L s ⟨some d, .call ⟨.builtin .append, #[x, y], #[T, T]⟩, ty, pos, af, g⟩ K := by
  refine .inr (.inl ⟨_, .appN rfl rfl hr hs hre hz (by simpa using hsz) hx hq hc2 hlen hb h63, ?_⟩)
  rw [St.fin, hown]; exact h
theorem o_app {k gn m k1 k2 : Nat} {tc : TypeId} {sz : Nat} {rows1 rows2 : List (List PV)} {Cd2 : Prop} (kd : Nat) (hr : L T = some r) (hs : r.sh = .sl E) (hre : L E = some re) (hz : re.zero.isSome = true) (hsz : Nat.blt 0 re.size = true) (hx : s.ev x = .als k gn 0 m) (hown : s.own k = (gn, some ⟨tc, sz, rows1, k1⟩))
    (hcs : sz = re.size) (hct : tc = E) (hq : srcOf s (s.ev y) = some (rows2, k2, Cd2)) (hm : m = rows1.length) (hc2 : Cd2) (hlen : ∀ row ∈ rows2, row.length = re.size) (hk1 : Nat.ble k1 kd = true) (hk2 : Nat.ble k2 kd = true) (hb : (rows1.length + rows2.length) * re.bytes ≤ 140737488355328) (h63 : rows1.length + rows2.length ≤ 9223372036854775807)
    (h : K ((s.setOwn k (gn + 1) (some ⟨E, re.size, rows1 ++ rows2, kd⟩)).putR d (.als k (gn + 1) 0 (rows1 ++ rows2).length))) :
    POp P L s ⟨some d, .call ⟨.builtin .append, #[x, y], #[T, T]⟩, ty, pos, af, g⟩ K := by
  refine .inr (.inl ⟨_, .app kd rfl rfl hr hs hre hz (by simpa using hsz) hx hown hm hcs hct hq hc2 hlen (by simpa using hk1) (by simpa using hk2) hb h63, ?_⟩)
  rw [St.fin, hown]; exact h
theorem o_make {l c : Operand} {kl kc : IntKind} {n : Int} {z : List PV} {gn : Nat} {oc : Option Cont} (hr : L T = some r) (hs : r.sh = .sl E) (hre : L E = some re) (hz : re.zero = some z) (hsz : Nat.blt 0 re.size = true) (hl : s.ev l = .int kl n) (hc : s.ev c = .int kc n) (hown : s.own d = (gn, oc))
    (h0 : 0 ≤ n) (hb : (re.bytes : Int) * n ≤ 140737488355328) (h63 : n ≤ 9223372036854775807) (h : K ((s.setOwn d (gn + 1) (some ⟨E, re.size, List.replicate n.toNat z, 0⟩)).putR d (.als d (gn + 1) 0 (List.replicate n.toNat z).length))) :
    POp P L s ⟨some d, .makeSlice T l c, ty, pos, af, g⟩ K := by
  refine .inr (.inl ⟨_, .make rfl rfl hr hs hre hz (by simpa using hsz) hl hc h0 (Int.le_refl _) hb h63, ?_⟩)
  rw [St.fin, hown]; exact h
def litRows (s : St) (kd : Nat) : List (Nat × Operand) → Option (List (List PV))
  | [] => some []
  | p :: ps => match (s.ev p.2).fz with
    | some v => (match litRows s kd ps with | some rs => some (v.cells.map (nrm kd) :: rs) | none => none)
    | none => none
theorem litRows_eq (kd : Nat) : ∀ (ps : List (Nat × Operand)) (rows : List (List PV)), litRows s kd ps = some rows → rows = ps.map fun p => (s.ev p.2).cells.map (nrm kd)
  | [], rows, h => by simp [litRows] at h; exact h
  | p :: ps, rows, h => by
    simp only [litRows, PV.fz_eq] at h
    split at h
    · rename_i rs hrs
      have := litRows_eq kd ps rs hrs
      have h' := Option.some.inj h
      rw [← h', this]; rfl
    · cases h
def nats : Nat → Nat → List Nat
  | _, 0 => []
  | k, n + 1 => k :: nats (k + 1) n
theorem nats_range : ∀ (n k : Nat), nats k n = (List.range n).map (k + ·)
  | 0, k => rfl
  | n + 1, k => by
    rw [nats, nats_range n (k + 1), List.range_succ_eq_map]
    simp only [List.map_cons, List.map_map, Nat.add_zero]
    congr 1
    apply List.map_congr_left
    intro i _
    simp; omega
theorem o_slit {n gn : Nat} {ps : List (Nat × Operand)} {oc : Option Cont} {rows : List (List PV)} {Pr : Prop} (kd : Nat) (hr : L T = some r) (hs : r.sh = .sl E) (hre : L E = some re) (hz : re.zero.isSome = true) (hsz : Nat.blt 0 re.size = true) (hown : s.own d = (gn, oc)) (hrows : litRows s kd ps = some rows)
    (hn : ps.map (·.1) = nats 0 n) (hN : Nat.ble (n * re.size) 16777216 = true) (hcells : ps.all (fun p => Nat.beq (s.ev p.2).cells.length re.size) = true) (h1 : oneL s (ps.flatMap fun p => (s.ev p.2).cells) = some Pr) (h2 : Pr) (hkd : (ps.flatMap fun p => (s.ev p.2).cells).all (kOk kd) = true)
    (h : K ((s.setOwn d (gn + 1) (some ⟨E, re.size, rows, kd⟩)).putR d (.als d (gn + 1) 0 rows.length))) : POp P L s ⟨some d, .buildSlice T n ps.toArray, ty, pos, af, g⟩ K := by
  refine .inr (.inl ⟨_, .slit kd rfl rfl hr hs hre hz (by simpa using hsz) (by rw [nats_range] at hn; simpa using hn) (by simpa using hN) (fun p hp => ?_) h1 h2 hkd, ?_⟩)
  · have := List.all_eq_true.1 hcells p hp
    simpa using this
  · rw [St.fin, hown]
    rw [litRows_eq kd ps rows hrows] at h
    exact h
theorem o_mkmap {gn : Nat} {oc : Option Cont} (hown : s.own d = (gn, oc)) (h : K ((s.setOwn d (gn + 1) (some ⟨T, 0, [], 0⟩)).putR d (.mp d (gn + 1)))) : POp P L s ⟨some d, .makeMap T none, ty, pos, af, g⟩ K := by
  refine .inr (.inl ⟨_, .makeMap rfl rfl, ?_⟩)
  rw [St.fin, hown]; exact h
theorem o_mset {V : TypeId} {x y v : Operand} {k gn kd : Nat} {rows : List (List PV)} {T' : TypeId} {key pv : PV} (kd' : Nat) (hr : L T = some r) (hs : r.sh = .map E V) (hre : L E = some re) (hx : s.ev x = .mp k gn) (hown : s.own k = (gn, some ⟨T', 0, rows, kd⟩)) (hk1 : Nat.ble kd kd' = true) (hk3 : Nat.blt kd' 3 = true)
    (hy : (s.ev y).fz = some key) (hky : re.sh.key key = true) (hkeys : keyed re.sh rows = true) (hv : (s.ev v).fz = some pv) (hkd : kOk kd' pv = true) (h : K (s.setOwn k gn (some ⟨T', 0, mput key (nrm kd' pv) rows, kd'⟩))) : POp P L s ⟨none, .mapUpdate T x y v, ty, pos, af, g⟩ K := by
  rw [PV.fz_eq] at hy hv
  have hy := Option.some.inj hy
  have hv := Option.some.inj hv
  exact .inr (.inl ⟨_, .mapSet kd' rfl rfl hr hs hre hx hown (by simpa using hk1) (by simpa using hk3) (by rw [hy]; exact hky) hkeys (by rw [hv]; exact hkd), by rw [hy, hv]; exact h⟩)
theorem q_look {V : TypeId} {rv : LRow} {k gn kd : Nat} {rows : List (List PV)} {T' : TypeId} {key z : PV} (hr : L T = some r) (hs : r.sh = .map E V) (hre : L E = some re) (hrv : L V = some rv) (hz : rv.zero = some [z]) (hz1 : zone P V = true) (hx : s.ev x = .mp k gn) (hown : s.own k = (gn, some ⟨T', 0, rows, kd⟩)) (hkd : Nat.blt kd 3 = true)
    (hy : (s.ev y).fz = some key) (hky : re.sh.key key = true) (hkeys : keyed re.sh rows = true) : QOp P L s ⟨some d, .lookup T x y false, ty, pos, af, g⟩ (mval z key rows) := by
  rw [PV.fz_eq] at hy
  have hy := Option.some.inj hy
  have := QOp.look (P := P) (L := L) (s := s) (o := ⟨some d, .lookup T x y false, ty, pos, af, g⟩) rfl hr hs hre hrv hz hz1 hx hown (by simpa using hkd) (by rw [hy]; exact hky) hkeys
  rw [hy] at this
  exact this
theorem q_b2s {src : TypeId} {rs : LRow} {l : List UInt8} (hrs : L src = some rs) (hr : L T = some r) (hs : rs.sh = .sl E) (hre : L E = some re) (hsh : re.sh = .int .u8) (hrd : r.sh = .str) (hl : l ≠ []) (hx : s.ev x = .fsl (l.map fun c => [.int .u8 c.toNat])) : QOp P L s ⟨some d, .convert src T x, ty, pos, af, g⟩ (.str l) :=
  .b2s rfl hrs hr hs hre hsh hrd hl (.inl hx)
theorem q_entry {k gn : Nat} {T' : TypeId} {ck cv : PV} {rem : List PV} (hx : s.ev x = .mi k gn) (hown : s.own k = (gn, some ⟨T', 0, [.agg [ck, cv] :: rem], 3⟩)) : QOp P L s ⟨some d, .entry x, ty, pos, af, g⟩ (.tup [ck, cv]) :=
  .entry rfl hx hown rfl rfl
theorem o_range {V : TypeId} {rows : List (List PV)} {gn : Nat} {oc : Option Cont} (hr : L T = some r) (hs : r.sh = .map E V) (hx : s.ev x = .mapd rows) (hown : s.own d = (gn, oc))
    (h : K ((s.setOwn d (gn + 1) (some ⟨T, 0, pairs rows, 3⟩)).putR d (.mi d (gn + 1)))) : POp P L s ⟨some d, .range T x, ty, pos, af, g⟩ K := by
  refine .inr (.inl ⟨_, .range rfl rfl hr hs hx, ?_⟩)
  rw [St.fin, hown]; exact h
theorem o_next {k gn : Nat} {T' : TypeId} {last : PV} {rem : List PV} (hx : s.ev x = .mi k gn) (hown : s.own k = (gn, some ⟨T', 0, [last :: rem], 3⟩))
    (h0 : rem = [] → K (s.putR d (.tup [.bool false]))) (h1 : ∀ i ck cv, rem[i]? = some (.agg [ck, cv]) → K ((s.setOwn k gn (some ⟨T', 0, [.agg [ck, cv] :: rem.eraseIdx i], 3⟩)).putR d (.tup [.bool true, ck, cv]))) : POp P L s ⟨some d, .next x false, ty, pos, af, g⟩ K :=
  .inr (.inr (.next rfl rfl hx hown rfl rfl h0 h1))
end ops
theorem POp.mono {K' : St → Prop} (hk : ∀ s, K s → K' s) (h : POp P L s o K) : POp P L s o K' := by
  rcases h with ⟨pv, h1, h2⟩ | ⟨s', h1, h2⟩ | h1
  · exact .inl ⟨pv, h1, hk _ h2⟩
  · exact .inr (.inl ⟨s', h1, hk _ h2⟩)
  · exact .inr (.inr (h1.mono hk))
theorem POps.mono {K' : St → Prop} (hk : ∀ s, K s → K' s) : ∀ (l : List Oper) (s : St), POps P L ops K l s → POps P L ops K' l s
  | [], s, h => hk s h
  | _ :: l, _, h => h.imp (fun x => ⟨x.1, x.2.mono (fun s' h' => POps.mono hk l s' h')⟩) (fun x => ⟨x.1, POps.mono hk l _ x.2⟩)
theorem PSem.mono {K' : St → Prop} (hk : ∀ s, K s → K' s) : ∀ (l : List Oper) (s : St), PSem P L ops K l s → PSem P L ops K' l s
  | [], s, h => hk s h
  | _ :: l, _, h => h.imp (fun x => ⟨x.1, x.2.imp (POp.mono' fun s' h' => PSem.mono hk l s' h') (fun y C a w Q hG hs hN => Oper.wp_mono (fun _ _ ⟨s', e1, e2⟩ => ⟨s', e1, PSem.mono hk l s' e2⟩) (y C a w Q hG hs hN))⟩) (fun x => ⟨x.1, PSem.mono hk l _ x.2⟩)
theorem PSemI.mono {K' : St → Prop} (hk : ∀ s, K s → K' s) : ∀ (l : List Oper) (s : St), PSemI P L ops K l s → PSemI P L ops K' l s
  | [], s, h => hk s h
  | _ :: l, _, h => h.imp (fun x => ⟨x.1, x.2.imp (POp.mono' fun s' h' => PSemI.mono hk l s' h') (Or.imp (fun y C a w Q hG hs hN => Oper.wp_mono (fun _ _ ⟨s', e1, e2⟩ => ⟨s', e1, PSemI.mono hk l s' e2⟩) (y C a w Q hG hs hN))
      (fun y ro n C a w Q hG hs hN hL => Oper.wpIn_mono (fun _ _ ⟨s', e1, e2⟩ => ⟨s', e1, PSemI.mono hk l s' e2⟩) (y ro n C a w Q hG hs hN hL)))⟩) (fun x => ⟨x.1, PSemI.mono hk l _ x.2⟩)
theorem P3.mono {K' : St → Prop} (hk : ∀ s, K s → K' s) {Z : List Nat} {cls : Nat → Bool} : ∀ (l : List Oper) (i : Nat) (s : St), P3 P L ops Z cls K i l s → P3 P L ops Z cls K' i l s
  | [], _, s, h => hk s h
  | _ :: l, i, _, ⟨s', h1, h2⟩ => ⟨s', h1, P3.mono hk l (i + 1) s' h2⟩
theorem PTree.mono {K' : St → Prop} (hk : ∀ s, K s → K' s) : ∀ (f : Nat) (listed : Array Bool) (s : St), PTree P L ops K f listed s → PTree P L ops K' f listed s
  | 0, _, s, h => ⟨h.1, hk s h.2⟩
  | f + 1, _, _, h => ⟨fun e => hk _ (h.1 e), fun i hi => let ⟨o, ho, hs⟩ := h.2 i hi; ⟨o, ho, PSem.mono (PTree.mono hk f _) _ _ hs⟩⟩
theorem Gh.mono {K K' : St → Prop} (hk : ∀ s, K s → K' s) {s : St} (h : Gh K s) : Gh K' s := let ⟨s1, h1, h2⟩ := h; ⟨s1, h1, hk s1 h2⟩
theorem PWP.mono {c : Code} : ∀ {Q Q' : Exit → St → Prop}, (∀ e s, Q e s → Q' e s) → ∀ s, PWP P L c Q s → PWP P L c Q' s := by
  induction c with
  | skip => intro Q Q' hq s h; exact Gh.mono (hq _) h
  | region id ops d =>
    intro Q Q' hq s h
    refine Gh.mono (fun s h => ?_) h
    cases d with
    | true =>
      rcases h with ⟨n, ds, h1, h2⟩ | ⟨n, m, ds, F, h1, h3, h2⟩ | ⟨Z, ch, h1, h2⟩ | h2
      · exact Or.inl ⟨n, ds, h1, PQuiet.mono (fun s' h' => PSem.mono (hq _) _ s' h') _ _ h2⟩
      · exact Or.inr (Or.inl ⟨n, m, ds, F, h1, h3, PQuiet.mono (fun s' h' => ⟨h'.1, POps.mono (hq _) _ s' h'.2⟩) _ _ h2⟩)
      · exact Or.inr (Or.inr (Or.inl ⟨Z, ch, h1, P3.mono (hq _) _ _ _ h2⟩))
      · exact Or.inr (Or.inr (Or.inr (PTree.mono (hq _) _ _ _ h2)))
    | false => exact h.imp (POps.mono (hq _) _ s) (Or.imp (PSem.mono (hq _) _ s) (PSemI.mono (hq _) _ s))
  | seq x y ihx ihy =>
    intro Q Q' hq s h
    refine ihx ?_ s h
    intro e s' he
    cases e
    case normal => exact ihy hq s' he
    all_goals exact hq _ _ he
  | cond c x y ihx ihy =>
    intro Q Q' hq s h
    refine Gh.mono (fun s h => ?_) h
    obtain ⟨b, h1, h2, h3⟩ := h
    exact ⟨b, h1, fun hb => ihx hq s (h2 hb), fun hb => ihy hq s (h3 hb)⟩
  | block id c ih =>
    intro Q Q' hq s h
    refine ih ?_ s h
    intro e s' he
    cases e
    case exit id' =>
      show if id' = id then _ else _
      have he' : if id' = id then Q .normal s' else Q (.exit id') s' := he
      split
      · rename_i hid; rw [if_pos hid] at he'; exact hq _ _ he'
      · rename_i hid; rw [if_neg hid] at he'; exact hq _ _ he'
    all_goals exact hq _ _ he
  | loop c ih =>
    intro Q Q' hq s h
    refine Gh.mono (fun s h => ?_) h
    obtain ⟨I, μ, h0, hr⟩ := h
    refine ⟨I, μ, h0, fun s1 hs1 => ih ?_ s1 (hr s1 hs1)⟩
    intro e s' he
    cases e
    case normal => exact he
    all_goals exact hq _ _ he
  | exit id => intro Q Q' hq s h; exact Gh.mono (hq _) h
  | ret => intro Q Q' hq s h; exact Gh.mono (hq _) h
  | label l => intro Q Q' hq s h; exact Gh.mono (hq _) h
  | goto l => intro Q Q' hq s h; exact h.elim
  | rangeFunc => intro Q Q' hq s h; exact Gh.mono (fun s h n C a w hG hs hc hQ => wpIn_mono (h n C a w hG hs hc fun s hs => hQ s (hq _ s hs)) fun e a w ⟨C', s', hE, h', hq'⟩ => ⟨C', s', hE, h', hq _ _ hq'⟩) h
  | scope => intro Q Q' hq s h; exact h.elim
  | refuse => intro Q Q' hq s h; exact h.elim
def St.over (s : St) (l : List (Nat × PV)) (m : List (Nat × Nat × Cont)) : St :=
  ⟨l.foldr (fun p f r => bif Nat.beq r p.1 then p.2 else f r) s.reg, m.foldr (fun p f r => bif Nat.beq r p.1 then (p.2.1, some p.2.2) else f r) s.own⟩
def St.fits (s : St) (l : List (Nat × PV)) (m : List (Nat × Nat × Cont)) : Prop := (∀ p ∈ l, s.reg p.1 = p.2) ∧ ∀ p ∈ m, s.own p.1 = (p.2.1, some p.2.2)
def FitO (s : St) : List (Nat × Nat × Cont) → Prop
  | [] => True
  | (k, g, c) :: m => s.own k = (g, some c) ∧ FitO s m
def Fit (s : St) (l : List (Nat × PV)) (m : List (Nat × Nat × Cont)) : Prop :=
  match l with
  | [] => FitO s m
  | (r, v) :: l => s.reg r = v ∧ Fit s l m
theorem over_reg (s : St) : ∀ l : List (Nat × PV), (∀ p ∈ l, s.reg p.1 = p.2) → l.foldr (fun p f r => bif Nat.beq r p.1 then p.2 else f r) s.reg = s.reg
  | [], _ => rfl
  | (r, v) :: l, h => by
    rw [List.foldr_cons, over_reg s l (fun p hp => h p (by simp [hp]))]
    funext t
    by_cases ht : t = r
    · subst ht; simp; exact (h (t, v) (by simp)).symm
    · simp [nbeq_ne ht]
theorem over_own (s : St) : ∀ m : List (Nat × Nat × Cont), (∀ p ∈ m, s.own p.1 = (p.2.1, some p.2.2)) → m.foldr (fun p f r => bif Nat.beq r p.1 then (p.2.1, some p.2.2) else f r) s.own = s.own
  | [], _ => rfl
  | (k, g, c) :: m, h => by
    rw [List.foldr_cons, over_own s m (fun p hp => h p (by simp [hp]))]
    funext t
    by_cases ht : t = k
    · subst ht; simp; exact (h (t, g, c) (by simp)).symm
    · simp [nbeq_ne ht]
theorem FitO.fits {s : St} : ∀ {m : List (Nat × Nat × Cont)}, FitO s m → ∀ p ∈ m, s.own p.1 = (p.2.1, some p.2.2)
  | [], _ => by simp
  | (k, g, c) :: m, h => fun p hp => by
    have h' : s.own k = (g, some c) ∧ FitO s m := h
    rcases List.mem_cons.1 hp with rfl | hp
    · exact h'.1
    · exact FitO.fits h'.2 p hp
theorem Fit.fits {s : St} : ∀ {l : List (Nat × PV)} {m : List (Nat × Nat × Cont)}, Fit s l m → s.fits l m
  | [], m, h => ⟨by simp, FitO.fits h⟩
  | (r, v) :: l, m, h => by
    have h' : s.reg r = v ∧ Fit s l m := h
    have := Fit.fits h'.2
    refine ⟨fun p hp => ?_, this.2⟩
    rcases List.mem_cons.1 hp with rfl | hp
    · exact h'.1
    · exact this.1 p hp
theorem Fit.over {s : St} {l : List (Nat × PV)} {m : List (Nat × Nat × Cont)} (h : Fit s l m) : s.over l m = s := by
  have := h.fits
  exact St.ext' (over_reg s l this.1) (over_own s m this.2)
theorem pw_loop {ι : Type} (I : ι → Prop) (regs : ι → List (Nat × PV)) (owns : ι → List (Nat × Nat × Cont)) (μ : ι → Nat) {c : Code} (i0 : ι) (h0 : I i0) (hs : Fit s (regs i0) (owns i0))
    (round : ∀ (i : ι) (s : St), I i → PWP P L c (XThen (fun s' => ∃ j, I j ∧ μ j < μ i ∧ Fit s' (regs j) (owns j)) Q) (s.over (regs i) (owns i))) : PWP P L (.loop c) Q s := by
  let J : St → Nat → Prop := fun s n => ∃ i, I i ∧ Fit s (regs i) (owns i) ∧ μ i = n
  have least : ∀ s, (∃ n, J s n) → ∃ n, J s n ∧ ∀ m, J s m → n ≤ m := by
    intro s ⟨n, hn⟩
    induction n using Nat.strongRecOn with
    | _ n ih =>
      by_cases hx : ∃ m, m < n ∧ J s m
      · obtain ⟨m, hm, hj⟩ := hx
        exact ih m hm hj
      · exact ⟨n, hn, fun m hm => by
          rcases Nat.lt_or_ge m n with h | h
          · exact absurd ⟨m, h, hm⟩ hx
          · exact h⟩
  have hμ : ∃ f : St → Nat, ∀ s, (∃ n, J s n) → J s (f s) ∧ ∀ m, J s m → f s ≤ m :=
    ⟨fun s => Classical.epsilon fun n => J s n ∧ ∀ m, J s m → n ≤ m, fun s hx => Classical.epsilon_spec (least s hx)⟩
  obtain ⟨f, hf⟩ := hμ
  refine Gh.of ⟨fun s => ∃ i, I i ∧ Fit s (regs i) (owns i), f, ⟨i0, h0, hs⟩, ?_⟩
  rintro s1 ⟨i1, hi1, hfit1⟩
  obtain ⟨⟨i, hi, hfit, hm⟩, _⟩ := hf s1 ⟨_, i1, hi1, hfit1, rfl⟩
  have := round i s1 hi
  rw [hfit.over] at this
  refine PWP.mono ?_ _ this
  intro e s' hq
  cases e
  case normal =>
    obtain ⟨j, hj, hlt, hfj⟩ := hq
    refine ⟨⟨j, hj, hfj⟩, ?_⟩
    have := (hf s' ⟨_, j, hj, hfj, rfl⟩).2 _ ⟨j, hj, hfj, rfl⟩
    omega
  all_goals exact hq
end
end Go.Pv


namespace Go.Pv
open Go.RowKit
variable [Globs]
section
variable {P : Program} {L : Lay} {Q : Exit → St → Prop} {K : St → Prop} {s : St} {ops : Array Oper} {rest : List Oper} {o : Oper}
variable {d e j : Nat} {op : Op} {ty : TypeId} {pos : String} {af : Array Edge} {want : Bool} {g : Option (Nat × Bool)}
theorem putR_same {b : Bool} (hr : s.reg e = .bool b) : s.putR e (.bool b) = s := by
  refine St.ext' ?_ rfl
  funext t
  show (bif Nat.beq t e then PV.bool b else s.reg t) = s.reg t
  by_cases ht : t = e
  · subst ht; simp [hr]
  · simp [nbeq_ne ht]
theorem ps_split {b : Bool} (_hd : (ops[j]?).bind (·.dst) = some e) (hr : s.reg e = .bool b) (h1 : b = true → POps P L ops K (⟨some d, op, ty, pos, af, some (j, want)⟩ :: rest) (s.putR e (.bool true))) (h0 : b = false → POps P L ops K (⟨some d, op, ty, pos, af, some (j, want)⟩ :: rest) (s.putR e (.bool false))) :
    POps P L ops K (⟨some d, op, ty, pos, af, some (j, want)⟩ :: rest) s := by
  have := putR_same hr
  cases b
  · have h := h0 rfl; rwa [this] at h
  · have h := h1 rfl; rwa [this] at h
theorem pq_split {b : Bool} (_hd : (ops[j]?).bind (·.dst) = some e) (hr : s.reg e = .bool b) (h1 : b = true → PQuiet P L ops K (⟨some d, op, ty, pos, af, some (j, want)⟩ :: rest) (s.putR e (.bool true))) (h0 : b = false → PQuiet P L ops K (⟨some d, op, ty, pos, af, some (j, want)⟩ :: rest) (s.putR e (.bool false))) :
    PQuiet P L ops K (⟨some d, op, ty, pos, af, some (j, want)⟩ :: rest) s := by
  have := putR_same hr
  cases b
  · have h := h0 rfl; rwa [this] at h
  · have h := h1 rfl; rwa [this] at h
theorem o_nilm {x : Operand} {gn : Nat} {oc : Option Cont} (T : TypeId) (sz kd : Nat) (hx : s.ev x = .nil) (hown : s.own d = (gn, oc)) (h : K ((s.setOwn d (gn + 1) (some ⟨T, sz, [], kd⟩)).putR d (.als d (gn + 1) 0 0))) : POp P L s ⟨some d, .move x, ty, pos, af, g⟩ K := by
  refine .inr (.inl ⟨_, .nils T sz kd (.inl rfl) rfl hx, ?_⟩)
  rw [St.fin, hown]; exact h
theorem o_nila {x : Operand} {gn : Nat} {oc : Option Cont} (T : TypeId) (sz kd : Nat) (hx : s.ev x = .nil) (hown : s.own d = (gn, oc)) (h : K ((s.setOwn d (gn + 1) (some ⟨T, sz, [], kd⟩)).putR d (.als d (gn + 1) 0 0))) : POp P L s ⟨some d, .assign x, ty, pos, af, g⟩ K := by
  refine .inr (.inl ⟨_, .nils T sz kd (.inr rfl) rfl hx, ?_⟩)
  rw [St.fin, hown]; exact h
theorem q_slit {T E : TypeId} {r re : LRow} {n : Nat} {ps : List (Nat × Operand)} {rows : List (List PV)} {Pr : Prop} (hr : L T = some r) (hs : r.sh = .sl E) (hre : L E = some re) (hz : re.zero.isSome = true) (hsz : Nat.blt 0 re.size = true) (hrows : litRows s 0 ps = some rows)
    (hn : ps.map (·.1) = nats 0 n) (hN : Nat.ble (n * re.size) 16777216 = true) (hcells : ps.all (fun p => Nat.beq (s.ev p.2).cells.length re.size) = true) (h1 : oneL s (ps.flatMap fun p => (s.ev p.2).cells) = some Pr) (h2 : Pr) (hkd : (ps.flatMap fun p => (s.ev p.2).cells).all (kOk 0) = true) :
    QOp P L s ⟨some d, .buildSlice T n ps.toArray, ty, pos, af, g⟩ (.fsl rows) := by
  have := QOp.slit (P := P) (L := L) (s := s) (o := ⟨some d, .buildSlice T n ps.toArray, ty, pos, af, g⟩) rfl hr hs hre hz (by simpa using hsz) (by rw [nats_range] at hn; simpa using hn) (by simpa using hN) (fun p hp => by
    have := List.all_eq_true.1 hcells p (by simpa using hp)
    simpa using this) h1 h2 hkd
  rw [litRows_eq 0 ps rows hrows]
  exact this
variable {fn : Func} {r : PV}
theorem end1 {t : Nat} {v d : PV} {Cd : Prop} {fl : Fl} (h : fn.results.toList = [.tmp t]) (hv : (s.reg t).fz = some v) (hres : res s 5 v = some (d, Cd, fl)) (hc : Cd) (hd : d = r) : RetPost L fn .shared r .ret s := by
  rw [PV.fz_eq] at hv
  have hv := Option.some.inj hv
  subst hv
  exact ⟨[s.reg t], True ∧ True, d, Cd, fl, by rw [h]; rfl, ⟨trivial, trivial⟩, hres, hc, trivial, hd⟩
theorem end1b {t : Nat} {b : Bool} (h : fn.results.toList = [.tmp t]) (hv : s.reg t = .bool b) (hd : PV.bool b = r) : RetPost L fn .shared r .ret s :=
  end1 h (v := .bool b) (by rw [hv]; rfl) rfl trivial hd
theorem end1i {t : Nat} {k : IntKind} {n : Int} (h : fn.results.toList = [.tmp t]) (hv : s.reg t = .int k n) (hd : PV.int k n = r) : RetPost L fn .shared r .ret s :=
  end1 h (v := .int k n) (by rw [hv]; rfl) rfl trivial hd
theorem end2 {t1 t2 : Nat} {v1 v2 d1 d2 : PV} {C1 C2 : Prop} {f1 f2 : Fl} (h : fn.results.toList = [.tmp t1, .tmp t2]) (h1 : (s.reg t1).fz = some v1) (h2 : (s.reg t2).fz = some v2) (r1 : res s 4 v1 = some (d1, C1, f1)) (r2 : res s 4 v2 = some (d2, C2, f2)) (c1 : C1) (c2 : C2)
    (hd : PV.tup [d1, d2] = r) : RetPost L fn .shared r .ret s := by
  rw [PV.fz_eq] at h1 h2
  have h1 := Option.some.inj h1
  have h2 := Option.some.inj h2
  subst h1 h2
  refine ⟨[s.reg t1, s.reg t2], True ∧ True ∧ True, .tup [d1, d2], C1 ∧ C2 ∧ True, f1.and (f2.and ⟨true, true⟩), by rw [h]; rfl, ⟨trivial, trivial, trivial⟩, ?_, ⟨c1, c2, trivial⟩, trivial, hd⟩
  show (match resL (res s 4) [s.reg t1, s.reg t2] with | some (ds, C1, b) => some (PV.tup ds, C1, b) | none => none) = _
  simp only [resL, r1, r2]
theorem end1f {t : Nat} {v d : PV} {Cd : Prop} {c : Bool} (h : fn.results.toList = [.tmp t]) (hv : (s.reg t).fz = some v) (hres : res s 5 v = some (d, Cd, ⟨c, true⟩)) (hc : Cd) (hd : d = r) : RetPost L fn .fresh r .ret s := by
  rw [PV.fz_eq] at hv
  have hv := Option.some.inj hv
  subst hv
  exact ⟨[s.reg t], True ∧ True, d, Cd, ⟨c, true⟩, by rw [h]; rfl, ⟨trivial, trivial⟩, hres, hc, rfl, hd⟩
end
section
variable {P : Program} {L : Lay} {Q : Exit → St → Prop} {K : St → Prop} {s : St} {ops : Array Oper}
theorem POps.app {K : St → Prop} : ∀ (l1 l2 : List Oper) (s : St), POps P L ops (fun s' => POps P L ops K l2 s') l1 s → POps P L ops K (l1 ++ l2) s
  | [], _, _, h => h
  | _ :: l1, l2, _, h => h.imp (fun x => ⟨x.1, x.2.mono fun s' h' => POps.app l1 l2 s' h'⟩) fun x => ⟨x.1, POps.app l1 l2 _ x.2⟩
theorem PQuiet.app {K : St → Prop} : ∀ (l1 l2 : List Oper) (s : St), PQuiet P L ops (fun s' => PQuiet P L ops K l2 s') l1 s → PQuiet P L ops K (l1 ++ l2) s
  | [], _, _, h => h
  | _ :: l1, l2, _, h => h.imp (fun ⟨x, pv, y, z⟩ => ⟨x, pv, y, PQuiet.app l1 l2 _ z⟩) fun x => ⟨x.1, PQuiet.app l1 l2 _ x.2⟩
theorem ps_cut {l : List Oper} (n : Nat) (regs : List (Nat × PV)) (owns : List (Nat × Nat × Cont)) (h1 : POps P L ops (fun s' => Fit s' regs owns) (l.take n) s) (h2 : ∀ s : St, POps P L ops K (l.drop n) (s.over regs owns)) : POps P L ops K l s := by
  have := POps.app (K := K) (l.take n) (l.drop n) s (h1.mono (fun s' hf => by have := h2 s'; rwa [hf.over] at this) _ _)
  rwa [List.take_append_drop] at this
theorem pw_cutP {x y : Code} (X : Prop) (regs : List (Nat × PV)) (owns : List (Nat × Nat × Cont)) (h1 : PWP P L x (XThen (fun s' => X ∧ Fit s' regs owns) Q) s) (h2 : X → ∀ s : St, PWP P L y Q (s.over regs owns)) : PWP P L (.seq x y) Q s := by
  refine pw_seq (PWP.mono ?_ _ h1)
  intro e s' h
  cases e
  case normal =>
    have := h2 h.1 s'
    rwa [Fit.over h.2] at this
  all_goals exact h
theorem pw_cut {x y : Code} (regs : List (Nat × PV)) (owns : List (Nat × Nat × Cont)) (h1 : PWP P L x (XThen (fun s' => Fit s' regs owns) Q) s) (h2 : ∀ s : St, PWP P L y Q (s.over regs owns)) : PWP P L (.seq x y) Q s := by
  refine pw_seq (PWP.mono ?_ _ h1)
  intro e s' h
  cases e
  case normal =>
    have := h2 s'
    rwa [Fit.over h] at this
  all_goals exact h
end
theorem wrap_i64 {n : Int} (h1 : -9223372036854775808 ≤ n) (h2 : n ≤ 9223372036854775807) : IntKind.i64.wrap n = n := by
  rw [IntKind.wrap_i64]; omega
theorem i64_next {n : Int} (h1 : -9223372036854775808 ≤ n) (h2 : n < 9223372036854775807) : PV.int .i64 (IntKind.i64.wrap (n + 1)) = .int .i64 (n + 1) := by rw [wrap_i64 (by omega) (by omega)]
theorem get_lt {α : Type} {l : List α} {k : Nat} (h : k < l.length) : ∃ x, l[k]? = some x := ⟨l[k], List.getElem?_eq_getElem h⟩
end Go.Pv


namespace Go.Pv
open Go.RowKit
variable [Globs]
section
variable {C : Ctx} {γ : Nat → Option Nat} {s : St} {a : Act} {w : World}
theorem envOf_recell {k0 g0 : Nat} {c0 c1 : Cont} (ho : s.own k0 = (g0, some c0)) (ht : c1.ty = c0.ty) (hs : c1.sz = c0.sz) (hl : c1.rows.length = c0.rows.length) :
    envOf C γ (s.setOwn k0 g0 (some c1)) w = envOf C γ s w := by
  have hown : ∀ k, ((s.setOwn k0 g0 (some c1)).own k).1 = (s.own k).1 ∧ (((s.setOwn k0 g0 (some c1)).own k).2.map fun c => (⟨γ k, c.ty, c.sz, c.rows.length⟩ : SLoc)) = (s.own k).2.map fun c => (⟨γ k, c.ty, c.sz, c.rows.length⟩ : SLoc) := by
    intro k
    by_cases hk : k = k0
    · subst hk; rw [setOwn_same, ho]; simp [ht, hs, hl]
    · rw [setOwn_ne hk]; exact ⟨rfl, rfl⟩
  have hok : ∀ b, okOf C γ (s.setOwn k0 g0 (some c1)) w b = okOf C γ s w b := by
    intro b
    refine propext ⟨fun h => ⟨h.1, h.2.1, fun k c hc => ?_⟩, fun h => ⟨h.1, h.2.1, fun k c hc => ?_⟩⟩
    · by_cases hk : k = k0
      · subst hk; exact h.2.2 k c1 (by rw [setOwn_same])
      · exact h.2.2 k c (by rw [setOwn_ne hk]; exact hc)
    · by_cases hk : k = k0
      · subst hk; exact h.2.2 k c0 (by rw [ho])
      · rw [setOwn_ne hk] at hc; exact h.2.2 k c hc
  unfold envOf
  congr 1
  · funext b; exact hok b
  · funext b; rw [hok b]
  · funext k; exact (hown k).1
  · funext k; exact (hown k).2
theorem SiteOk.rowlen {E : Env} {blk : Option Nat} {c : Cont} (h : SiteOk E blk c) (hz : 0 < c.sz) : ∀ r ∈ c.rows, r.length = c.sz := by
  intro r hr
  cases blk with
  | none => rw [h.emp rfl] at hr; cases hr
  | some b => obtain ⟨cur, _, _, _, f4, _⟩ := h.at_ b rfl hz; exact f4 r hr
theorem Sim.recell (h : Sim C γ s a w) {k0 g0 : Nat} {c0 c1 : Cont} (ho : s.own k0 = (g0, some c0)) (ht : c1.ty = c0.ty) (hs : c1.sz = c0.sz) (hz0 : 0 < c0.sz) (hl : c1.rows.length = c0.rows.length) (hrl : ∀ row ∈ c1.rows, row.length = c1.sz)
    (hcell : ∀ (i j : Nat) (row1 : List PV) (pv1 : PV), c1.rows[i]? = some row1 → row1[j]? = some pv1 → ∃ row0 pv0, c0.rows[i]? = some row0 ∧ row0[j]? = some pv0 ∧ ∀ v, KRep (envOf C γ s w) c0.kind pv0 v → KRep (envOf C γ s w) c1.kind pv1 v) :
    Sim C γ (s.setOwn k0 g0 (some c1)) a w := by
  have he := envOf_recell (C := C) (γ := γ) (w := w) ho ht hs hl
  have hsome : ∀ k c, ((s.setOwn k0 g0 (some c1)).own k).2 = some c → ∃ c', (s.own k).2 = some c' := by
    intro k c hc
    by_cases hk : k = k0
    · subst hk; exact ⟨c0, by rw [ho]⟩
    · rw [setOwn_ne hk] at hc; exact ⟨c, hc⟩
  refine ⟨h.defers, h.size, fun r => by rw [he]; exact h.regs r, fun k c hc => ?_, fun k k' c c' b e1 e2 e3 e4 => ?_, fun k c b e1 e2 => ?_, h.below, h.top, fun c v hk => by rw [he]; exact h.kept c v hk⟩
  · rw [he]
    by_cases hk : k = k0
    · subst hk
      rw [setOwn_same] at hc
      have hc : c1 = c := Option.some.inj hc
      subst hc
      have hsite := h.sites k c0 (by rw [ho])
      refine ⟨fun hb => ?_, (fun b _ hz => by omega), (fun b _ hz => by omega), fun b hb _ => ?_⟩
      · have := hsite.emp hb
        exact List.eq_nil_of_length_eq_zero (by rw [hl, this]; rfl)
      · obtain ⟨cur, f1, f2, f3, f4, f5⟩ := hsite.at_ b hb hz0
        refine ⟨cur, by rw [ht]; exact f1, by rw [hs]; exact f2, by rw [hl, hs]; exact f3, hrl, fun i j row pv e1 e2 => ?_⟩
        obtain ⟨row0, pv0, g1, g2, g3⟩ := hcell i j row pv e1 e2
        obtain ⟨v, u1, u2, u3⟩ := f5 i j row0 pv0 g1 g2
        exact ⟨v, by rw [hs]; exact u1, u2, g3 v u3⟩
    · rw [setOwn_ne hk] at hc
      exact h.sites k c hc
  · obtain ⟨d, hd⟩ := hsome k c e1
    obtain ⟨d', hd'⟩ := hsome k' c' e2
    exact h.inj k k' d d' b hd hd' e3 e4
  · obtain ⟨d, hd⟩ := hsome k c e1
    exact h.base k d b hd e2
theorem Sim.drop (hX : ∀ b, C.X b → b < C.B) (h : Sim C γ s a w) {k g : Nat} {c : Cont} (ho : s.own k = (g, some c)) :
    Sim C γ (s.setOwn k (g + 1) none) a w ∧ (envOf C γ s w).Le (envOf C γ (s.setOwn k (g + 1) none) w) ∧
      (c.kind = 0 → ∀ v, Rep (envOf C γ s w) (.als k g 0 c.rows.length) v → DRep w (envOf C γ (s.setOwn k (g + 1) none) w).okf (.sl c.rows) v) := by
  have hok : ∀ b, okOf C γ s w b → okOf C γ (s.setOwn k (g + 1) none) w b := fun b hb => ⟨hb.1, hb.2.1, fun k' c' hc' => by
    by_cases hk : k' = k
    · subst hk; rw [setOwn_same] at hc'; cases hc'
    · rw [setOwn_ne hk] at hc'; exact hb.2.2 k' c' hc'⟩
  have hle : (envOf C γ s w).Le (envOf C γ (s.setOwn k (g + 1) none) w) := by
    refine ⟨hok, fun b hb => ⟨hb.1, hok b hb.2⟩, fun b hb => hb.2, fun b _ => rfl, fun k' => ?_, fun k' l' hg hl => ?_, fun k' l' b cur hg hl hb hh => ⟨cur, hh, rfl⟩⟩
    · show (s.own k').1 ≤ ((s.setOwn k (g + 1) none).own k').1
      by_cases hk : k' = k
      · subst hk; rw [setOwn_same, ho]; simp
      · rw [setOwn_ne hk]; exact Nat.le_refl _
    · by_cases hk : k' = k
      · subst hk
        simp only [envOf, setOwn_same, Option.map_none] at hl
        cases hl
      · refine ⟨l', ?_, rfl, rfl, rfl, Nat.le_refl _⟩
        simp only [envOf, setOwn_ne hk] at hl ⊢
        exact hl
  refine ⟨⟨h.defers, h.size, fun r => (h.regs r).mono hle, fun k' c' hc' => ?_, fun k1 k2 c1 c2 b e1 e2 e3 e4 => ?_, fun k' c' b e1 e2 => ?_, h.below, h.top, fun c v hk => (h.kept c v hk).mono hle⟩, hle, fun hk v hv => ?_⟩
  · by_cases hk : k' = k
    · subst hk; rw [setOwn_same] at hc'; cases hc'
    · rw [setOwn_ne hk] at hc'
      exact (h.sites k' c' hc').mono hle fun b hb => rfl
  · have hne : ∀ {k' c'}, ((s.setOwn k (g + 1) none).own k').2 = some c' → (s.own k').2 = some c' := by
      intro k' c' hc'
      by_cases hk : k' = k
      · subst hk; rw [setOwn_same] at hc'; cases hc'
      · rwa [setOwn_ne hk] at hc'
    exact h.inj k1 k2 c1 c2 b (hne e1) (hne e2) e3 e4
  · by_cases hk : k' = k
    · subst hk; rw [setOwn_same] at e1; cases e1
    · rw [setOwn_ne hk] at e1; exact h.base k' c' b e1 e2
  · rcases h.als_at hv ho with ⟨h1, _, h3, rfl⟩ | ⟨b, cap, cur, h1, rfl, h3, h4, h5, h6, h7⟩
    · have : c.rows = [] := (h.sites k c (by rw [ho])).emp h1
      rw [this]
      exact .sl0 _ _
    · obtain ⟨cur', g1, g2, g3, g4, g5⟩ := h.site_at ho h1 (h.cells_sz ho h1 h3 h6)
      have hb : (envOf C γ (s.setOwn k (g + 1) none) w).okf b := by
        have hbase := h.base k c b (by rw [ho]) h1
        refine ⟨hbase.1, hbase.2, fun hx => ?_, fun k' c' hc' hb' => ?_⟩
        · have := hX b hx; omega
        · by_cases hk' : k' = k
          · subst hk'; rw [setOwn_same] at hc'; cases hc'
          · rw [setOwn_ne hk'] at hc'
            exact hk' (h.inj k' k c' c b hc' (by rw [ho]) hb' h1)
      simp only [Nat.zero_mul]
      refine .sl c.rows b 0 cap c.sz (fun i j => cur'.getD (i * c.sz + j) undef) hb g2 h4 g4 (fun i j row pv e1 e2 => ?_) (fun i j row pv e1 e2 => ?_)
      · obtain ⟨u, f1, f2, _⟩ := g5 i j row pv e1 e2
        rw [cell_of_cells g1, Nat.zero_add, f1]
        simp [f1, f2]
      · obtain ⟨u, f1, _, f3⟩ := g5 i j row pv e1 e2
        have : cur'.getD (i * c.sz + j) undef = u := by simp [f1]
        simp only [this]
        rw [hk] at f3
        exact hle.drepf f3
end
section
variable {s : St}
theorem Ghost.drop {k g : Nat} {oc : Option Cont} (ho : s.own k = (g, oc)) : Ghost s (s.setOwn k (g + 2) none) := by
  intro C a w hX ⟨γ, h⟩
  have ht : Turn C γ s w w k none := ⟨rfl, rfl, rfl, Nat.le_refl _, fun b _ => .inl rfl, fun b hb => by cases hb⟩
  have h1 := ht.sim h (c := ⟨0, 0, [], 0⟩) (.none_ rfl)
  have hfin : s.fin k ⟨0, 0, [], 0⟩ = s.setOwn k (g + 1) (some ⟨0, 0, [], 0⟩) := by rw [St.fin, ho]
  rw [hfin] at h1
  have h2 := (h1.drop hX (setOwn_same _ _ _ _)).1
  have he : (s.setOwn k (g + 1) (some ⟨0, 0, [], 0⟩)).setOwn k (g + 1 + 1) none = s.setOwn k (g + 2) none := by
    refine St.ext' rfl (funext fun r => ?_)
    show (bif Nat.beq r k then _ else (bif Nat.beq r k then _ else _)) = (bif Nat.beq r k then _ else _)
    cases Nat.beq r k <;> rfl
  rw [he] at h2
  exact ⟨_, h2⟩
theorem Ghost.move {k g k' g' t i j : Nat} {c : Cont} {oc' : Option Cont} (hk : Nat.beq k k' = false) (ho : s.own k = (g, some c)) (ho' : s.own k' = (g', oc')) (hr : s.reg t = .ptr k g i j) :
    Ghost s (((s.setOwn k (g + 1) none).setOwn k' (g' + 1) (some c)).putR t (.ptr k' (g' + 1) i j)) := by
  intro C a w hX ⟨γ, h⟩
  have hne : k ≠ k' := fun e => by subst e; simp at hk
  have o1 : ((s.setOwn k (g + 1) none).setOwn k' (g' + 1) (some c)).own k = (g + 1, none) := by rw [setOwn_ne hne, setOwn_same]
  have o2 : ((s.setOwn k (g + 1) none).setOwn k' (g' + 1) (some c)).own k' = (g' + 1, some c) := setOwn_same _ _ _ _
  have o3 : ∀ q, q ≠ k → q ≠ k' → ((s.setOwn k (g + 1) none).setOwn k' (g' + 1) (some c)).own q = s.own q := fun q h1 h2 => by rw [setOwn_ne h2, setOwn_ne h1]
  have hregs : ((s.setOwn k (g + 1) none).setOwn k' (g' + 1) (some c)).reg = s.reg := rfl
  generalize (s.setOwn k (g + 1) none).setOwn k' (g' + 1) (some c) = s1 at *
  have hval : ∀ {q : Nat} {d : Cont}, (s1.own q).2 = some d → ∃ q0, (s.own q0).2 = some d ∧ γ q0 = upg γ k' (γ k) q ∧ ((q = k' ∧ q0 = k) ∨ (q ≠ k' ∧ q ≠ k ∧ q0 = q)) := by
    intro q d hd
    by_cases h2 : q = k'
    · subst h2
      rw [o2] at hd
      exact ⟨k, by rw [ho]; exact hd, by rw [upg_same], .inl ⟨rfl, rfl⟩⟩
    · by_cases h1 : q = k
      · subst h1; rw [o1] at hd; cases hd
      · rw [o3 q h1 h2] at hd
        exact ⟨q, hd, by rw [upg_ne h2], .inr ⟨h2, h1, rfl⟩⟩
  have hok : ∀ b, okOf C γ s w b → okOf C (upg γ k' (γ k)) s1 w b := fun b hb => ⟨hb.1, hb.2.1, fun q d hd => by
    obtain ⟨q0, e1, e2, _⟩ := hval hd
    rw [← e2]; exact hb.2.2 q0 d e1⟩
  have hle : (envOf C γ s w).Le (envOf C (upg γ k' (γ k)) s1 w) := by
    refine ⟨hok, fun b hb => ⟨hb.1, hok b hb.2⟩, fun b hb => hb.2, fun b _ => rfl, fun q => ?_, fun q l' hg hl => ?_, fun q l' b cur hg hl hb hh => ⟨cur, hh, rfl⟩⟩
    · show (s.own q).1 ≤ (s1.own q).1
      by_cases h2 : q = k'
      · subst h2; rw [o2, ho']; simp
      · by_cases h1 : q = k
        · subst h1; rw [o1, ho]; simp
        · rw [o3 q h1 h2]; exact Nat.le_refl _
    · have hgg : (s1.own q).1 = (s.own q).1 := hg
      by_cases h2 : q = k'
      · subst h2; rw [o2, ho'] at hgg; simp at hgg
      · by_cases h1 : q = k
        · subst h1; rw [o1, ho] at hgg; simp at hgg
        · refine ⟨l', ?_, rfl, rfl, rfl, Nat.le_refl _⟩
          simp only [envOf, o3 q h1 h2, upg_ne h2] at hl ⊢
          exact hl
  refine ⟨upg γ k' (γ k), h.defers, h.size, fun r => ?_, fun q d hd => ?_, fun q1 q2 d1 d2 b e1 e2 e3 e4 => ?_, fun q d b e1 e2 => ?_, h.below, h.top, fun d v hd => (h.kept d v hd).mono hle⟩
  · show Rep (envOf C (upg γ k' (γ k)) s1 w) (bif Nat.beq r t then _ else s1.reg r) _
    by_cases hrt : r = t
    · subst hrt
      have hp := h.regs r
      rw [hr] at hp
      simp only [Nat.beq_refl, cond_true]
      have hp' := h.ptr_at hp ho
      refine .ptr ?_ fun _ l hl => ?_
      · show g' + 1 ≤ (s1.own k').1
        rw [o2]; exact Nat.le_refl _
      · simp only [envOf, o2, upg_same, Option.map_some, Option.some.injEq] at hl
        subst hl
        exact hp'
    · rw [nbeq_ne hrt, hregs]; exact (h.regs r).mono hle
  · obtain ⟨q0, e1, e2, _⟩ := hval hd
    have := (h.sites q0 d e1).mono hle fun b _ => rfl
    rwa [e2] at this
  · obtain ⟨p1, f1, f2, f3⟩ := hval e1
    obtain ⟨p2, f4, f5, f6⟩ := hval e2
    have := h.inj p1 p2 d1 d2 b f1 f4 (by rw [f2]; exact e3) (by rw [f5]; exact e4)
    rcases f3 with ⟨a1, a2⟩ | ⟨a1, a2, a3⟩ <;> rcases f6 with ⟨b1, b2⟩ | ⟨b1, b2, b3⟩
    · rw [a1, b1]
    · exact absurd (by rw [← b3, ← this, a2]) b2
    · exact absurd (by rw [← a3, this, b2]) a2
    · rw [← a3, ← b3, this]
  · obtain ⟨q0, f1, f2, _⟩ := hval e1
    exact h.base q0 d b f1 (by rw [f2]; exact e2)
theorem Ghost.data {k g t kd : Nat} {T : TypeId} {row : List PV} (ho : s.own k = (g, some ⟨T, row.length, [row], kd⟩)) (hr : s.reg t = .ptr k g 0 0) (hall : row.all (kOk 1) = true) (hz0 : Nat.blt 0 row.length = true) :
    Ghost s ((s.setOwn k (g + 1) none).putR t (.dref (row.map (nrm 1)) 0)) := by
  intro C a w hX ⟨γ, h⟩
  obtain ⟨h1, hle, _⟩ := h.drop hX ho
  have hz0 : 0 < row.length := by simpa using hz0
  have hp := h.regs t
  rw [hr] at hp
  obtain ⟨b, hb, hv, hi, hj⟩ := h.ptr_at hp ho
  obtain ⟨cur, f1, f2, f3, f4, f5⟩ := h.site_at ho hb hz0
  have hokb : okOf C γ (s.setOwn k (g + 1) none) w b := by
    have hbase := h.base k _ b (by rw [ho]) hb
    refine ⟨hbase.2, fun hx => ?_, fun k' c' hc' hb' => ?_⟩
    · have := hX b hx; omega
    · by_cases hk' : k' = k
      · subst hk'; rw [setOwn_same] at hc'; cases hc'
      · rw [setOwn_ne hk'] at hc'
        exact hk' (h.inj k' k c' _ b hc' (by rw [ho]) hb' hb)
  have hd : Rep (envOf C γ (s.setOwn k (g + 1) none) w) (.dref (row.map (nrm 1)) 0) (a.tmps.getD t undef) := by
    rw [hv]
    simp only [Nat.zero_mul, Nat.zero_add]
    have key : ∀ (i : Nat) (c : PV), (row.map (nrm 1))[i]? = some c → ∃ c0 u, row[i]? = some c0 ∧ c = nrm 1 c0 ∧ cur[i]? = some u ∧ u.oneCell' = true ∧ KRep (envOf C γ s w) kd c0 u := by
      intro i c hc
      rw [List.getElem?_map] at hc
      cases hq : row[i]? with
      | none => rw [hq] at hc; simp at hc
      | some c0 =>
        rw [hq] at hc; simp at hc
        obtain ⟨u, e1, e2, e3⟩ := f5 0 i row c0 rfl hq
        exact ⟨c0, u, rfl, hc.symm, by simpa using e1, e2, e3⟩
    have := DRep.dref (w := w) (ok := (envOf C γ (s.setOwn k (g + 1) none) w).ok) (row.map (nrm 1)) 0 b 0 (fun i => cur.getD i undef) hokb (fun i c hc => by
      obtain ⟨c0, u, e1, e2, e3, e4, e5⟩ := key i c hc
      rw [cell_of_cells f1, Nat.zero_add, e3]
      simp [e3, e4]) (fun i c hc => by
      obtain ⟨c0, u, e1, rfl, e3, e4, e5⟩ := key i c hc
      have hu : cur.getD i undef = u := by simp [e3]
      rw [hu]
      exact hle.drep (kOk_spec (k := 1) envOf_okfok (List.all_eq_true.1 hall c0 (List.mem_of_getElem? e1)) (e5.rep envOf_okfok)))
    exact .d this
  refine ⟨γ, h1.defers, h1.size, fun r => ?_, h1.sites, h1.inj, h1.base, h1.below, h1.top, h1.kept⟩
  show Rep (envOf C γ (s.setOwn k (g + 1) none) w) (bif Nat.beq r t then _ else s.reg r) _
  by_cases hrt : r = t
  · subst hrt; simpa using hd
  · rw [nbeq_ne hrt]; exact h1.regs r
theorem Ghost.nilcell {k gk k0 g0 i j : Nat} {oc : Option Cont} {c0 : Cont} {row : List PV} (T : TypeId) (sz kd : Nat) (hk : Nat.beq k0 k = false) (ho : s.own k = (gk, oc)) (h0 : s.own k0 = (g0, some c0)) (hkind : c0.kind = 2) (hrow : c0.rows[i]? = some row) (hj : row[j]? = some .nil) (hz0 : Nat.blt 0 c0.sz = true) :
    Ghost s ((s.setOwn k (gk + 1) (some ⟨T, sz, [], kd⟩)).setOwn k0 g0 (some ⟨c0.ty, c0.sz, c0.rows.set i (row.set j (.als k (gk + 1) 0 0)), 2⟩)) := by
  intro C a w hX ⟨γ, h⟩
  have hne : k0 ≠ k := fun e => by subst e; simp at hk
  have ht : Turn C γ s w w k none := ⟨rfl, rfl, rfl, Nat.le_refl _, fun b _ => .inl rfl, fun b hb => by cases hb⟩
  have h1 := ht.sim h (c := ⟨T, sz, [], kd⟩) (.none_ rfl)
  have hfin : s.fin k ⟨T, sz, [], kd⟩ = s.setOwn k (gk + 1) (some ⟨T, sz, [], kd⟩) := by rw [St.fin, ho]
  rw [hfin] at h1
  have ho1 : (s.setOwn k (gk + 1) (some ⟨T, sz, [], kd⟩)).own k0 = (g0, some c0) := by rw [setOwn_ne hne]; exact h0
  have hz0 : 0 < c0.sz := by simpa using hz0
  refine ⟨_, h1.recell ho1 rfl rfl hz0 (by simp) (fun r hr => ?_) fun i' j' row1 pv1 e1 e2 => ?_⟩
  · rcases List.mem_or_eq_of_mem_set hr with hr | rfl
    · exact (h.sites k0 c0 (by rw [h0])).rowlen hz0 r hr
    · simpa using (h.sites k0 c0 (by rw [h0])).rowlen hz0 row (List.mem_of_getElem? hrow)
  · by_cases hi : i' = i
    · subst hi
      have hlt := (List.getElem?_eq_some_iff.1 hrow).1
      rw [List.getElem?_set_self hlt] at e1
      have e1 := Option.some.inj e1
      subst e1
      by_cases hjj : j' = j
      · subst hjj
        have hlt2 := (List.getElem?_eq_some_iff.1 hj).1
        rw [List.getElem?_set_self hlt2] at e2
        have e2 := Option.some.inj e2
        subst e2
        refine ⟨row, .nil, hrow, hj, fun v hv => ?_⟩
        rw [hkind] at hv
        have hv : Rep _ PV.nil v := hv
        rw [hv.nil_inv]
        refine Rep.als ?_ fun _ l hl => ?_
        · show _ ≤ ((s.setOwn k (gk + 1) (some ⟨T, sz, [], kd⟩)).own k).1
          rw [setOwn_same]; exact Nat.le_refl _
        · simp only [envOf, setOwn_same, upg_same, Option.map_some, Option.some.injEq] at hl
          subst hl
          exact .inl ⟨rfl, rfl, rfl, rfl⟩
      · rw [List.getElem?_set_ne (Ne.symm hjj)] at e2
        exact ⟨row, pv1, hrow, e2, fun v hv => by rw [hkind] at hv; exact hv⟩
    · rw [List.getElem?_set_ne (Ne.symm hi)] at e1
      exact ⟨row1, pv1, e1, e2, fun v hv => by rw [hkind] at hv; exact hv⟩
theorem Ghost.freeze {k gk k0 g0 i j n : Nat} {c c0 : Cont} {row : List PV} (hk : Nat.beq k0 k = false) (ho : s.own k = (gk, some c)) (hc : c.kind = 0) (h0 : s.own k0 = (g0, some c0)) (hkind : c0.kind = 2) (hrow : c0.rows[i]? = some row) (hj : row[j]? = some (.als k gk 0 n)) (hz0 : Nat.blt 0 c0.sz = true) (hn : n = c.rows.length) :
    Ghost s ((s.setOwn k (gk + 1) none).setOwn k0 g0 (some ⟨c0.ty, c0.sz, c0.rows.set i (row.set j (.fsl c.rows)), 2⟩)) := by
  intro C a w hX ⟨γ, h⟩
  subst hn
  have hne : k0 ≠ k := fun e => by subst e; simp at hk
  obtain ⟨h1, hle, hfr⟩ := h.drop hX ho
  have ho1 : (s.setOwn k (gk + 1) none).own k0 = (g0, some c0) := by rw [setOwn_ne hne]; exact h0
  have hsite := h.sites k0 c0 (by rw [h0])
  have hlt := (List.getElem?_eq_some_iff.1 hrow).1
  have hlt2 := (List.getElem?_eq_some_iff.1 hj).1
  have he := envOf_recell (C := C) (γ := γ) (w := w) (c1 := ⟨c0.ty, c0.sz, c0.rows.set i (row.set j (.fsl c.rows)), 2⟩) ho1 rfl rfl (by simp)
  have hother : ∀ k', k' ≠ k0 → ((s.setOwn k (gk + 1) none).setOwn k0 g0 (some ⟨c0.ty, c0.sz, c0.rows.set i (row.set j (.fsl c.rows)), 2⟩)).own k' = (s.setOwn k (gk + 1) none).own k' := fun k' hk' => setOwn_ne hk'
  have hsome : ∀ k' c', (((s.setOwn k (gk + 1) none).setOwn k0 g0 (some ⟨c0.ty, c0.sz, c0.rows.set i (row.set j (.fsl c.rows)), 2⟩)).own k').2 = some c' → ∃ c'', ((s.setOwn k (gk + 1) none).own k').2 = some c'' := by
    intro k' c' hc'
    by_cases hk' : k' = k0
    · subst hk'; exact ⟨c0, by rw [ho1]⟩
    · rw [hother k' hk'] at hc'; exact ⟨c', hc'⟩
  refine ⟨γ, h1.defers, h1.size, fun r => by rw [he]; exact h1.regs r, fun k' c' hc' => ?_, fun k1 k2 c1 c2 b e1 e2 e3 e4 => ?_, fun k' c' b e1 e2 => ?_, h1.below, h1.top, fun c v hk => by rw [he]; exact h1.kept c v hk⟩
  · rw [he]
    by_cases hk' : k' = k0
    · subst hk'
      rw [setOwn_same] at hc'
      have hc' := Option.some.inj hc'
      subst hc'
      have hz0 : 0 < c0.sz := by simpa using hz0
      refine ⟨fun hb => ?_, (fun b _ hz => by simp only at hz; omega), (fun b _ hz => by simp only at hz; omega), fun b hb _ => ?_⟩
      · have := hsite.emp hb
        rw [this] at hrow; simp at hrow
      · obtain ⟨cur, f1, f2, f3, f4, f5⟩ := hsite.at_ b hb hz0
        refine ⟨cur, f1, f2, by simpa using f3, fun r hr => ?_, fun i' j' row1 pv1 e1 e2 => ?_⟩
        · rcases List.mem_or_eq_of_mem_set hr with hr | rfl
          · exact f4 r hr
          · simpa using f4 row (List.mem_of_getElem? hrow)
        · by_cases hi : i' = i
          · subst hi
            rw [List.getElem?_set_self hlt] at e1
            have e1 := Option.some.inj e1
            subst e1
            by_cases hjj : j' = j
            · subst hjj
              rw [List.getElem?_set_self hlt2] at e2
              have e2 := Option.some.inj e2
              subst e2
              obtain ⟨v, u1, u2, u3⟩ := f5 i' j' row _ hrow hj
              rw [hkind] at u3
              exact ⟨v, u1, u2, Rep.fsl (hfr hc v u3)⟩
            · rw [List.getElem?_set_ne (Ne.symm hjj)] at e2
              obtain ⟨v, u1, u2, u3⟩ := f5 i' j' row pv1 hrow e2
              rw [hkind] at u3
              exact ⟨v, u1, u2, Rep.mono hle u3⟩
          · rw [List.getElem?_set_ne (Ne.symm hi)] at e1
            obtain ⟨v, u1, u2, u3⟩ := f5 i' j' row1 pv1 e1 e2
            rw [hkind] at u3
            exact ⟨v, u1, u2, Rep.mono hle u3⟩
    · rw [hother k' hk'] at hc'
      exact h1.sites k' c' hc'
  · obtain ⟨d, hd⟩ := hsome k1 c1 e1
    obtain ⟨d', hd'⟩ := hsome k2 c2 e2
    exact h1.inj k1 k2 d d' b hd hd' e3 e4
  · obtain ⟨d, hd⟩ := hsome k' c' e1
    exact h1.base k' d b hd e2
def up0 : PV → PV
  | .sl rows => .fsl rows
  | c => c
theorem up0_spec {E : Env} (hf : ∀ b, E.okf b → E.ok b) {c : PV} {v : Value} (h : DRep E.w E.okf c v) : Rep E (up0 c) v := by
  unfold up0
  split
  · exact .fsl h
  · exact .d (h.weaken hf)
theorem map_at {α β : Type} {f : α → β} {l : List (List α)} {i j : Nat} {row1 : List β} {b : β} (h1 : (l.map (·.map f))[i]? = some row1) (h2 : row1[j]? = some b) : ∃ row0 a, l[i]? = some row0 ∧ row0[j]? = some a ∧ f a = b := by
  rw [List.getElem?_map] at h1
  cases h : l[i]? with
  | none => rw [h] at h1; simp at h1
  | some row0 =>
    rw [h] at h1
    simp at h1
    subst h1
    rw [List.getElem?_map] at h2
    cases h' : row0[j]? with
    | none => rw [h'] at h2; simp at h2
    | some a => rw [h'] at h2; simp at h2; exact ⟨row0, a, rfl, h', h2⟩
theorem Ghost.raise {k0 g0 : Nat} {c0 : Cont} (h0 : s.own k0 = (g0, some c0)) (hk : c0.kind = 0) (hz0 : Nat.blt 0 c0.sz = true) : Ghost s (s.setOwn k0 g0 (some ⟨c0.ty, c0.sz, c0.rows.map (·.map up0), 2⟩)) := by
  intro C a w hX ⟨γ, h⟩
  have hz0 : 0 < c0.sz := by simpa using hz0
  refine ⟨γ, h.recell h0 rfl rfl hz0 (by simp) (fun r hr => ?_) fun i j row1 pv1 e1 e2 => ?_⟩
  · obtain ⟨r0, hr0, rfl⟩ := List.mem_map.1 hr
    simpa using (h.sites k0 c0 (by rw [h0])).rowlen hz0 r0 hr0
  · obtain ⟨row0, pv0, f1, f2, rfl⟩ := map_at e1 e2
    exact ⟨row0, pv0, f1, f2, fun v hv => by rw [hk] at hv; exact up0_spec envOf_okfok hv⟩
theorem Ghost.lower {k0 g0 : Nat} {c0 : Cont} (kd : Nat) (h0 : s.own k0 = (g0, some c0)) (hk : c0.kind = 2) (hz0 : Nat.blt 0 c0.sz = true) (hall : ∀ row ∈ c0.rows, row.all (kOk kd) = true) : Ghost s (s.setOwn k0 g0 (some ⟨c0.ty, c0.sz, c0.rows.map (·.map (nrm kd)), kd⟩)) := by
  intro C a w hX ⟨γ, h⟩
  have hz0 : 0 < c0.sz := by simpa using hz0
  refine ⟨γ, h.recell h0 rfl rfl hz0 (by simp) (fun r hr => ?_) fun i j row1 pv1 e1 e2 => ?_⟩
  · obtain ⟨r0, hr0, rfl⟩ := List.mem_map.1 hr
    simpa using (h.sites k0 c0 (by rw [h0])).rowlen hz0 r0 hr0
  · obtain ⟨row0, pv0, f1, f2, rfl⟩ := map_at e1 e2
    refine ⟨row0, pv0, f1, f2, fun v hv => ?_⟩
    rw [hk] at hv
    exact kOk_spec envOf_okfok (List.all_eq_true.1 (hall row0 (List.mem_of_getElem? f1)) pv0 (List.mem_of_getElem? f2)) hv
end
theorem Ghost.nilreg {s : St} {k gk t : Nat} {oc : Option Cont} (T : TypeId) (sz kd : Nat) (ho : s.own k = (gk, oc)) (hr : s.reg t = .nil) : Ghost s ((s.setOwn k (gk + 1) (some ⟨T, sz, [], kd⟩)).putR t (.als k (gk + 1) 0 0)) := by
  intro C a w hX ⟨γ, h⟩
  have ht : Turn C γ s w w k none := ⟨rfl, rfl, rfl, Nat.le_refl _, fun b _ => .inl rfl, fun b hb => by cases hb⟩
  have h1 := ht.sim h (c := ⟨T, sz, [], kd⟩) (.none_ rfl)
  have hfin : s.fin k ⟨T, sz, [], kd⟩ = s.setOwn k (gk + 1) (some ⟨T, sz, [], kd⟩) := by rw [St.fin, ho]
  rw [hfin] at h1
  refine ⟨_, h1.defers, h1.size, fun r => ?_, h1.sites, h1.inj, h1.base, h1.below, h1.top, h1.kept⟩
  show Rep _ (bif Nat.beq r t then _ else s.reg r) _
  by_cases hrt : r = t
  · subst hrt
    have hv := h.regs r
    rw [hr] at hv
    rw [hv.nil_inv]
    simp only [Nat.beq_refl, cond_true]
    refine .als ?_ fun _ l hl => ?_
    · show _ ≤ ((s.setOwn k (gk + 1) (some ⟨T, sz, [], kd⟩)).own k).1
      rw [setOwn_same]; exact Nat.le_refl _
    · have hl : (((s.setOwn k (gk + 1) (some ⟨T, sz, [], kd⟩)).own k).2.map fun c => (⟨upg γ k none k, c.ty, c.sz, c.rows.length⟩ : SLoc)) = some l := hl
      rw [setOwn_same, upg_same] at hl
      have hl := Option.some.inj hl
      subst hl
      exact .inl ⟨rfl, rfl, rfl, rfl⟩
  · rw [nbeq_ne hrt]; exact h1.regs r
end Go.Pv


namespace Go.Pv
open Go.RowKit
variable [Globs]
def OwnV (w w' : World) (T : TypeId) (sz : Nat) (rows : List (List PV)) (v : Value) : Prop :=
  (rows = [] ∧ v = .slice none 0 0) ∨
  ∃ (b cap : Nat) (cur : Array Value), w.heap.size ≤ b ∧ v = .slice (some ⟨b, 0, none⟩) rows.length cap ∧ w'.heap[b]? = some (.cells cur T (0, 0)) ∧ rows.length ≤ cap ∧ cap ≤ maxLen ∧ cur.size = cap * sz ∧ 0 < sz ∧ rows.length * sz ≤ cur.size ∧ (∀ row ∈ rows, row.length = sz) ∧
    ∀ (i j : Nat) (row : List PV) (c : PV), rows[i]? = some row → row[j]? = some c → ∃ u, cur[i * sz + j]? = some u ∧ u.oneCell' = true ∧ ∀ (w : World) (ok : Nat → Prop), DRep w ok c u
def RetO (P : Program) (f : FuncId) (pargs : List PV) (T : TypeId) (sz : Nat) (rows : List (List PV)) : Prop :=
  callable P f ∧ ∀ (w : World) (X : Nat → Prop) (args : List Value), Globs.glob w → (∀ b, X b → b < w.heap.size) → pargs.length = args.length →
    (∀ (i : Nat) (c : PV) (v : Value), pargs[i]? = some c → args[i]? = some v → DRep w (fun b => b < w.heap.size ∧ ¬ X b) c v) →
    Calls P f args.toArray w (fun e w' => ∃ v, e = .returned v ∧ Below w.heap.size w w' ∧ OwnV w w' T sz rows v)
def PostO (fn : Func) (T : TypeId) (sz : Nat) (rows : List (List PV)) (s : St) : Prop :=
  ∃ t k g m kd, fn.results.toList = [.tmp t] ∧ s.reg t = .als k g 0 m ∧ s.own k = (g, some ⟨T, sz, rows, kd⟩) ∧ m = rows.length ∧ rows.all (·.all PV.flat1) = true
def RetPostO (fn : Func) (T : TypeId) (sz : Nat) (rows : List (List PV)) : Exit → St → Prop
  | .normal, s | .ret, s => PostO fn T sz rows s
  | _, _ => False
theorem flat1_any {E : Env} {k : Nat} {c : PV} {v : Value} (hf : c.flat1 = true) (h : KRep E k c v) (hE : ∀ b, E.okf b → E.ok b) (w : World) (ok : Nat → Prop) : DRep w ok c v := by
  have hr := h.rep hE
  cases c with
  | bool b => rw [hr.bool_inv]; exact .bool _
  | int k n => rw [hr.int_inv]; exact .int _ _
  | str s => rw [hr.str_inv]; exact .str _
  | raw u => rw [hr.raw_inv]; exact .raw _
  | nil => rw [hr.nil_inv]; exact .nil
  | _ => simp [PV.flat1] at hf
section
variable {P : Program} {L : Lay} {s : St}
theorem RetO.of_pwp {f : FuncId} {fn : Func} {body : Code} {pargs : List PV} {T : TypeId} {sz : Nat} {rows : List (List PV)} (hL : LOk P L) (hm : P.follows .mixedOrders = true) (hf : P.funcs[f]? = some fn) (hb : fn.body = some body) (hn : (fn.name == "runtime.NumGoroutine") = false)
    (hlen : Nat.ble pargs.length fn.ntmps = true) (hc : codeOk fn.ntmps body = true) (h : PWP P L body (RetPostO fn T sz rows) (initSt pargs)) : RetO P f pargs T sz rows := by
  refine ⟨⟨fn, hf, hn, by simp [hb]⟩, fun w X args hg hX hl hargs => ?_⟩
  let C : Ctx := ⟨w.heap.size, X, w, fn.ntmps, fun _ _ => False, []⟩
  have hG : Good P L C := ⟨hL, hX, hm, fun w' hb => Globs.keep w w' hg hb⟩
  have hle : args.length ≤ fn.ntmps := by rw [← hl]; simpa using hlen
  have hsim : SimE C (initSt pargs) { tmps := args.toArray ++ Array.replicate (fn.ntmps - args.toArray.size) undef, defers := [] } w := by
    refine ⟨fun _ => none, rfl, by simp [C]; omega, fun t => ?_, fun k c hk => by simp [initSt] at hk, fun k k' c c' b hk => by simp [initSt] at hk, fun k c b hk => by simp [initSt] at hk, Below.refl _ _, Nat.le_refl _, fun c v hk => hk.elim⟩
    show Rep _ (pargs.getD t (.raw undef)) _
    rcases Nat.lt_or_ge t args.length with hlt | hge
    · have hlt' : t < pargs.length := by omega
      have e1 : pargs.getD t (.raw undef) = pargs[t] := by simp [hlt']
      have e2 : (args.toArray ++ Array.replicate (fn.ntmps - args.toArray.size) undef).getD t undef = args[t] := by
        rw [Array.getD_eq_getD_getElem?, Array.getElem?_append_left (by simpa using hlt)]
        simp [hlt]
      rw [e1, e2]
      refine .d ((hargs t pargs[t] args[t] (List.getElem?_eq_getElem hlt') (List.getElem?_eq_getElem hlt)).weaken fun b hb => ⟨hb.1, hb.2, fun k c hk => by simp [initSt] at hk⟩)
    · have e1 : pargs.getD t (.raw undef) = .raw undef := by simp [List.getElem?_eq_none (by omega : pargs.length ≤ t)]
      have e2 : (args.toArray ++ Array.replicate (fn.ntmps - args.toArray.size) undef).getD t undef = undef := by
        rw [Array.getD_eq_getD_getElem?, Array.getElem?_append_right (by simpa using hge)]
        rcases Nat.lt_or_ge (t - args.toArray.size) (fn.ntmps - args.toArray.size) with h1 | h1
        · rw [Array.getElem?_replicate, if_pos h1]; rfl
        · rw [Array.getElem?_eq_none (by simpa using h1)]; rfl
      rw [e1, e2]
      exact .d (.raw _)
  refine calls_of_wp hf hb (wp_mono (PWP.sound hG body _ _ _ w hc (fun _ hq => hq) hsim h) ?_)
  have fin : ∀ {s : St} {a : Act} {w' : World}, SimE C s a w' → PostO fn T sz rows s → a.defers = [] ∧ ∃ v, (results fn a.tmps).run P w' = .ok v w' ∧ ∃ u, Ending.returned v = .returned u ∧ Below w.heap.size w w' ∧ OwnV w w' T sz rows u := by
    rintro s a w' ⟨γ, hs⟩ ⟨t, k, g, m, kd, h1, h2, h3, h4, h5⟩
    refine ⟨hs.defers, a.tmps.getD t undef, ?_, _, rfl, hs.below, ?_⟩
    · unfold results
      rw [← Array.toArray_toList (xs := fn.results), h1]
      simp
    · have hr := hs.regs t
      rw [h2] at hr
      subst h4
      rcases hs.als_at hr h3 with ⟨e1, _, _, e4⟩ | ⟨b, cap, cur, e1, e2, e3, e4, e5, e6, e7⟩
      · exact .inl ⟨(hs.sites k _ (by rw [h3])).emp e1, e4⟩
      · obtain ⟨cur', g1, g2, g3, g4, g5⟩ := hs.site_at h3 e1 (hs.cells_sz h3 e1 e3 e6)
        have hcc : cur' = cur := by
          have e3 : w'.heap[b]? = some (.cells cur T (0, 0)) := e3
          have g1 : w'.heap[b]? = some (.cells cur' T (0, 0)) := g1
          rw [g1] at e3
          simpa using e3
        subst hcc
        refine .inr ⟨b, cap, cur', (hs.base k _ b (by rw [h3]) e1).1, by simpa using e2, e3, e4, e5, by simpa using e6, g2, g3, g4, fun i j row c r1 r2 => ?_⟩
        obtain ⟨u, u1, u2, u3⟩ := g5 i j row c r1 r2
        have hfl : c.flat1 = true := List.all_eq_true.1 (List.all_eq_true.1 h5 row (List.mem_of_getElem? r1)) c (List.mem_of_getElem? r2)
        exact ⟨u, u1, u2, fun w ok => flat1_any hfl u3 envOf_okfok w ok⟩
  rintro e a w' ⟨s, hs, hq⟩
  cases e
  case normal => exact fin hs hq
  case ret => exact fin hs hq
  all_goals exact hq.elim
theorem endO {fn : Func} {T : TypeId} {sz : Nat} {rows rows' : List (List PV)} {t k g m kd : Nat} (h : fn.results.toList = [.tmp t]) (hv : s.reg t = .als k g 0 m) (ho : s.own k = (g, some ⟨T, sz, rows, kd⟩)) (hm : m = rows.length) (hf : rows.all (·.all PV.flat1) = true) (hr : rows = rows') : RetPostO fn T sz rows' .ret s := by
  subst hr
  exact ⟨t, k, g, m, kd, h, hv, ho, hm, hf⟩
theorem sm_callO {d : Nat} {ty : TypeId} {pos : String} {af : Array Edge} {fop : Operand} {args : Array Operand} {tys : Array TypeId} {f : FuncId} {caps pargs : List PV} {Cd : Prop} {b : Fl} {T : TypeId} {sz gn : Nat} {oc : Option Cont} {rows : List (List PV)} {K : St → Prop}
    (hf : s.ev fop = .clo f caps) (hret : RetO P f pargs T sz rows) (hres : resL (res s 4) (args.toList.map s.ev ++ caps) = some (pargs, Cd, b)) (hc : Cd) (hown : s.own d = (gn, oc))
    (h : K ((s.setOwn d (gn + 1) (some ⟨T, sz, rows, 0⟩)).putR d (.als d (gn + 1) 0 rows.length))) : Sm P L s ⟨some d, .call ⟨.value fop, args, tys⟩, ty, pos, af, none⟩ K := by
  intro C a w Q hG hs hN
  obtain ⟨γ, hs⟩ := hs
  have hfv := hs.ev fop
  rw [hf] at hfv
  obtain ⟨vs, hv, hl, hd⟩ := hfv.clo_inv
  have hspec := resL_spec (S := Rep (envOf C γ s w)) (R := fun b => DRep w (okArg C γ s w b)) (fun b1 b2 c v => ⟨fun hd => hd.weaken fun k => okArg_and.1, fun hd => hd.weaken fun k => okArg_and.2⟩) (fun c d Cd b v e1 e2 e3 => res_spec hG.x hs 4 c d Cd b v e1 e2 e3) _ _ _ _ (args.toList.map a.eval ++ vs) hres hc
    (by simp [hl]) (fun i c v e1 e2 => by
      rw [List.getElem?_append] at e1 e2
      simp only [List.length_map] at e1 e2
      split at e1
      · rename_i hlt
        rw [if_pos hlt] at e2
        rw [List.getElem?_map] at e1 e2
        cases hx : args.toList[i]? with
        | none => rw [hx] at e1; simp at e1
        | some x => rw [hx] at e1 e2; simp at e1 e2; subst e1; subst e2; exact hs.ev x
      · rename_i hlt
        rw [if_neg hlt] at e2
        exact hd _ c v e1 e2)
  unfold Oper.wp
  rw [run_call (f := f) rfl hv hret.1, Oper.upon_enter]
  refine (hret.2 w (fun k => k < w.heap.size ∧ ¬ okArg C γ s w b k) _ (hG.glob _ hs.below) (fun _ hb => hb.1) hspec.1 (fun i c v e1 e2 => (hspec.2 i c v e1 e2).weaken fun k hk => ⟨hk.1, fun hn => hn.2 hk⟩)).mono ?_
  rintro e w' ⟨v, rfl, hbel, hov⟩
  have main : ∀ (blk : Option Nat), (∀ b, blk = some b → b < w'.heap.size ∧ w.heap.size ≤ b) → SiteOk (envOf C (upg γ d blk) (s.fin d ⟨T, sz, rows, 0⟩) w') blk ⟨T, sz, rows, 0⟩ → AlsAt w' ⟨blk, T, sz, rows.length⟩ 0 rows.length v → ∃ s', SimE C s' (a.put (some d) v) w' ∧ K s' := by
    intro blk hblk hsite hals
    have ht : Turn C γ s w w' d blk := ⟨hbel.os, hbel.tape, hbel.output, hbel.size, fun b hb => .inl (hbel.block b hb), fun b hb => ⟨(hblk b hb).1, .inl (hblk b hb).2⟩⟩
    have hsim := ht.sim hs hsite
    have hfin : s.fin d ⟨T, sz, rows, 0⟩ = s.setOwn d (gn + 1) (some ⟨T, sz, rows, 0⟩) := by rw [St.fin, hown]
    rw [hfin] at hsim
    refine ⟨_, ⟨_, hsim.put (d := some d) hN (.als ?_ fun _ l hl => ?_)⟩, h⟩
    · show _ ≤ ((s.setOwn d (gn + 1) (some ⟨T, sz, rows, 0⟩)).own d).1
      rw [setOwn_same]; exact Nat.le_refl _
    · simp only [envOf, setOwn_same, upg_same, Option.map_some, Option.some.injEq] at hl
      subst hl
      exact hals
  rcases hov with ⟨rfl, rfl⟩ | ⟨b, cap, cur, h1, rfl, h3, h4, h5, h6, h7, h8, h9, h10⟩
  · exact main none (fun b hb => by cases hb) (.none_ rfl) (.inl ⟨rfl, rfl, rfl, rfl⟩)
  · have hb : b < w'.heap.size := (Array.getElem?_eq_some_iff.1 h3).1
    refine main (some b) (fun b' hb' => by simp at hb'; subst hb'; exact ⟨hb, h1⟩) ⟨(fun e => by cases e), (fun b' _ hz => by simp only at hz; omega), (fun b' _ hz => by simp only at hz; omega), fun b' hb' _ => ?_⟩ (.inr ⟨b, cap, cur, rfl, by simp, h3, h4, h5, by simpa using h6, by simp⟩)
    simp at hb'; subst hb'
    refine ⟨cur, h3, h7, h8, h9, fun i j row pv e1 e2 => ?_⟩
    obtain ⟨u, u1, u2, u3⟩ := h10 i j row pv e1 e2
    exact ⟨u, u1, u2, u3 _ _⟩
inductive TC where
  | p (o : Nat)
  | c (v : PV)
def TC.ok (sz : Nat) : TC → Bool
  | .p o => Nat.blt o sz
  | .c v => v.flat1
end
end Go.Pv


namespace Go.Pv
open Go.RowKit
variable [Globs]
def gB (ops : Array Oper) (s : St) : Option (Nat × Bool) → Option Bool
  | none => some true
  | some (j, want) => match (ops[j]?).bind (·.dst) with
    | some e => match s.reg e with
      | .bool b => match b, want with
        | true, true => some true
        | false, false => some true
        | true, false => some false
        | false, true => some false
      | .raw u => match u with
        | .tuple a => match a with
          | ⟨[]⟩ => some false
          | _ => none
        | _ => none
      | _ => none
    | none => none
def sOp (L : Lay) (s : St) : Option Nat → Op → Option (St × Prop)
  | some d, .box T x => match (s.ev x).fz, s.own d with
    | some v, (gn, _) => match oneL s v.cells with
      | some Pr => some ((s.setOwn d (gn + 1) (some ⟨T, v.cells.length, [v.cells], 2⟩)).putR d (.ptr d (gn + 1) 0 0), Nat.blt 0 v.cells.length = true ∧ Pr)
      | none => none
    | none, _ => none
  | some d, .alloc T => match L T with
    | some r => match r.zero, s.own d with
      | some z, (gn, _) => some ((s.setOwn d (gn + 1) (some ⟨T, z.length, [z], 2⟩)).putR d (.ptr d (gn + 1) 0 0), Nat.blt 0 z.length = true)
      | none, _ => none
    | none => none
  | none, .store T x y => match L T with
    | some r => match s.ev x with
      | .ptr k gn i jj => match i with
        | 0 => match s.own k with
          | (gn', some ⟨tc, sz, rows, kd⟩) => match rows, kd with
            | [row], 2 => match (s.ev y).fz with
              | some v => match oneL s v.cells with
                | some Pr => some (s.setOwn k gn (some ⟨tc, sz, [splc row jj v.cells], 2⟩), gn' = gn ∧ v.cells.length = r.size ∧ Nat.ble (jj + r.size) row.length = true ∧ Pr)
                | none => none
              | none => none
            | _, _ => none
          | (_, none) => none
        | _ => none
      | _ => none
    | none => none
  | some d, op => match qv L s op with
    | some (pv, Cd) => some (s.putR d pv, Cd)
    | none => none
  | none, _ => none
section
variable {P : Program} {L : Lay} {s s' : St} {ops : Array Oper} {K : St → Prop} {Q : Exit → St → Prop} {rest : List Oper}
theorem gB_yes {o : Oper} (h : gB ops s o.guard = some true) : Wants ops s o true := by
  cases hg : o.guard with
  | none => exact .none hg
  | some p =>
    obtain ⟨j, want⟩ := p
    rw [hg] at h
    simp only [gB] at h
    split at h
    · rename_i e hd
      split at h
      · rename_i b hr
        cases b <;> cases want <;> simp at h
        · exact .yes hg hd hr
        · exact .yes hg hd hr
      · split at h
        · split at h <;> cases h
        · cases h
      · cases h
    · cases h
theorem gB_no {o : Oper} (h : gB ops s o.guard = some false) : Wants ops s o false := by
  cases hg : o.guard with
  | none => rw [hg] at h; cases h
  | some p =>
    obtain ⟨j, want⟩ := p
    rw [hg] at h
    simp only [gB] at h
    split at h
    · rename_i e hd
      split at h
      · rename_i b hr
        cases b <;> cases want <;> simp at h
        · exact .no hg hd hr (by simp)
        · exact .no hg hd hr (by simp)
      · rename_i hr
        split at h
        · split at h
          · exact .junk hg hd hr
          · cases h
        · cases h
      · cases h
    · cases h
theorem sOp_ok {d : Option Nat} {op : Op} {Cd : Prop} {ty : TypeId} {pos : String} {af : Array Edge} {g : Option (Nat × Bool)} (h : sOp L s d op = some (s', Cd)) (hc : Cd) (hk : K s') : POp P L s ⟨d, op, ty, pos, af, g⟩ K := by
  unfold sOp at h
  split at h
  · split at h
    · rename_i hx hown
      split at h
      · rename_i h1
        cases h
        exact o_box hx hown h1 hc.2 hc.1 hk
      · cases h
    · cases h
  · split at h
    · rename_i hr
      split at h
      · rename_i hz hown
        cases h
        exact o_alloc hr hz hown hc hk
      · cases h
    · cases h
  · split at h
    · rename_i r hr
      split at h
      · rename_i hx
        split at h
        · split at h
          · rename_i hown
            split at h
            · split at h
              · rename_i hv
                split at h
                · rename_i h1
                  cases h
                  obtain ⟨c1, c2, c3, c4⟩ := hc
                  subst c1
                  exact o_store1 hr hx hown hv h1 c4 c2 c3 rfl hk
                · cases h
              · cases h
            · cases h
          · cases h
        · cases h
      · cases h
    · cases h
  · split at h
    · rename_i hq
      cases h
      exact op_v hq hc hk
    · cases h
  · cases h
def stS (P : Program) (L : Lay) (ops : Array Oper) (K : St → Prop) : List Oper → St → Option (Prop × Prop)
  | [], s => some (True, K s)
  | o :: rest, s => match o with
    | ⟨d, op, _, _, _, g⟩ => match gB ops s g with
      | some true => match sOp L s d op with
        | some (s', Cd) => some (Cd, POps P L ops K rest s')
        | none => none
      | some false => some (True, POps P L ops K rest (s.put d (.raw undef)))
      | none => none
theorem zs {l : List Oper} {Cd A : Prop} (h : stS P L ops K l s = some (Cd, A)) (hc : Cd) (k : A) : POps P L ops K l s := by
  cases l with
  | nil => cases h; exact k
  | cons o rest =>
    obtain ⟨d, op, ty, pos, af, g⟩ := o
    unfold stS at h
    dsimp only at h
    split at h
    · rename_i hg
      split at h
      · rename_i hs
        cases h
        exact .inl ⟨gB_yes hg, sOp_ok hs hc k⟩
      · cases h
    · rename_i hg
      cases h
      exact .inr ⟨gB_no hg, k⟩
    · cases h
def stQ (P : Program) (L : Lay) (ops : Array Oper) (K : St → Prop) : List Oper → St → Option (Prop × Prop)
  | [], s => some (True, K s)
  | o :: rest, s => match o with
    | ⟨d, op, _, _, _, g⟩ => match gB ops s g with
      | some true => match d with
        | some d => match qv L s op with
          | some (pv, Cd) => some (Cd, PQuiet P L ops K rest (s.putR d pv))
          | none => none
        | none => none
      | some false => some (True, PQuiet P L ops K rest (s.put d (.raw undef)))
      | none => none
theorem zq {l : List Oper} {Cd A : Prop} (h : stQ P L ops K l s = some (Cd, A)) (hc : Cd) (k : A) : PQuiet P L ops K l s := by
  cases l with
  | nil => cases h; exact k
  | cons o rest =>
    obtain ⟨d, op, ty, pos, af, g⟩ := o
    unfold stQ at h
    dsimp only at h
    split at h
    · rename_i hg
      split at h
      · split at h
        · rename_i hs
          cases h
          exact .inl ⟨gB_yes hg, _, .v hs hc, k⟩
        · cases h
      · cases h
    · rename_i hg
      cases h
      exact .inr ⟨gB_no hg, k⟩
    · cases h
def stW (P : Program) (L : Lay) : Code → (Exit → St → Prop) → St → Option Prop
  | .skip, Q, s => some (Q .normal s)
  | .region _ ops false, Q, s => match ops with | ⟨l⟩ => some (POps P L ops (Q .normal) l s)
  | .seq x y, Q, s => some (PWP P L x (XThen (fun s' => PWP P L y Q s') Q) s)
  | .cond c x y, Q, s => match s.ev c with
    | .bool b => match b with
      | true => some (PWP P L x Q s)
      | false => some (PWP P L y Q s)
    | _ => none
  | .block id c, Q, s => some (PWP P L c (XBlock id Q) s)
  | .exit id, Q, s => some (Q (.exit id) s)
  | .ret, Q, s => some (Q .ret s)
  | _, _, _ => none
theorem zw {c : Code} {A : Prop} (h : stW P L c Q s = some A) (k : A) : PWP P L c Q s := by
  unfold stW at h
  split at h
  · cases h; exact pw_skip k
  · cases h; exact pw_region k
  · cases h; exact k
  · split at h
    · rename_i hc
      split at h
      · cases h; exact pw_true hc k
      · cases h; exact pw_false hc k
    · cases h
  · cases h; exact k
  · cases h; exact pw_exit k
  · cases h; exact pw_ret k
  · cases h
def stX (next : St → Prop) (Q : Exit → St → Prop) : Exit → St → Option Prop
  | .normal, s => some (next s)
  | .ret, s => some (Q .ret s)
  | .exit id, s => some (Q (.exit id) s)
  | _, _ => none
theorem zx {next : St → Prop} {e : Exit} {A : Prop} (h : stX next Q e s = some A) (k : A) : XThen next Q e s := by
  unfold stX at h
  split at h <;> cases h <;> exact k
def stB (id : Nat) (Q : Exit → St → Prop) : Exit → St → Option Prop
  | .normal, s => some (Q .normal s)
  | .ret, s => some (Q .ret s)
  | .exit id', s => match Nat.beq id' id with
    | true => some (Q .normal s)
    | false => some (Q (.exit id') s)
  | _, _ => none
theorem zb {id : Nat} {e : Exit} {A : Prop} (h : stB id Q e s = some A) (k : A) : XBlock id Q e s := by
  unfold stB at h
  split at h
  · cases h; exact k
  · cases h; exact k
  · split at h
    · rename_i he
      cases h
      have := Nat.eq_of_beq_eq_true he
      subst this
      exact xb_here k
    · rename_i he
      cases h
      exact xb_away he k
  · cases h
theorem zsq {d : Nat} {op : Op} {ty : TypeId} {pos : String} {af : Array Edge} {g : Option (Nat × Bool)} {pv : PV} (hg : gB ops s g = some true) (hq : QOp P L s ⟨some d, op, ty, pos, af, g⟩ pv) (k : POps P L ops K rest (s.putR d pv)) : POps P L ops K (⟨some d, op, ty, pos, af, g⟩ :: rest) s :=
  .inl ⟨gB_yes hg, op_q hq k⟩
theorem zqq {d : Nat} {op : Op} {ty : TypeId} {pos : String} {af : Array Edge} {g : Option (Nat × Bool)} {pv : PV} (hg : gB ops s g = some true) (hq : QOp P L s ⟨some d, op, ty, pos, af, g⟩ pv) (k : PQuiet P L ops K rest (s.putR d pv)) : PQuiet P L ops K (⟨some d, op, ty, pos, af, g⟩ :: rest) s :=
  .inl ⟨gB_yes hg, _, hq, k⟩
def isNx : Op → Bool
  | .next _ _ => true
  | _ => false
def st3 (P : Program) (L : Lay) (ops : Array Oper) (Z : List Nat) (cls : Nat → Bool) (K : St → Prop) (i : Nat) : List Oper → St → Option (Prop × Prop)
  | [], s => some (True, K s)
  | o :: rest, s => match o with
    | ⟨d, op, _, _, _, g⟩ => match gB ops s g with
      | some true => match d with
        | some d => match cls i with
          | true => match qv L s op with
            | some (pv, Cd) => some (Cd, P3 P L ops Z cls K (i + 1) rest (s.putR d pv))
            | none => none
          | false => match qv L (s.erase Z) op with
            | some (pv, Cd) => some (Cd, P3 P L ops Z cls K (i + 1) rest (s.putR d pv))
            | none => none
        | none => none
      | some false => some (True, P3 P L ops Z cls K (i + 1) rest (s.put d (.raw undef)))
      | none => none
theorem z3 {Z : List Nat} {cls : Nat → Bool} {i : Nat} {l : List Oper} {Cd A : Prop} (h : st3 P L ops Z cls K i l s = some (Cd, A)) (hc : Cd) (k : A) : P3 P L ops Z cls K i l s := by
  cases l with
  | nil => cases h; exact k
  | cons o rest =>
    obtain ⟨d, op, ty, pos, af, g⟩ := o
    unfold st3 at h
    dsimp only at h
    split at h
    · rename_i hg
      split at h
      · rename_i dd
        split at h
        · rename_i hcl
          split at h
          · rename_i hs
            cases h
            refine ⟨_, ?_, k⟩
            rw [hcl]
            exact Step3.quiet (o := ⟨some dd, op, ty, pos, af, g⟩) (gB_yes hg) (.v hs hc)
          · cases h
        · rename_i hcl
          split at h
          · rename_i hs
            cases h
            refine ⟨_, ?_, k⟩
            rw [hcl]
            exact Step3.free (o := ⟨some dd, op, ty, pos, af, g⟩) (gB_yes hg) (.v hs hc)
          · cases h
      · cases h
    · rename_i hg
      cases h
      exact ⟨_, .no (gB_no hg), k⟩
    · cases h
theorem z3q {Z : List Nat} {cls : Nat → Bool} {i d : Nat} {op : Op} {ty : TypeId} {pos : String} {af : Array Edge} {g : Option (Nat × Bool)} {pv : PV} (hg : gB ops s g = some true) (hc : cls i = false) (hq : QOp P L (s.erase Z) ⟨some d, op, ty, pos, af, g⟩ pv)
    (k : P3 P L ops Z cls K (i + 1) rest (s.putR d pv)) : P3 P L ops Z cls K i (⟨some d, op, ty, pos, af, g⟩ :: rest) s := by
  refine ⟨_, ?_, k⟩
  rw [hc]
  exact Step3.free (o := ⟨some d, op, ty, pos, af, g⟩) (gB_yes hg) hq
theorem z3c {Z : List Nat} {cls : Nat → Bool} {i d : Nat} {op : Op} {ty : TypeId} {pos : String} {af : Array Edge} {g : Option (Nat × Bool)} {pv : PV} (hg : gB ops s g = some true) (hc : cls i = true) (hq : QOp P L s ⟨some d, op, ty, pos, af, g⟩ pv)
    (k : P3 P L ops Z cls K (i + 1) rest (s.putR d pv)) : P3 P L ops Z cls K i (⟨some d, op, ty, pos, af, g⟩ :: rest) s := by
  refine ⟨_, ?_, k⟩
  rw [hc]
  exact Step3.quiet (o := ⟨some d, op, ty, pos, af, g⟩) (gB_yes hg) hq
theorem z3e {Z : List Nat} {cls : Nat → Bool} {i : Nat} {d : Option Nat} {op : Op} {ty : TypeId} {pos : String} {af : Array Edge} {g : Option (Nat × Bool)} (hg : gB ops s g = some true) (hc : cls i = true) (hn : isNx op = false)
    (h : POp P L s ⟨d, op, ty, pos, af, g⟩ (fun s' => (∀ k, zin Z k = false → s'.own k = s.own k) ∧ P3 P L ops Z cls K (i + 1) rest s')) : P3 P L ops Z cls K i (⟨d, op, ty, pos, af, g⟩ :: rest) s := by
  rcases h with ⟨pv, h1, h2⟩ | ⟨s', h1, h2⟩ | h1
  · refine ⟨_, ?_, h2.2⟩
    rw [hc]
    exact Step3.quiet (o := ⟨d, op, ty, pos, af, g⟩) (gB_yes hg) h1
  · refine ⟨_, ?_, h2.2⟩
    rw [hc]
    exact Step3.eff (o := ⟨d, op, ty, pos, af, g⟩) (gB_yes hg) h1 h2.1
  · exfalso
    cases h1 with
    | next ho =>
      simp only at ho
      rw [ho] at hn
      cases hn
def touch (s : St) : Option Nat → Op → Option Nat
  | some d, .box _ _ => some d
  | some d, .alloc _ => some d
  | none, .store _ x _ => match s.ev x with | .ptr k _ _ _ => some k | _ => none
  | _, _ => none
def st3e (P : Program) (L : Lay) (ops : Array Oper) (Z : List Nat) (cls : Nat → Bool) (K : St → Prop) (i : Nat) : List Oper → St → Option (Prop × Prop)
  | [], _ => none
  | o :: rest, s => match o with
    | ⟨d, op, _, _, _, g⟩ => match gB ops s g, cls i, touch s d op, isNx op with
      | some true, true, some t, false => match zin Z t, sOp L s d op with
        | true, some (s', Cd) => some (Cd, P3 P L ops Z cls K (i + 1) rest s')
        | _, _ => none
      | _, _, _, _ => none
theorem touch_off {d : Option Nat} {op : Op} {t : Nat} {Cd : Prop} (ht : touch s d op = some t) (h : sOp L s d op = some (s', Cd)) : ∀ q, q ≠ t → s'.own q = s.own q := by
  intro q hq
  have one : ∀ (g : Nat) (c : Option Cont), (s.setOwn t g c).own q = s.own q := fun g c => by
    show (bif Nat.beq q t then _ else s.own q) = _
    rw [nbeq_ne hq]; rfl
  unfold touch at ht
  split at ht
  · cases ht
    unfold sOp at h
    dsimp only at h
    split at h
    · split at h
      · cases h; exact one _ _
      · cases h
    · cases h
  · cases ht
    unfold sOp at h
    dsimp only at h
    split at h
    · split at h
      · cases h; exact one _ _
      · cases h
    · cases h
  · split at ht
    · rename_i hx
      cases ht
      unfold sOp at h
      dsimp only at h
      split at h
      · rw [hx] at h
        dsimp only at h
        split at h
        · split at h
          · split at h
            · split at h
              · split at h
                · cases h; exact one _ _
                · cases h
              · cases h
            · cases h
          · cases h
        · cases h
      · cases h
    · cases ht
  · cases ht
theorem z3s {Z : List Nat} {cls : Nat → Bool} {i : Nat} {l : List Oper} {Cd A : Prop} (h : st3e P L ops Z cls K i l s = some (Cd, A)) (hc : Cd) (k : A) : P3 P L ops Z cls K i l s := by
  cases l with
  | nil => cases h
  | cons o rest =>
    obtain ⟨d, op, ty, pos, af, g⟩ := o
    unfold st3e at h
    dsimp only at h
    split at h
    · rename_i hg hcl ht hn
      split at h
      · rename_i hz hs
        cases h
        exact z3e hg hcl hn (sOp_ok hs hc ⟨fun q hq => touch_off ht hs q (fun e => by rw [e, hz] at hq; cases hq), k⟩)
      · cases h
    · cases h
theorem p3_split {Z : List Nat} {cls : Nat → Bool} {i d e j : Nat} {op : Op} {ty : TypeId} {pos : String} {af : Array Edge} {want b : Bool} (_hd : (ops[j]?).bind (·.dst) = some e) (hr : s.reg e = .bool b)
    (h1 : b = true → P3 P L ops Z cls K i (⟨some d, op, ty, pos, af, some (j, want)⟩ :: rest) (s.putR e (.bool true))) (h0 : b = false → P3 P L ops Z cls K i (⟨some d, op, ty, pos, af, some (j, want)⟩ :: rest) (s.putR e (.bool false))) :
    P3 P L ops Z cls K i (⟨some d, op, ty, pos, af, some (j, want)⟩ :: rest) s := by
  have := putR_same hr
  cases b
  · rw [← this]; exact h0 rfl
  · rw [← this]; exact h1 rfl
class Nx (G : Prop) where
  nx : Option (Prop × Prop)
  ok : ∀ Cd A, nx = some (Cd, A) → Cd → A → G
theorem stp {G : Prop} [i : Nx G] {Cd A : Prop} (h : i.nx = some (Cd, A)) (hc : Cd) (k : A) : G := i.ok Cd A h hc k
instance {l : List Oper} : Nx (POps P L ops K l s) := ⟨stS P L ops K l s, fun _ _ h hc k => zs h hc k⟩
instance {l : List Oper} : Nx (PQuiet P L ops K l s) := ⟨stQ P L ops K l s, fun _ _ h hc k => zq h hc k⟩
def or3 (a b : Option (Prop × Prop)) : Option (Prop × Prop) := match a with
  | some x => some x
  | none => b
instance {Z : List Nat} {cls : Nat → Bool} {i : Nat} {l : List Oper} : Nx (P3 P L ops Z cls K i l s) := ⟨or3 (st3 P L ops Z cls K i l s) (st3e P L ops Z cls K i l s), fun _ _ h hc k => by
  unfold or3 at h
  split at h
  · cases h; exact z3 ‹_› hc k
  · exact z3s h hc k⟩
def tr1 : Option Prop → Option (Prop × Prop)
  | some A => some (True, A)
  | none => none
theorem tr1_spec {a : Option Prop} {Cd A : Prop} (h : tr1 a = some (Cd, A)) : a = some A := by
  unfold tr1 at h
  split at h
  · cases h; rfl
  · cases h
instance {c : Code} : Nx (PWP P L c Q s) := ⟨tr1 (stW P L c Q s), fun _ _ h _ k => zw (tr1_spec h) k⟩
instance {next : St → Prop} {e : Exit} : Nx (XThen next Q e s) := ⟨tr1 (stX next Q e s), fun _ _ h _ k => zx (tr1_spec h) k⟩
instance {id : Nat} {e : Exit} : Nx (XBlock id Q e s) := ⟨tr1 (stB id Q e s), fun _ _ h _ k => zb (tr1_spec h) k⟩
def fd1 (b : Bool) (A : Prop) : Option (Prop × Prop) := match b with
  | true => some (True, A)
  | false => none
instance {nm : Nat} {F : List Nat} {G : Prop} : Nx (FD ops nm F s = true ∧ G) := ⟨fd1 (FD ops nm F s) G, fun _ _ h _ k => by
  unfold fd1 at h
  split at h
  · cases h; exact ⟨‹_›, k⟩
  · cases h⟩
class Qx (G : Prop) (P : outParam Program) (L : outParam Lay) (s : outParam St) (ops : outParam (Array Oper)) (l : outParam (List Oper)) (K : outParam (List Oper → Nat → PV → Prop)) where
  ok : ∀ (d : Nat) (op : Op) (ty : TypeId) (pos : String) (af : Array Edge) (g : Option (Nat × Bool)) (rest : List Oper) (pv : PV), l = ⟨some d, op, ty, pos, af, g⟩ :: rest → gB ops s g = some true → QOp P L s ⟨some d, op, ty, pos, af, g⟩ pv → K rest d pv → G
instance {l : List Oper} : Qx (POps P L ops K l s) P L s ops l (fun rest d pv => POps P L ops K rest (s.putR d pv)) :=
  ⟨fun _ _ _ _ _ _ _ _ hl hg hq k => by subst hl; exact zsq hg hq k⟩
instance {l : List Oper} : Qx (PQuiet P L ops K l s) P L s ops l (fun rest d pv => PQuiet P L ops K rest (s.putR d pv)) :=
  ⟨fun _ _ _ _ _ _ _ _ hl hg hq k => by subst hl; exact zqq hg hq k⟩
def St.era (Z : List Nat) (c : Bool) (s : St) : St := match c with
  | true => s
  | false => s.erase Z
theorem gB_era {Z : List Nat} {c : Bool} {g : Option (Nat × Bool)} : gB ops (s.era Z c) g = gB ops s g := by cases c <;> rfl
instance {Z : List Nat} {cls : Nat → Bool} {i : Nat} {l : List Oper} : Qx (P3 P L ops Z cls K i l s) P L (s.era Z (cls i)) ops l (fun rest d pv => P3 P L ops Z cls K (i + 1) rest (s.putR d pv)) :=
  ⟨fun _ _ _ _ _ _ _ _ hl hg hq k => by
    subst hl
    rw [gB_era] at hg
    cases hc : cls i with
    | true => rw [hc] at hq; exact z3c hg hc hq k
    | false => rw [hc] at hq; exact z3q hg hc hq k⟩
theorem qst {G : Prop} {P : Program} {L : Lay} {s : St} {ops : Array Oper} {l : List Oper} {K : List Oper → Nat → PV → Prop} [i : Qx G P L s ops l K] {d : Nat} {op : Op} {ty : TypeId} {pos : String} {af : Array Edge} {g : Option (Nat × Bool)} {rest : List Oper} {pv : PV}
    (hl : l = ⟨some d, op, ty, pos, af, g⟩ :: rest) (hb : gB ops s g = some true) (hq : QOp P L s ⟨some d, op, ty, pos, af, g⟩ pv) (k : K rest d pv) : G := i.ok d op ty pos af g rest pv hl hb hq k
end
end Go.Pv


set_option maxHeartbeats 2000000
namespace Go.Pv
attribute [local irreducible] PWP POps PQuiet PSem XThen XBlock RetPost InlPost
def posK {α : Type} (d : α → Int) (l : List α) (x : α) : Nat → Nat
  | 0 => 0
  | k + 1 => match l[k]? with
    | some y => if d x < d y then posK d l x k else k + 1
    | none => posK d l x k
def posR {α : Type} (d : α → Int) (l : List α) (x : α) : Nat := posK d l x l.length
def insAt {α : Type} (l : List α) (x : α) (k : Nat) : List α := l.take k ++ x :: l.drop k
def insR {α : Type} (d : α → Int) (l : List α) (x : α) : List α := insAt l x (posR d l x)
def sortR {α : Type} (d : α → Int) (l : List α) : List α := l.foldl (insR d) []
theorem posK_le {α : Type} (d : α → Int) (l : List α) (x : α) : ∀ k, posK d l x k ≤ k
  | 0 => Nat.le_refl _
  | k + 1 => by
    have ih := posK_le d l x k
    rw [posK]
    split
    · split <;> omega
    · omega
theorem posR_le {α : Type} (d : α → Int) (l : List α) (x : α) : posR d l x ≤ l.length := posK_le d l x l.length
theorem posK_at {α : Type} {d : α → Int} {l : List α} {x : α} {j : Nat} (h2 : j = 0 ∨ ∃ y, l[j - 1]? = some y ∧ d y ≤ d x) : ∀ k, j ≤ k → k ≤ l.length → (∀ q y, j ≤ q → q < k → l[q]? = some y → d x < d y) → posK d l x k = j
  | 0, hk, _, _ => by rw [posK]; omega
  | k + 1, hk, hl, h1 => by
    obtain ⟨y, hy⟩ : ∃ y, l[k]? = some y := ⟨l[k], List.getElem?_eq_getElem (by omega)⟩
    rw [posK, hy]
    dsimp only
    by_cases he : j = k + 1
    · subst he
      rcases h2 with h2 | ⟨z, hz, hd⟩
      · omega
      · rw [Nat.add_sub_cancel, hy] at hz
        cases hz
        rw [if_neg (by omega)]
    · rw [if_pos (h1 k y (by omega) (by omega) hy)]
      exact posK_at h2 k (by omega) (by omega) fun q z hq hq2 => h1 q z hq (by omega)
theorem posR_at {α : Type} {d : α → Int} {l : List α} {x : α} {j : Nat} (hj : j ≤ l.length) (h1 : ∀ q y, j ≤ q → l[q]? = some y → d x < d y) (h2 : j = 0 ∨ ∃ y, l[j - 1]? = some y ∧ d y ≤ d x) : posR d l x = j :=
  posK_at h2 _ hj (Nat.le_refl _) fun q y hq _ => h1 q y hq
theorem posK_map {α β : Type} (d : β → Int) (f : α → β) (l : List α) (x : α) : ∀ k, posK d (l.map f) (f x) k = posK (fun a => d (f a)) l x k
  | 0 => rfl
  | k + 1 => by
    rw [posK, posK, List.getElem?_map, posK_map d f l x k]
    cases l[k]? <;> rfl
theorem insR_map {α β : Type} (d : β → Int) (f : α → β) (l : List α) (x : α) : insR d (l.map f) (f x) = (insR (fun a => d (f a)) l x).map f := by
  rw [insR, insR, posR, List.length_map, posK_map, ← posR, insAt, insAt]
  simp [List.map_take, List.map_drop]
theorem sortR_map {α β : Type} (d : β → Int) (f : α → β) (l : List α) : sortR d (l.map f) = (sortR (fun a => d (f a)) l).map f := by
  have : ∀ (l acc : List α), (l.map f).foldl (insR d) (acc.map f) = (l.foldl (insR fun a => d (f a)) acc).map f := by
    intro l
    induction l with
    | nil => intro acc; rfl
    | cons x l ih => intro acc; rw [List.map_cons, List.foldl_cons, List.foldl_cons, insR_map, ih]
  exact this l []
theorem insR_perm {α : Type} (d : α → Int) (l : List α) (x : α) : (insR d l x).Perm (x :: l) := by
  rw [insR, insAt]
  exact List.perm_middle.trans (by rw [List.take_append_drop])
theorem sortR_snoc {α : Type} (d : α → Int) (l : List α) (x : α) : sortR d (l ++ [x]) = insR d (sortR d l) x := by
  rw [sortR, List.foldl_append]; rfl
theorem sortR_perm {α : Type} (d : α → Int) (l : List α) : (sortR d l).Perm l := by
  have : ∀ (l acc : List α), (l.foldl (insR d) acc).Perm (acc ++ l) := by
    intro l
    induction l with
    | nil => intro acc; simp
    | cons x l ih =>
      intro acc
      rw [List.foldl_cons]
      refine (ih _).trans (((insR_perm d acc x).append_right l).trans ?_)
      rw [List.cons_append]
      exact List.perm_middle.symm
  exact this l []
theorem sortR_len {α : Type} (d : α → Int) (l : List α) : (sortR d l).length = l.length := (sortR_perm d l).length_eq
theorem insAt_at {α : Type} {l : List α} {x : α} {k : Nat} (hk : k ≤ l.length) : (insAt l x k)[k]? = some x := by
  rw [insAt, List.getElem?_append_right (by simp; omega)]
  simp [Nat.min_eq_left hk]
theorem insAt_lt {α : Type} {l : List α} {x : α} {k q : Nat} (hk : k ≤ l.length) (h : q < k) : (insAt l x k)[q]? = l[q]? := by
  rw [insAt, List.getElem?_append_left (by simp; omega), List.getElem?_take, if_pos h]
theorem insAt_swap {α : Type} {l : List α} {x y : α} {k : Nat} (hk : k + 1 ≤ l.length) (hy : l[k]? = some y) : ((insAt l x (k + 1)).set (k + 1) y).set k x = insAt l x k := by
  obtain ⟨hlt, rfl⟩ := List.getElem?_eq_some_iff.1 hy
  apply List.ext_getElem?
  intro q
  have hl1 : (insAt l x (k + 1)).length = l.length + 1 := by simp [insAt]; omega
  simp only [List.getElem?_set, List.length_set, hl1]
  by_cases h1 : k = q
  · subst h1
    rw [if_pos rfl, if_pos (by omega), insAt_at (by omega)]
  · rw [if_neg h1]
    by_cases h2 : k + 1 = q
    · subst h2
      rw [if_pos rfl, if_pos (by omega), insAt, List.getElem?_append_right (by simp; omega)]
      simp only [List.length_take, Nat.min_eq_left (show k ≤ l.length by omega), Nat.add_sub_cancel_left, List.getElem?_cons_succ, List.getElem?_drop, Nat.add_zero]
      exact (List.getElem?_eq_getElem hlt).symm
    · rw [if_neg h2]
      rcases Nat.lt_or_ge q k with h | h
      · rw [insAt_lt (by omega) h, insAt_lt hk (by omega)]
      · rw [insAt, insAt, List.getElem?_append_right (by simp; omega), List.getElem?_append_right (by simp; omega)]
        simp only [List.length_take, Nat.min_eq_left hk, Nat.min_eq_left (show k ≤ l.length by omega)]
        obtain ⟨r, rfl⟩ : ∃ r, q = k + 2 + r := ⟨q - (k + 2), by omega⟩
        rw [show k + 2 + r - (k + 1) = r + 1 by omega, show k + 2 + r - k = r + 1 + 1 by omega, List.getElem?_cons_succ, List.getElem?_cons_succ, List.getElem?_drop, List.getElem?_drop]
        congr 1; omega
end Go.Pv


namespace Go.Pv
open Go.RowKit
variable [Globs]
section
variable {L : Lay} {s : St} {fn : Func} {r : PV}
end
end Go.Pv


namespace Go.Pv
open Go.RowKit
variable [Globs]
section
variable {P : Program} {L : Lay} {Q : Exit → St → Prop} {s : St}
end
end Go.Pv


namespace Go.Pv
open Go.RowKit
def cpy {α : Type} (l : List α) (i i2 n : Nat) : List α := l.take i ++ (l.drop i2).take n ++ l.drop (i + n)
theorem cpy_len {α : Type} (l : List α) {i i2 n : Nat} (h1 : i + n ≤ l.length) (h2 : i2 + n ≤ l.length) : (cpy l i i2 n).length = l.length := by
  simp only [cpy, List.length_append, List.length_take, List.length_drop]; omega
theorem cpy_map {α β : Type} (f : α → β) (l : List α) (i i2 n : Nat) : cpy (l.map f) i i2 n = (cpy l i i2 n).map f := by
  simp [cpy, List.map_append, List.map_take, List.map_drop]
theorem cpy_at {α : Type} {l : List α} {i i2 n j : Nat} {x : α} (h1 : i + n ≤ l.length) (h2 : i2 + n ≤ l.length) (h : (cpy l i i2 n)[j]? = some x) : l[if i ≤ j ∧ j < i + n then j - i + i2 else j]? = some x := by
  unfold cpy at h
  rw [List.append_assoc, List.getElem?_append] at h
  simp only [List.length_take] at h
  split at h
  · rename_i hj
    rw [List.getElem?_take] at h
    split at h
    · rw [if_neg (by omega)]; exact h
    · cases h
  · rename_i hj
    rw [List.getElem?_append] at h
    simp only [List.length_take, List.length_drop] at h
    split at h
    · rename_i hj2
      rw [List.getElem?_take] at h
      split at h
      · rw [List.getElem?_drop] at h
        rw [if_pos (by omega), show j - i + i2 = i2 + (j - min i l.length) by omega]; exact h
      · cases h
    · rename_i hj2
      rw [List.getElem?_drop] at h
      rw [if_neg (by omega), show j = i + n + (j - min i l.length - min n (l.length - i2)) by omega]
      exact h
section
variable {P : Program} {L : Lay} {C : Ctx} {γ : Nat → Option Nat} {s : St} {a : Act} {w w' : World}
theorem run_copy_any (w : World) (dT sT ty elem : TypeId) (i : TypeInfo) (g o dLen dCap : Nat) (a : Addr) (sLen sCap : Nat) (cur : Array Value) (t : TypeId) (cs : List Value)
    (hu : P.underlying dT = some (.slice elem)) (hi : P.info? elem = some i)
    (hg : w.heap[g]? = some (.cells cur t (0, 0))) (hn : cs.length = Nat.min sLen dLen * i.size)
    (hsrc : ∀ j v, cs[j]? = some v → w.cell? (a.add j) = some v) (hfit : o + cs.length ≤ cur.size) (h1 : ∀ v ∈ cs, v.oneCell' = true) :
    (Builtin.copy_ #[dT, sT] ty #[.slice (some ⟨g, o, none⟩) dLen dCap, .slice (some a) sLen sCap]).run P w =
      .ok (goInt (Nat.min sLen dLen)) (w.setRow g (cur.toList.take o ++ cs ++ cur.toList.drop (o + cs.length)).toArray) := by
  have hl := run_loadCells_list (P := P) w a cs hsrc
  have hst := run_storeCells_at P g o t cs 0 cur w hg (by simpa using hfit) h1
  rw [hn] at hl
  simp [Builtin.copy_, run_underlying hu, Builtin.lenOf, Builtin.firstCells, sizeOf, typeInfo, hi, hl, hst]
variable [Globs]
theorem sm_copy {x y : Operand} {T T2 e ty : TypeId} {r re : LRow} {k g i m i2 m2 n : Nat} {c : Cont} {dst : Option Nat} {pos : String} {af : Array Edge} {K : St → Prop} (hL : LOk P L)
    (hr : L T = some r) (hs : r.sh = .sl e) (hre : L e = some re) (hsz : c.sz = re.size) (hz : 0 < c.sz) (hrows : 0 < c.rows.length)
    (hx : s.ev x = .als k g i m) (hy : s.ev y = .als k g i2 m2) (ho : s.own k = (g, some c)) (hn : n = Nat.min m2 m)
    (h : K ((s.setOwn k g (some { c with rows := cpy c.rows i i2 n })).put dst (.int .i64 n))) :
    Sm P L s ⟨dst, .call ⟨.builtin .copy, #[x, y], #[T, T2]⟩, ty, pos, af, none⟩ K := by
  intro C a w Q hG ⟨γ, hsim⟩ hN
  have hxr := hsim.ev x
  rw [hx] at hxr
  have hyr := hsim.ev y
  rw [hy] at hyr
  have hsite := hsim.sites k c (by rw [ho])
  rcases hsim.als_at hxr ho with ⟨h1, _⟩ | ⟨b, cap, cur, h1, h2, h3, h4, h5, h6, h7⟩
  · have := hsite.emp h1
    rw [this] at hrows
    exact absurd hrows (by simp)
  rcases hsim.als_at hyr ho with ⟨g1, _⟩ | ⟨b', cap2, cur2, g1, g2, g3, g4, g5, g6, g7⟩
  · have := hsite.emp g1
    rw [this] at hrows
    exact absurd hrows (by simp)
  have h1 : γ k = some b := h1
  have g1 : γ k = some b' := g1
  rw [h1] at g1
  cases g1
  have h3 : w.heap[b]? = some (.cells cur c.ty (0, 0)) := h3
  have h7 : i + m ≤ c.rows.length := h7
  have g7 : i2 + m2 ≤ c.rows.length := g7
  rw [h1] at hsite
  obtain ⟨cur0, k1, _, k3, hflat⟩ := hsite.flat hz
  have k1 : w.heap[b]? = some (.cells cur0 c.ty (0, 0)) := k1
  rw [h3] at k1
  simp only [Option.some.injEq, Obj.cells.injEq, and_true] at k1
  subst k1
  obtain ⟨ii, dd, hi, hud, hisz, hiby, _, hzero⟩ := LRow.spec (hL e re hre)
  have hu := und_sl (hL T r hr) hs
  have hnm : n ≤ m := by rw [hn]; exact Nat.min_le_right _ _
  have hnm2 : n ≤ m2 := by rw [hn]; exact Nat.min_le_left _ _
  have hmul : ∀ p q : Nat, p ≤ q → p * c.sz ≤ q * c.sz := fun p q hpq => Nat.mul_le_mul_right _ hpq
  have e1 := hmul (i2 + n) c.rows.length (by omega)
  have e2 := hmul (i + n) c.rows.length (by omega)
  rw [Nat.add_mul] at e1 e2
  have hV : ∀ q, (cur.toList.take (c.rows.length * c.sz))[q]? = if q < c.rows.length * c.sz then cur.toList[q]? else none := fun q => by rw [List.getElem?_take]
  have hone : ∀ q v, q < c.rows.length * c.sz → cur.toList[q]? = some v → v.oneCell' = true := by
    intro q v hq hv
    have hqi : q / c.sz < c.rows.length := (Nat.div_lt_iff_lt_mul hz).2 hq
    have hqj : q % c.sz < c.sz := Nat.mod_lt _ hz
    have hqe : q / c.sz * c.sz + q % c.sz = q := by rw [Nat.mul_comm]; exact Nat.div_add_mod q c.sz
    have hx1 : c.rows[q / c.sz]? = some c.rows[q / c.sz] := List.getElem?_eq_getElem hqi
    have hrl := hflat.row_ _ (List.mem_of_getElem? hx1)
    have hx2 : (c.rows[q / c.sz])[q % c.sz]? = some ((c.rows[q / c.sz])[q % c.sz]'(by rw [hrl]; exact hqj)) := List.getElem?_eq_getElem _
    obtain ⟨u, f1, f2, _⟩ := hflat.at_ _ _ _ _ hx1 hx2
    rw [hqe, hV, if_pos hq, hv] at f1
    cases f1
    exact f2
  let cs := (cur.toList.drop (i2 * c.sz)).take (n * c.sz)
  have hcl : cs.length = n * c.sz := by simp only [cs, List.length_take, List.length_drop, Array.length_toList]; omega
  have hcs : ∀ j v, cs[j]? = some v → j < n * c.sz ∧ cur.toList[i2 * c.sz + j]? = some v := by
    intro j v hv
    simp only [cs, List.getElem?_take] at hv
    split at hv
    · rw [List.getElem?_drop] at hv; exact ⟨‹_›, hv⟩
    · cases hv
  have hrun := run_copy_any (P := P) w T T2 ty e ii b (i * c.sz) m cap ⟨b, i2 * c.sz, none⟩ m2 cap2 cur c.ty cs hu hi h3 (by rw [hcl, hisz, ← hsz, ← hn]) (fun j v hv => ?_) (by rw [hcl]; omega) (fun v hv => ?_)
  rotate_left
  · obtain ⟨hj, hv⟩ := hcs j v hv
    have hadd : (⟨b, i2 * c.sz, none⟩ : Addr).add j = ⟨b, i2 * c.sz + j, none⟩ := by unfold Addr.add; split <;> simp_all
    rw [hadd]
    simp only [World.cell?, h3]
    rw [← Array.getElem?_toList]
    exact hv
  · obtain ⟨j, hj⟩ := List.getElem?_of_mem hv
    obtain ⟨hj1, hj2⟩ := hcs j v hj
    exact hone _ v (by omega) hj2
  rw [← hn] at hrun
  have hsize : (cur.toList.take (i * c.sz) ++ cs ++ cur.toList.drop (i * c.sz + cs.length)).toArray.size = cur.size := by
    simp only [List.size_toArray, List.length_append, List.length_take, List.length_drop, Array.length_toList]; omega
  have hcp := cpy_len c.rows (i := i) (i2 := i2) (n := n) (by omega) (by omega)
  have hst := store_sim (c' := { c with rows := cpy c.rows i i2 n }) hsim ho h1 h3 hsize rfl rfl (by rw [hcp]; exact Nat.le_refl _) ?_
  · unfold Oper.wp
    have : (execOp a.eval ⟨dst, .call ⟨.builtin .copy, #[x, y], #[T, T2]⟩, ty, pos, af, none⟩).run P w = .ok (.value (goInt n)) (w.setRow b (cur.toList.take (i * c.sz) ++ cs ++ cur.toList.drop (i * c.sz + cs.length)).toArray) := by
      simp only [execOp, resolve, invoke, builtin, Sem.run_bind, Sem.run_pure, Result.andThen_ok, List.map_toArray, List.map_cons, List.map_nil]
      rw [h2, g2, hrun]; rfl
    rw [this, Oper.upon_value]
    exact ⟨_, ⟨γ, hst.put (d := dst) hN (.d (.int _ _))⟩, h⟩
  · have hlE := store_le (c' := { c with rows := cpy c.rows i i2 n }) hsim ho h1 h3 hsize rfl rfl (by rw [hcp]; exact Nat.le_refl _)
    refine ⟨(fun e => by cases e), (fun b' _ hz' => by simp only at hz'; omega), (fun b' _ hz' => by simp only at hz'; omega), fun b' hb' _ => ?_⟩
    simp at hb'; subst hb'
    refine ⟨_, setRow_heap w b cur _ c.ty (0, 0) h3, hz, by rw [hsize, hcp]; exact k3, fun row hr => ?_, fun i' j' row pv f1 f2 => ?_⟩
    · obtain ⟨j, hj⟩ := List.getElem?_of_mem hr
      exact hflat.row_ row (List.mem_of_getElem? (cpy_at (by omega) (by omega) hj))
    · have hp := cpy_at (by omega) (by omega) f1
      obtain ⟨v, q1, q2, q3⟩ := hflat.at_ _ _ _ _ hp f2
      refine ⟨v, ?_, q2, q3.mono hlE⟩
      have hjl : j' < c.sz := by rw [← hflat.row_ row (List.mem_of_getElem? hp)]; exact (List.getElem?_eq_some_iff.1 f2).1
      have hpl := hmul (_ + 1) _ (List.getElem?_eq_some_iff.1 hp).1
      rw [Nat.add_mul, Nat.one_mul] at hpl
      rw [hV, if_pos (by omega)] at q1
      show (cur.toList.take (i * c.sz) ++ cs ++ cur.toList.drop (i * c.sz + cs.length)).toArray[i' * c.sz + j']? = some v
      have hi' := hmul i i'
      have hi2 := hmul (i' + 1) i
      have hi3 := hmul (i' + 1) (i + n)
      have hi4 := hmul (i + n) i'
      simp only [Nat.add_mul, Nat.one_mul] at hi2 hi3 hi4
      have hi6 : (c.rows.length) * c.sz ≤ cur.toList.length := by simpa using k3
      rw [List.getElem?_toArray, List.append_assoc, List.getElem?_append, List.length_take]
      split at q1
      · rename_i hin
        have hq : (i' - i + i2) * c.sz = i' * c.sz - i * c.sz + i2 * c.sz := by rw [Nat.add_mul, Nat.sub_mul]
        rw [hq] at q1
        rw [if_neg (by omega), List.getElem?_append, if_pos (by omega)]
        simp only [cs, List.getElem?_take]
        rw [if_pos (by omega), List.getElem?_drop, ← q1]
        congr 1
        omega
      · rename_i hin
        by_cases hlt : i' < i
        · rw [if_pos (by omega), List.getElem?_take, if_pos (by omega)]; exact q1
        · rw [if_neg (by omega), List.getElem?_append, if_neg (by omega), List.getElem?_drop, ← q1]
          congr 1
          omega
theorem sm_copy0 {x y : Operand} {T T2 e ty : TypeId} {r re : LRow} {k g i2 m2 : Nat} {c : Cont} {dst : Option Nat} {pos : String} {af : Array Edge} {K : St → Prop} (hL : LOk P L)
    (hr : L T = some r) (hs : r.sh = .sl e) (hre : L e = some re) (hx : s.ev x = .sl []) (hy : s.ev y = .als k g i2 m2) (ho : s.own k = (g, some c)) (h : K (s.put dst (.int .i64 0))) :
    Sm P L s ⟨dst, .call ⟨.builtin .copy, #[x, y], #[T, T2]⟩, ty, pos, af, none⟩ K := by
  intro C a w Q hG ⟨γ, hsim⟩ hN
  have hxr := hsim.ev x
  rw [hx] at hxr
  have hyr := hsim.ev y
  rw [hy] at hyr
  obtain ⟨ii, dd, hi, hud, hisz, hiby, _, hzero⟩ := LRow.spec (hL e re hre)
  have hu := und_sl (hL T r hr) hs
  cases hxr with | d hd =>
  obtain ⟨ad, cap, hv⟩ : ∃ ad cap, a.eval x = .slice ad 0 cap := by
    rcases sl_inv (E := envOf C γ s w) hd with ⟨_, ad, cap, hv⟩ | ⟨b, off, cap, sz, vals, hv, _⟩
    · exact ⟨ad, cap, hv⟩
    · exact ⟨_, cap, hv⟩
  obtain ⟨ad2, cap2, hv2⟩ : ∃ ad2 cap2, a.eval y = .slice ad2 m2 cap2 := by
    rcases hsim.als_at hyr ho with ⟨_, _, h3, hv⟩ | ⟨b, cap, cur, h1, hv, _⟩
    · exact ⟨_, _, by rw [h3]; exact hv⟩
    · exact ⟨_, _, hv⟩
  have hl0 : ∀ (q : Option Addr) (n cp : Nat), (Builtin.firstCells ii.size 0 (.slice q n cp)).run P w = .ok #[] w := by
    intro q n cp
    cases q <;> simp [Builtin.firstCells, loadCells, loadCellsFrom]
  unfold Oper.wp
  have : (execOp a.eval ⟨dst, .call ⟨.builtin .copy, #[x, y], #[T, T2]⟩, ty, pos, af, none⟩).run P w = .ok (.value (goInt 0)) w := by
    simp only [execOp, resolve, invoke, builtin, Sem.run_bind, Sem.run_pure, Result.andThen_ok, List.map_toArray, List.map_cons, List.map_nil]
    rw [hv, hv2]
    cases ad <;> simp [Builtin.copy_, run_underlying hu, Builtin.lenOf, sizeOf, typeInfo, hi, hl0, storeCells]
  rw [this, Oper.upon_value]
  exact ⟨_, ⟨γ, hsim.put (d := dst) hN (.d (.int _ _))⟩, h⟩
end
end Go.Pv


set_option maxHeartbeats 2000000
namespace Go.Pv
attribute [local irreducible] PWP POps PQuiet PSem XThen XBlock RetPost InlPost
theorem cpy_ins {α : Type} {l : List α} {x z : α} {k : Nat} (hk : k ≤ l.length) : (cpy (l ++ [z]) (k + 1) k (l.length - k)).set k x = insAt l x k := by
  have hc : (cpy (l ++ [z]) (k + 1) k (l.length - k)).length = l.length + 1 := by
    by_cases h : k < l.length
    · rw [cpy_len _ (by simp; omega) (by simp; omega)]; simp
    · have : k = l.length := by omega
      subst this
      simp [cpy]
  apply List.ext_getElem?
  intro q
  rw [List.getElem?_set, hc]
  by_cases h1 : k = q
  · subst h1
    rw [if_pos rfl, if_pos (by omega), insAt_at hk]
  · rw [if_neg h1, cpy, List.append_assoc]
    rcases Nat.lt_or_ge q k with h | h
    · rw [List.getElem?_append_left (by simp; omega), List.getElem?_take, if_pos (by omega), List.getElem?_append_left (by omega), insAt_lt hk h]
    · rw [show (l ++ [z]).drop (k + 1 + (l.length - k)) = [] from List.drop_eq_nil_of_le (by simp; omega), List.append_nil, List.getElem?_append_right (by simp; omega)]
      obtain ⟨r, rfl⟩ : ∃ r, q = k + 1 + r := ⟨q - (k + 1), by omega⟩
      have e1 : k + 1 + r - ((l ++ [z]).take (k + 1)).length = r := by simp; omega
      have e2 : k + 1 + r - (l.take k).length = r + 1 := by simp; omega
      rw [e1, List.getElem?_take, insAt, List.getElem?_append_right (by simp; omega), e2, List.getElem?_cons_succ]
      split
      · rw [List.getElem?_drop, List.getElem?_drop, List.getElem?_append_left (show k + r < l.length by omega)]
      · rw [List.getElem?_drop, List.getElem?_eq_none (show l.length ≤ k + r by omega)]
def en {α : Type} (l : List α) : List (Nat × α) := (List.range l.length).zip l
theorem en_len {α : Type} (l : List α) : (en l).length = l.length := by simp [en]
theorem en_at {α : Type} {l : List α} {k : Nat} {x : α} (h : l[k]? = some x) : (en l)[k]? = some (k, x) := by
  have hk := (List.getElem?_eq_some_iff.1 h).1
  rw [en, List.getElem?_zip_eq_some]
  exact ⟨by rw [List.getElem?_range hk], h⟩
theorem en_mem {α : Type} {l : List α} {e : Nat × α} (h : e ∈ en l) : l[e.1]? = some e.2 := by
  obtain ⟨k, hk⟩ := List.getElem?_of_mem h
  have hk2 := hk
  rw [en, List.getElem?_zip_eq_some] at hk
  have hlt : k < l.length := by have := (List.getElem?_eq_some_iff.1 hk2).1; rwa [en_len] at this
  rw [List.getElem?_range hlt] at hk
  have := Option.some.inj hk.1
  rw [← this]
  exact hk.2
end Go.Pv


namespace Go.Pv
open Go.Proofs Go.RowKit
set_option maxRecDepth 100000
def lay : Tr := (.nd 118 (.nd 59 (.nd 29 (.nd 14 (.nd 7 (.nd 3 (.nd 1 (.lf 0 ⟨1, 0, .other, none⟩)
 (.nd 2 (.lf 1 ⟨1, 8, .other, (some [(.raw .nilFunc)])⟩)
 (.lf 2 ⟨1, 8, (.int .i64), (some [(.int .i64 0)])⟩)))
 (.nd 5 (.nd 4 (.lf 3 ⟨1, 8, (.int .i64), (some [(.int .i64 0)])⟩)
 (.lf 4 ⟨1, 1, .bool, (some [(.bool false)])⟩))
 (.nd 6 (.lf 5 ⟨1, 1, (.int .u8), (some [(.int .u8 0)])⟩)
 (.lf 6 ⟨1, 1, (.int .u8), (some [(.int .u8 0)])⟩))))
 (.nd 10 (.nd 8 (.lf 7 ⟨4, 24, (.st [(0, 2), (1, 3), (2, 4), (3, 6)]), (some [(.int .i64 0), (.int .i64 0), (.bool false), (.int .u8 0)])⟩)
 (.nd 9 (.lf 8 ⟨4, 24, (.st [(0, 2), (1, 3), (2, 4), (3, 6)]), (some [(.int .i64 0), (.int .i64 0), (.bool false), (.int .u8 0)])⟩)
 (.lf 9 ⟨1, 16, .str, (some [(.str [])])⟩)))
 (.nd 12 (.nd 11 (.lf 10 ⟨1, 16, .str, (some [(.str [])])⟩)
 (.lf 11 ⟨1, 16, .str, (some [(.str [])])⟩))
 (.nd 13 (.lf 12 ⟨1, 8, (.int .u64), (some [(.int .u64 0)])⟩)
 (.lf 13 ⟨2, 24, (.st [(0, 9), (1, 12)]), (some [(.str []), (.int .u64 0)])⟩)))))
 (.nd 21 (.nd 17 (.nd 15 (.lf 14 ⟨2, 24, (.st [(0, 9), (1, 12)]), (some [(.str []), (.int .u64 0)])⟩)
 (.nd 16 (.lf 15 ⟨1, 8, (.ptr 226), (some [(.raw (.pointer none))])⟩)
 (.lf 16 ⟨1, 8, (.ptr 229), (some [(.raw (.pointer none))])⟩)))
 (.nd 19 (.nd 18 (.lf 17 ⟨1, 8, (.ptr 236), (some [(.raw (.pointer none))])⟩)
 (.lf 18 ⟨1, 8, (.st [(0, 17)]), (some [(.raw (.pointer none))])⟩))
 (.nd 20 (.lf 19 ⟨1, 8, (.st [(0, 17)]), (some [(.raw (.pointer none))])⟩)
 (.lf 20 ⟨1, 16, .other, (some [(.raw .nilIface)])⟩))))
 (.nd 25 (.nd 23 (.nd 22 (.lf 21 ⟨1, 4, (.int .i32), (some [(.int .i32 0)])⟩)
 (.lf 22 ⟨1, 24, (.sl 73), (some [.nil])⟩))
 (.nd 24 (.lf 23 ⟨1, 24, (.sl 93), (some [.nil])⟩)
 (.lf 24 ⟨1, 24, (.sl 95), (some [.nil])⟩)))
 (.nd 27 (.nd 26 (.lf 25 ⟨1, 24, (.sl 126), (some [.nil])⟩)
 (.lf 26 ⟨1, 24, (.sl 129), (some [.nil])⟩))
 (.nd 28 (.lf 27 ⟨9, 152, (.st [(0, 22), (1, 23), (2, 24), (3, 25), (4, 26), (5, 3), (6, 3), (7, 3), (8, 3)]), (some [.nil, .nil, .nil, .nil, .nil, (.int .i64 0), (.int .i64 0), (.int .i64 0), (.int .i64 0)])⟩)
 (.lf 28 ⟨9, 152, (.st [(0, 22), (1, 23), (2, 24), (3, 25), (4, 26), (5, 3), (6, 3), (7, 3), (8, 3)]), (some [.nil, .nil, .nil, .nil, .nil, (.int .i64 0), (.int .i64 0), (.int .i64 0), (.int .i64 0)])⟩))))))
 (.nd 44 (.nd 36 (.nd 32 (.nd 30 (.lf 29 ⟨1, 24, (.sl 64), (some [.nil])⟩)
 (.nd 31 (.lf 30 ⟨1, 8, .other, (some [(.raw .nilFunc)])⟩)
 (.lf 31 ⟨1, 8, .other, (some [(.raw .nilFunc)])⟩)))
 (.nd 34 (.nd 33 (.lf 32 ⟨1, 8, .other, (some [(.raw .nilFunc)])⟩)
 (.lf 33 ⟨1, 8, .other, (some [(.raw .nilFunc)])⟩))
 (.nd 35 (.lf 34 ⟨1, 8, (.int .i64), (some [(.int .i64 0)])⟩)
 (.lf 35 ⟨1, 0, .other, none⟩))))
 (.nd 40 (.nd 38 (.nd 37 (.lf 36 ⟨1, 8, .other, (some [(.raw .nilFunc)])⟩)
 (.lf 37 ⟨1, 0, .other, none⟩))
 (.nd 39 (.lf 38 ⟨1, 8, .other, (some [(.raw .nilFunc)])⟩)
 (.lf 39 ⟨1, 8, .other, (some [(.raw .nilFunc)])⟩)))
 (.nd 42 (.nd 41 (.lf 40 ⟨1, 0, .other, none⟩)
 (.lf 41 ⟨1, 8, .other, (some [(.raw .nilFunc)])⟩))
 (.nd 43 (.lf 42 ⟨1, 8, .other, (some [(.raw .nilFunc)])⟩)
 (.lf 43 ⟨1, 8, .other, (some [(.raw .nilFunc)])⟩)))))
 (.nd 51 (.nd 47 (.nd 45 (.lf 44 ⟨1, 24, (.sl 53), (some [.nil])⟩)
 (.nd 46 (.lf 45 ⟨1, 0, .other, none⟩)
 (.lf 46 ⟨1, 8, .other, (some [(.raw .nilFunc)])⟩)))
 (.nd 49 (.nd 48 (.lf 47 ⟨1, 0, .other, none⟩)
 (.lf 48 ⟨1, 8, .other, (some [(.raw .nilFunc)])⟩))
 (.nd 50 (.lf 49 ⟨1, 8, .other, (some [(.raw .nilFunc)])⟩)
 (.lf 50 ⟨1, 8, .other, (some [(.raw .nilFunc)])⟩))))
 (.nd 55 (.nd 53 (.nd 52 (.lf 51 ⟨1, 8, .other, (some [(.raw .nilFunc)])⟩)
 (.lf 52 ⟨5, 56, (.st [(0, 9), (1, 9), (2, 3), (3, 3), (4, 3)]), (some [(.str []), (.str []), (.int .i64 0), (.int .i64 0), (.int .i64 0)])⟩))
 (.nd 54 (.lf 53 ⟨5, 56, (.st [(0, 9), (1, 9), (2, 3), (3, 3), (4, 3)]), (some [(.str []), (.str []), (.int .i64 0), (.int .i64 0), (.int .i64 0)])⟩)
 (.lf 54 ⟨1, 0, .other, none⟩)))
 (.nd 57 (.nd 56 (.lf 55 ⟨1, 8, .other, (some [(.raw .nilFunc)])⟩)
 (.lf 56 ⟨1, 0, .other, none⟩))
 (.nd 58 (.lf 57 ⟨1, 8, .other, (some [(.raw .nilFunc)])⟩)
 (.lf 58 ⟨1, 8, .other, (some [(.raw .nilFunc)])⟩)))))))
 (.nd 88 (.nd 73 (.nd 66 (.nd 62 (.nd 60 (.lf 59 ⟨1, 8, .other, (some [(.raw .nilFunc)])⟩)
 (.nd 61 (.lf 60 ⟨1, 8, .other, (some [(.raw .nilFunc)])⟩)
 (.lf 61 ⟨1, 8, .other, (some [(.raw .nilFunc)])⟩)))
 (.nd 64 (.nd 63 (.lf 62 ⟨1, 8, .other, (some [(.raw .nilFunc)])⟩)
 (.lf 63 ⟨3, 32, (.st [(0, 9), (1, 3), (2, 3)]), (some [(.str []), (.int .i64 0), (.int .i64 0)])⟩))
 (.nd 65 (.lf 64 ⟨3, 32, (.st [(0, 9), (1, 3), (2, 3)]), (some [(.str []), (.int .i64 0), (.int .i64 0)])⟩)
 (.lf 65 ⟨1, 24, (.sl 9), (some [.nil])⟩))))
 (.nd 69 (.nd 67 (.lf 66 ⟨3, 48, (.st [(0, 3), (1, 65), (2, 9)]), (some [(.int .i64 0), .nil, (.str [])])⟩)
 (.nd 68 (.lf 67 ⟨3, 48, (.st [(0, 3), (1, 65), (2, 9)]), (some [(.int .i64 0), .nil, (.str [])])⟩)
 (.lf 68 ⟨1, 0, .other, none⟩)))
 (.nd 71 (.nd 70 (.lf 69 ⟨1, 8, .other, (some [(.raw .nilFunc)])⟩)
 (.lf 70 ⟨1, 8, .other, (some [(.raw .nilFunc)])⟩))
 (.nd 72 (.lf 71 ⟨1, 24, (.sl 111), (some [.nil])⟩)
 (.lf 72 ⟨7, 112, (.st [(0, 9), (1, 9), (2, 71), (3, 9), (4, 3), (5, 4), (6, 65)]), (some [(.str []), (.str []), .nil, (.str []), (.int .i64 0), (.bool false), .nil])⟩)))))
 (.nd 80 (.nd 76 (.nd 74 (.lf 73 ⟨7, 112, (.st [(0, 9), (1, 9), (2, 71), (3, 9), (4, 3), (5, 4), (6, 65)]), (some [(.str []), (.str []), .nil, (.str []), (.int .i64 0), (.bool false), .nil])⟩)
 (.nd 75 (.lf 74 ⟨1, 8, .other, (some [(.raw .nilFunc)])⟩)
 (.lf 75 ⟨1, 8, .other, (some [(.raw .nilFunc)])⟩)))
 (.nd 78 (.nd 77 (.lf 76 ⟨1, 8, .other, (some [(.raw .nilFunc)])⟩)
 (.lf 77 ⟨1, 8, .other, (some [(.raw .nilFunc)])⟩))
 (.nd 79 (.lf 78 ⟨1, 8, .other, (some [(.raw .nilFunc)])⟩)
 (.lf 79 ⟨1, 8, .other, (some [(.raw .nilFunc)])⟩))))
 (.nd 84 (.nd 82 (.nd 81 (.lf 80 ⟨1, 24, (.sl 3), (some [.nil])⟩)
 (.lf 81 ⟨1, 0, .other, none⟩))
 (.nd 83 (.lf 82 ⟨1, 8, .other, (some [(.raw .nilFunc)])⟩)
 (.lf 83 ⟨1, 8, (.ptr 139), (some [(.raw (.pointer none))])⟩)))
 (.nd 86 (.nd 85 (.lf 84 ⟨1, 8, .other, (some [(.raw .nilFunc)])⟩)
 (.lf 85 ⟨1, 8, .other, (some [(.raw .nilFunc)])⟩))
 (.nd 87 (.lf 86 ⟨1, 8, .other, (some [(.raw .nilFunc)])⟩)
 (.lf 87 ⟨1, 24, (.sl 99), (some [.nil])⟩))))))
 (.nd 103 (.nd 95 (.nd 91 (.nd 89 (.lf 88 ⟨1, 8, .other, (some [(.raw .nilFunc)])⟩)
 (.nd 90 (.lf 89 ⟨1, 8, .other, (some [(.raw .nilFunc)])⟩)
 (.lf 90 ⟨1, 0, .other, none⟩)))
 (.nd 93 (.nd 92 (.lf 91 ⟨1, 8, .other, (some [(.raw .nilFunc)])⟩)
 (.lf 92 ⟨3, 32, (.st [(0, 9), (1, 3), (2, 3)]), (some [(.str []), (.int .i64 0), (.int .i64 0)])⟩))
 (.nd 94 (.lf 93 ⟨3, 32, (.st [(0, 9), (1, 3), (2, 3)]), (some [(.str []), (.int .i64 0), (.int .i64 0)])⟩)
 (.lf 94 ⟨3, 48, (.st [(0, 9), (1, 4), (2, 65)]), (some [(.str []), (.bool false), .nil])⟩))))
 (.nd 99 (.nd 97 (.nd 96 (.lf 95 ⟨3, 48, (.st [(0, 9), (1, 4), (2, 65)]), (some [(.str []), (.bool false), .nil])⟩)
 (.lf 96 ⟨1, 8, .other, (some [(.raw .nilFunc)])⟩))
 (.nd 98 (.lf 97 ⟨1, 8, .other, (some [(.raw .nilFunc)])⟩)
 (.lf 98 ⟨3, 24, (.st [(0, 3), (1, 3), (2, 4)]), (some [(.int .i64 0), (.int .i64 0), (.bool false)])⟩)))
 (.nd 101 (.nd 100 (.lf 99 ⟨3, 24, (.st [(0, 3), (1, 3), (2, 4)]), (some [(.int .i64 0), (.int .i64 0), (.bool false)])⟩)
 (.lf 100 ⟨1, 8, .other, (some [(.raw .nilFunc)])⟩))
 (.nd 102 (.lf 101 ⟨1, 8, (.ptr 104), (some [(.raw (.pointer none))])⟩)
 (.lf 102 ⟨1, 24, (.sl 5), (some [.nil])⟩)))))
 (.nd 110 (.nd 106 (.nd 104 (.lf 103 ⟨2, 32, (.st [(0, 101), (1, 102)]), (some [(.raw (.pointer none)), .nil])⟩)
 (.nd 105 (.lf 104 ⟨2, 32, (.st [(0, 101), (1, 102)]), (some [(.raw (.pointer none)), .nil])⟩)
 (.lf 105 ⟨1, 16, .other, (some [(.raw .nilIface)])⟩)))
 (.nd 108 (.nd 107 (.lf 106 ⟨1, 16, .other, (some [(.raw .nilIface)])⟩)
 (.lf 107 ⟨1, 0, .other, none⟩))
 (.nd 109 (.lf 108 ⟨1, 8, .other, (some [(.raw .nilFunc)])⟩)
 (.lf 109 ⟨1, 8, .other, (some [(.raw .nilFunc)])⟩))))
 (.nd 114 (.nd 112 (.nd 111 (.lf 110 ⟨2, 16, (.st [(0, 3), (1, 3)]), (some [(.int .i64 0), (.int .i64 0)])⟩)
 (.lf 111 ⟨2, 16, (.st [(0, 3), (1, 3)]), (some [(.int .i64 0), (.int .i64 0)])⟩))
 (.nd 113 (.lf 112 ⟨1, 8, .other, (some [(.raw .nilFunc)])⟩)
 (.lf 113 ⟨1, 8, .other, (some [(.raw .nilFunc)])⟩)))
 (.nd 116 (.nd 115 (.lf 114 ⟨1, 8, .other, (some [(.raw .nilFunc)])⟩)
 (.lf 115 ⟨1, 8, .other, (some [(.raw .nilFunc)])⟩))
 (.nd 117 (.lf 116 ⟨1, 24, (.sl 119), (some [.nil])⟩)
 (.lf 117 ⟨1, 8, .other, (some [(.raw .nilFunc)])⟩))))))))
 (.nd 177 (.nd 147 (.nd 132 (.nd 125 (.nd 121 (.nd 119 (.lf 118 ⟨3, 40, (.st [(0, 9), (1, 9), (2, 34)]), (some [(.str []), (.str []), (.int .i64 0)])⟩)
 (.nd 120 (.lf 119 ⟨3, 40, (.st [(0, 9), (1, 9), (2, 34)]), (some [(.str []), (.str []), (.int .i64 0)])⟩)
 (.lf 120 ⟨1, 8, .other, (some [(.raw .nilFunc)])⟩)))
 (.nd 123 (.nd 122 (.lf 121 ⟨1, 8, .other, (some [(.raw .nilFunc)])⟩)
 (.lf 122 ⟨1, 8, .other, (some [(.raw .nilFunc)])⟩))
 (.nd 124 (.lf 123 ⟨1, 8, .other, (some [(.raw .nilFunc)])⟩)
 (.lf 124 ⟨1, 8, .other, (some [(.raw .nilFunc)])⟩))))
 (.nd 128 (.nd 126 (.lf 125 ⟨3, 24, (.st [(0, 3), (1, 3), (2, 3)]), (some [(.int .i64 0), (.int .i64 0), (.int .i64 0)])⟩)
 (.nd 127 (.lf 126 ⟨3, 24, (.st [(0, 3), (1, 3), (2, 3)]), (some [(.int .i64 0), (.int .i64 0), (.int .i64 0)])⟩)
 (.lf 127 ⟨1, 8, .other, (some [(.raw .nilFunc)])⟩)))
 (.nd 130 (.nd 129 (.lf 128 ⟨2, 16, (.st [(0, 3), (1, 3)]), (some [(.int .i64 0), (.int .i64 0)])⟩)
 (.lf 129 ⟨2, 16, (.st [(0, 3), (1, 3)]), (some [(.int .i64 0), (.int .i64 0)])⟩))
 (.nd 131 (.lf 130 ⟨1, 8, .other, (some [(.raw .nilFunc)])⟩)
 (.lf 131 ⟨1, 8, .other, (some [(.raw .nilFunc)])⟩)))))
 (.nd 139 (.nd 135 (.nd 133 (.lf 132 ⟨1, 8, .other, (some [(.raw .nilFunc)])⟩)
 (.nd 134 (.lf 133 ⟨1, 8, .other, (some [(.raw .nilFunc)])⟩)
 (.lf 134 ⟨1, 8, .other, (some [(.raw .nilFunc)])⟩)))
 (.nd 137 (.nd 136 (.lf 135 ⟨1, 8, .other, (some [(.raw .nilFunc)])⟩)
 (.lf 136 ⟨1, 24, (.sl 80), (some [.nil])⟩))
 (.nd 138 (.lf 137 ⟨1, 24, (.sl 146), (some [.nil])⟩)
 (.lf 138 ⟨13, 248, (.st [(0, 28), (9, 136), (10, 137), (11, 80), (12, 87)]), (some [.nil, .nil, .nil, .nil, .nil, (.int .i64 0), (.int .i64 0), (.int .i64 0), (.int .i64 0), .nil, .nil, .nil, .nil])⟩))))
 (.nd 143 (.nd 141 (.nd 140 (.lf 139 ⟨13, 248, (.st [(0, 28), (9, 136), (10, 137), (11, 80), (12, 87)]), (some [.nil, .nil, .nil, .nil, .nil, (.int .i64 0), (.int .i64 0), (.int .i64 0), (.int .i64 0), .nil, .nil, .nil, .nil])⟩)
 (.lf 140 ⟨1, 8, .other, (some [(.raw .nilFunc)])⟩))
 (.nd 142 (.lf 141 ⟨1, 8, (.ptr 144), (some [(.raw (.pointer none))])⟩)
 (.lf 142 ⟨1, 8, (.map 9 4), (some [(.raw (.map none))])⟩)))
 (.nd 145 (.nd 144 (.lf 143 ⟨6, 64, (.st [(0, 83), (1, 135), (2, 80), (3, 3), (4, 4), (5, 142)]), (some [(.raw (.pointer none)), (.raw .nilFunc), .nil, (.int .i64 0), (.bool false), (.raw (.map none))])⟩)
 (.lf 144 ⟨6, 64, (.st [(0, 83), (1, 135), (2, 80), (3, 3), (4, 4), (5, 142)]), (some [(.raw (.pointer none)), (.raw .nilFunc), .nil, (.int .i64 0), (.bool false), (.raw (.map none))])⟩))
 (.nd 146 (.lf 145 ⟨1, 8, .other, (some [(.raw .nilFunc)])⟩)
 (.lf 146 ⟨1, 24, (.sl 4), (some [.nil])⟩))))))
 (.nd 162 (.nd 154 (.nd 150 (.nd 148 (.lf 147 ⟨1, 8, .other, (some [(.raw .nilFunc)])⟩)
 (.nd 149 (.lf 148 ⟨1, 8, .other, (some [(.raw .nilFunc)])⟩)
 (.lf 149 ⟨1, 8, .other, (some [(.raw .nilFunc)])⟩)))
 (.nd 152 (.nd 151 (.lf 150 ⟨1, 8, .other, (some [(.raw .nilFunc)])⟩)
 (.lf 151 ⟨1, 0, .other, none⟩))
 (.nd 153 (.lf 152 ⟨1, 8, .other, (some [(.raw .nilFunc)])⟩)
 (.lf 153 ⟨1, 8, .other, (some [(.raw .nilFunc)])⟩))))
 (.nd 158 (.nd 156 (.nd 155 (.lf 154 ⟨1, 8, .other, (some [(.raw .nilFunc)])⟩)
 (.lf 155 ⟨1, 8, .other, (some [(.raw .nilFunc)])⟩))
 (.nd 157 (.lf 156 ⟨1, 8, (.ptr 5), (some [(.raw (.pointer none))])⟩)
 (.lf 157 ⟨1, 8, .other, (some [(.raw .nilFunc)])⟩)))
 (.nd 160 (.nd 159 (.lf 158 ⟨1, 8, .other, (some [(.raw .nilFunc)])⟩)
 (.lf 159 ⟨1, 8, .other, (some [(.raw .nilFunc)])⟩))
 (.nd 161 (.lf 160 ⟨1, 8, .other, (some [(.raw .nilFunc)])⟩)
 (.lf 161 ⟨1, 8, .other, (some [(.raw .nilFunc)])⟩)))))
 (.nd 169 (.nd 165 (.nd 163 (.lf 162 ⟨1, 8, .other, (some [(.raw .nilFunc)])⟩)
 (.nd 164 (.lf 163 ⟨1, 8, .other, (some [(.raw .nilFunc)])⟩)
 (.lf 164 ⟨1, 8, .other, (some [(.raw .nilFunc)])⟩)))
 (.nd 167 (.nd 166 (.lf 165 ⟨1, 8, .other, (some [(.raw .nilFunc)])⟩)
 (.lf 166 ⟨1, 8, .other, (some [(.raw .nilFunc)])⟩))
 (.nd 168 (.lf 167 ⟨1, 8, .other, (some [(.raw .nilFunc)])⟩)
 (.lf 168 ⟨1, 8, .other, (some [(.raw .nilFunc)])⟩))))
 (.nd 173 (.nd 171 (.nd 170 (.lf 169 ⟨1, 8, .other, (some [(.raw .nilFunc)])⟩)
 (.lf 170 ⟨1, 0, .other, none⟩))
 (.nd 172 (.lf 171 ⟨1, 8, .other, (some [(.raw .nilFunc)])⟩)
 (.lf 172 ⟨1, 8, .other, (some [(.raw .nilFunc)])⟩)))
 (.nd 175 (.nd 174 (.lf 173 ⟨1, 8, .other, (some [(.raw .nilFunc)])⟩)
 (.lf 174 ⟨1, 8, .other, (some [(.raw .nilFunc)])⟩))
 (.nd 176 (.lf 175 ⟨1, 8, .other, (some [(.raw .nilFunc)])⟩)
 (.lf 176 ⟨1, 8, .other, (some [(.raw .nilFunc)])⟩)))))))
 (.nd 207 (.nd 192 (.nd 184 (.nd 180 (.nd 178 (.lf 177 ⟨1, 8, .other, (some [(.raw .nilFunc)])⟩)
 (.nd 179 (.lf 178 ⟨1, 24, (.sl 182), (some [.nil])⟩)
 (.lf 179 ⟨1, 8, .other, (some [(.raw .nilFunc)])⟩)))
 (.nd 182 (.nd 181 (.lf 180 ⟨1, 8, .other, (some [(.raw .nilFunc)])⟩)
 (.lf 181 ⟨1, 8, (.st [(0, 180)]), (some [(.raw .nilFunc)])⟩))
 (.nd 183 (.lf 182 ⟨1, 8, (.st [(0, 180)]), (some [(.raw .nilFunc)])⟩)
 (.lf 183 ⟨1, 8, .other, (some [(.raw .nilFunc)])⟩))))
 (.nd 188 (.nd 186 (.nd 185 (.lf 184 ⟨1, 8, .other, (some [(.raw (.pointer none))])⟩)
 (.lf 185 ⟨1, 8, .other, (some [(.raw .nilFunc)])⟩))
 (.nd 187 (.lf 186 ⟨1, 8, .other, (some [(.raw .nilFunc)])⟩)
 (.lf 187 ⟨1, 8, .other, (some [(.raw .nilFunc)])⟩)))
 (.nd 190 (.nd 189 (.lf 188 ⟨1, 8, .other, (some [(.raw .nilFunc)])⟩)
 (.lf 189 ⟨1, 8, .other, (some [(.raw .nilFunc)])⟩))
 (.nd 191 (.lf 190 ⟨1, 8, .other, (some [(.raw .nilFunc)])⟩)
 (.lf 191 ⟨1, 8, .other, (some [(.raw .nilFunc)])⟩)))))
 (.nd 199 (.nd 195 (.nd 193 (.lf 192 ⟨1, 8, .other, (some [(.raw .nilFunc)])⟩)
 (.nd 194 (.lf 193 ⟨1, 8, .other, (some [(.raw .nilFunc)])⟩)
 (.lf 194 ⟨1, 8, .other, (some [(.raw .nilFunc)])⟩)))
 (.nd 197 (.nd 196 (.lf 195 ⟨1, 8, .other, (some [(.raw .nilFunc)])⟩)
 (.lf 196 ⟨1, 8, .other, (some [(.raw .nilFunc)])⟩))
 (.nd 198 (.lf 197 ⟨1, 8, .other, (some [(.raw .nilFunc)])⟩)
 (.lf 198 ⟨1, 8, .other, (some [(.raw .nilFunc)])⟩))))
 (.nd 203 (.nd 201 (.nd 200 (.lf 199 ⟨1, 8, .other, (some [(.raw .nilFunc)])⟩)
 (.lf 200 ⟨1, 0, .other, none⟩))
 (.nd 202 (.lf 201 ⟨1, 8, .other, (some [(.raw .nilFunc)])⟩)
 (.lf 202 ⟨1, 8, .other, (some [(.raw .nilFunc)])⟩)))
 (.nd 205 (.nd 204 (.lf 203 ⟨1, 8, .other, (some [(.raw .nilFunc)])⟩)
 (.lf 204 ⟨24, 24, (.arr 24 5), (some [(.int .u8 0), (.int .u8 0), (.int .u8 0), (.int .u8 0), (.int .u8 0), (.int .u8 0), (.int .u8 0), (.int .u8 0), (.int .u8 0), (.int .u8 0), (.int .u8 0), (.int .u8 0), (.int .u8 0), (.int .u8 0), (.int .u8 0), (.int .u8 0), (.int .u8 0), (.int .u8 0), (.int .u8 0), (.int .u8 0), (.int .u8 0), (.int .u8 0), (.int .u8 0), (.int .u8 0)])⟩))
 (.nd 206 (.lf 205 ⟨1, 8, (.int .u64), (some [(.int .u64 0)])⟩)
 (.lf 206 ⟨1, 8, .other, (some [(.raw .nilFunc)])⟩))))))
 (.nd 222 (.nd 214 (.nd 210 (.nd 208 (.lf 207 ⟨1, 8, .other, (some [(.raw .nilFunc)])⟩)
 (.nd 209 (.lf 208 ⟨1, 0, .other, none⟩)
 (.lf 209 ⟨1, 8, .other, (some [(.raw .nilFunc)])⟩)))
 (.nd 212 (.nd 211 (.lf 210 ⟨1, 8, .other, (some [(.raw .nilFunc)])⟩)
 (.lf 211 ⟨1, 8, .other, (some [(.raw .nilFunc)])⟩))
 (.nd 213 (.lf 212 ⟨1, 8, (.map 3 3), (some [(.raw (.map none))])⟩)
 (.lf 213 ⟨1, 8, .other, (some [(.raw .nilFunc)])⟩))))
 (.nd 218 (.nd 216 (.nd 215 (.lf 214 ⟨1, 8, .other, (some [(.raw .nilFunc)])⟩)
 (.lf 215 ⟨1, 8, (.int .u64), (some [(.int .u64 0)])⟩))
 (.nd 217 (.lf 216 ⟨1, 8, .other, (some [(.raw .nilFunc)])⟩)
 (.lf 217 ⟨1, 8, .other, (some [(.raw .nilFunc)])⟩)))
 (.nd 220 (.nd 219 (.lf 218 ⟨20, 160, (.arr 20 205), (some [(.int .u64 0), (.int .u64 0), (.int .u64 0), (.int .u64 0), (.int .u64 0), (.int .u64 0), (.int .u64 0), (.int .u64 0), (.int .u64 0), (.int .u64 0), (.int .u64 0), (.int .u64 0), (.int .u64 0), (.int .u64 0), (.int .u64 0), (.int .u64 0), (.int .u64 0), (.int .u64 0), (.int .u64 0), (.int .u64 0)])⟩)
 (.lf 219 ⟨1, 4, (.int .u32), (some [(.int .u32 0)])⟩))
 (.nd 221 (.lf 220 ⟨65, 65, (.arr 65 5), none⟩)
 (.lf 221 ⟨1, 8, .other, (some [(.raw .nilFunc)])⟩)))))
 (.nd 229 (.nd 225 (.nd 223 (.lf 222 ⟨1, 8, .other, (some [(.raw .nilFunc)])⟩)
 (.nd 224 (.lf 223 ⟨32, 32, (.arr 32 5), (some [(.int .u8 0), (.int .u8 0), (.int .u8 0), (.int .u8 0), (.int .u8 0), (.int .u8 0), (.int .u8 0), (.int .u8 0), (.int .u8 0), (.int .u8 0), (.int .u8 0), (.int .u8 0), (.int .u8 0), (.int .u8 0), (.int .u8 0), (.int .u8 0), (.int .u8 0), (.int .u8 0), (.int .u8 0), (.int .u8 0), (.int .u8 0), (.int .u8 0), (.int .u8 0), (.int .u8 0), (.int .u8 0), (.int .u8 0), (.int .u8 0), (.int .u8 0), (.int .u8 0), (.int .u8 0), (.int .u8 0), (.int .u8 0)])⟩)
 (.lf 224 ⟨64, 64, (.arr 64 5), (some [(.int .u8 0), (.int .u8 0), (.int .u8 0), (.int .u8 0), (.int .u8 0), (.int .u8 0), (.int .u8 0), (.int .u8 0), (.int .u8 0), (.int .u8 0), (.int .u8 0), (.int .u8 0), (.int .u8 0), (.int .u8 0), (.int .u8 0), (.int .u8 0), (.int .u8 0), (.int .u8 0), (.int .u8 0), (.int .u8 0), (.int .u8 0), (.int .u8 0), (.int .u8 0), (.int .u8 0), (.int .u8 0), (.int .u8 0), (.int .u8 0), (.int .u8 0), (.int .u8 0), (.int .u8 0), (.int .u8 0), (.int .u8 0), (.int .u8 0), (.int .u8 0), (.int .u8 0), (.int .u8 0), (.int .u8 0), (.int .u8 0), (.int .u8 0), (.int .u8 0), (.int .u8 0), (.int .u8 0), (.int .u8 0), (.int .u8 0), (.int .u8 0), (.int .u8 0), (.int .u8 0), (.int .u8 0), (.int .u8 0), (.int .u8 0), (.int .u8 0), (.int .u8 0), (.int .u8 0), (.int .u8 0), (.int .u8 0), (.int .u8 0), (.int .u8 0), (.int .u8 0), (.int .u8 0), (.int .u8 0), (.int .u8 0), (.int .u8 0), (.int .u8 0), (.int .u8 0)])⟩)))
 (.nd 227 (.nd 226 (.lf 225 ⟨4, 40, (.st [(0, 17), (1, 17), (2, 17), (3, 9)]), (some [(.raw (.pointer none)), (.raw (.pointer none)), (.raw (.pointer none)), (.str [])])⟩)
 (.lf 226 ⟨4, 40, (.st [(0, 17), (1, 17), (2, 17), (3, 9)]), (some [(.raw (.pointer none)), (.raw (.pointer none)), (.raw (.pointer none)), (.str [])])⟩))
 (.nd 228 (.lf 227 ⟨0, 0, (.arr 0 16), (some [])⟩)
 (.lf 228 ⟨0, 0, (.st [(0, 227)]), (some [])⟩))))
 (.nd 233 (.nd 231 (.nd 230 (.lf 229 ⟨0, 0, (.st [(0, 227)]), (some [])⟩)
 (.lf 230 ⟨1, 1, (.int .u8), (some [(.int .u8 0)])⟩))
 (.nd 232 (.lf 231 ⟨1, 1, (.int .u8), (some [(.int .u8 0)])⟩)
 (.lf 232 ⟨1, 8, .other, (some [(.raw .nilFunc)])⟩)))
 (.nd 235 (.nd 234 (.lf 233 ⟨1, 4, (.int .i32), (some [(.int .i32 0)])⟩)
 (.lf 234 ⟨1, 4, (.int .i32), (some [(.int .i32 0)])⟩))
 (.nd 236 (.lf 235 ⟨11, 48, (.st [(0, 12), (1, 12), (2, 219), (3, 230), (4, 5), (5, 5), (6, 231), (7, 232), (8, 156), (9, 233), (10, 234)]), (some [(.int .u64 0), (.int .u64 0), (.int .u32 0), (.int .u8 0), (.int .u8 0), (.int .u8 0), (.int .u8 0), (.raw .nilFunc), (.raw (.pointer none)), (.int .i32 0), (.int .i32 0)])⟩)
 (.lf 236 ⟨11, 48, (.st [(0, 12), (1, 12), (2, 219), (3, 230), (4, 5), (5, 5), (6, 231), (7, 232), (8, 156), (9, 233), (10, 234)]), (some [(.int .u64 0), (.int .u64 0), (.int .u32 0), (.int .u8 0), (.int .u8 0), (.int .u8 0), (.int .u8 0), (.raw .nilFunc), (.raw (.pointer none)), (.int .i32 0), (.int .i32 0)])⟩)))))))))
theorem lay_fits : lay.fits Tryz.prog = true := by kernel_rfl
theorem layOk : LOk Tryz.prog lay.get := Tr.ok lay_fits
theorem mixed : Tryz.prog.follows .mixedOrders = true := by kernel_rfl
theorem powNamed : ∃ g, Tryz.prog.globalNamed "internal/strconv.uint64pow10" = some g := by
  refine ⟨(Tryz.prog.globalNamed "internal/strconv.uint64pow10").getD 0, ?_⟩
  kernel_rfl
instance : Globs := ⟨fun w => Lib.TabIs Tryz.prog w "internal/strconv.uint64pow10" .u64 Lib.pow10Tab, fun _ _ h hb => by obtain ⟨g, hg⟩ := powNamed; exact Joins.tab_stays hg h hb (Nat.le_refl _)⟩
theorem pow_of {w : World} (h : Globs.glob w) : Lib.TabIs Tryz.prog w "internal/strconv.uint64pow10" .u64 Lib.pow10Tab := h
end Go.Pv

