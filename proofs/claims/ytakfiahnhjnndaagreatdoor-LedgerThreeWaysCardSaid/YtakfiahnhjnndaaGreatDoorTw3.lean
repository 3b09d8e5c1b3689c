/- Texts of one hand, gathered: PvU, PvW3, PvM, PvN, PvT, PvO, PvP, PvY. -/
import Derived.Test.YtakfiahnhjnndaaGreatDoorTw2
import Derived.Test.YtakfiahnhjnndaaGreatDoorProg
import Derived.KernelRfl
import Derived.Lib.SmallJoins
import Derived.Lib.ItoaNum
set_option linter.unusedSectionVars false
set_option linter.unusedSimpArgs false
set_option linter.unusedVariables false
set_option linter.unnecessarySimpa false
/- Regions in a drawn order, in which variables are made at any time and plain moves may come late: their soundness. -/
namespace Go.Pv
open Go.RowKit
variable [Globs]

section
variable {P : Program} {L : Lay} {C : Ctx} {a : Act} {w w' : World} {ops : Array Oper}

theorem all_listed {listed : Array Bool} (hmem : ∀ i, i ∈ ([] : List Nat) ↔ i < ops.size ∧ listed.getD i true = false) : Region.ready .any ops listed = [] := by
  cases h : Region.ready .any ops listed with
  | nil => rfl
  | cons i l =>
    exfalso
    have hi : i ∈ Region.ready .any ops listed := by rw [h]; simp
    obtain ⟨hun, o, ho, _⟩ := mem_ready.1 hi
    have := (hmem i).2 ⟨(Array.getElem?_eq_some_iff.1 ho).1, hun⟩
    cases this

theorem getD_tf {listed : Array Bool} {i : Nat} (h : i < listed.size) : listed.getD i true = listed.getD i false := by simp [h]

theorem put_own (s : St) (d : Option Nat) (v : PV) : (s.put d v).own = s.own := by cases d <;> rfl
/-- It waits for the other, or for one that does. -/
def WF2 (ops : Array Oper) (t i : Nat) : Bool := Region.waitsFor .any ops t i || (List.range ops.size).any fun j => Region.waitsFor .any ops t j && Region.waitsFor .any ops j i
/-- A plain move in the tail, of what is no nil slice and is not written by the tail. -/
def MV (ops : Array Oper) (n m : Nat) (full : St) (ot : Oper) : Prop :=
  (∃ x, (ot.op = .assign x ∨ ot.op = .move x) ∧ full.ev x ≠ .nil) ∧ ∀ x ∈ ot.looksAt ops, ∀ (q : Nat) (oq : Oper), n + m ≤ q → ops[q]? = some oq → oq.dst ≠ some x

theorem draw_late (hG : Good P L C) {n m : Nat} {ds F : List Nat} (hd : Draw2Ok ops n m ds F) {K' : St → Prop} {Q : Exit → Act → World → Prop} (hK : ∀ s' a' w', SimE C s' a' w' → K' s' → Q .normal a' w')
    (hN : ∀ o ∈ ops.toList, dstLt C.N o.dst = true) {full s0 : St} {vs : List PV}
    (hdi : ∀ i o, i < n + m → ops[i]? = some o → ∃ d, ds[i]? = some d ∧ o.dst = some d) (hole : OwnLe s0 full)
    (hv : ∀ i ∈ F, ∀ o, ops[i]? = some o → ∃ v sf, vs[i]? = some v ∧ Yld P L ops sf o v ∧ (∀ t ∈ o.looksAt ops, sf.reg t = full.reg t) ∧ (∀ d, ds[i]? = some d → full.reg d = v) ∧ sf.own = s0.own ∧ (dataAt full o.op = true ∨ ∀ t ot, n + m ≤ t → ops[t]? = some ot → WF2 ops t i = true ∨ MV ops n m full ot)) :
    ∀ (f : Nat) (U : List Nat) (listed : Array Bool) (p : Nat) (u s : St) (a : Act) (w : World), U.length = f → U.Nodup → (∀ i, i ∈ U ↔ i < ops.size ∧ listed.getD i true = false) → listed.size = ops.size →
      (∀ i, i < n + m → i ∉ F → listed.getD i true = true) → (∀ t, n + m ≤ t → t < ops.size → (listed.getD t true = true ↔ t < n + m + p)) → POps P L ops K' (ops.toList.drop (n + m + p)) u →
      (∀ t, (∀ q ot, n + m ≤ q → q < n + m + p → ops[q]? = some ot → ot.dst ≠ some t) → u.reg t = full.reg t) → s.own = u.own → (∀ t, (∀ i ∈ F, listed.getD i true = false → ds[i]? ≠ some t) → s.reg t = u.reg t) →
      ((∀ q oq, n + m ≤ q → q < n + m + p → ops[q]? = some oq → MV ops n m full oq) → u.own = full.own) →
      (∀ i o, ops[i]? = some o → listed.getD i true = true → ∀ e ∈ o.after, Region.binds .any e = true → listed.getD e.on true = true) → SimE C s a w →
      wpAny P .any ops Q f listed a w := by
  intro f
  induction f with
  | zero =>
    intro U listed p u s a w hU _ hmem hsz hhead htail hops _ hown hreg _ _ h
    have hU0 : U = [] := List.eq_nil_of_length_eq_zero hU
    subst hU0
    have hall : ∀ i, i < ops.size → listed.getD i true = true := fun i hi => by
      cases hb : listed.getD i true with
      | true => rfl
      | false => have := (hmem i).2 ⟨hi, hb⟩; cases this
    refine ⟨all_listed hmem, ?_⟩
    have hge : ops.size ≤ n + m + p := by
      rcases Nat.lt_or_ge (n + m + p) ops.size with h1 | h1
      · have := (htail (n + m + p) (by omega) h1).1 (hall _ h1); omega
      · exact h1
    rw [List.drop_eq_nil_of_le (by simpa using hge)] at hops
    have hsu : s = u := St.ext' (funext fun t => hreg t fun i hi hl _ => by
      have := hall i (by have := (hd.late i hi).1; have := hd.le; omega)
      rw [this] at hl; cases hl) hown
    rw [hsu] at h
    exact hK _ _ _ h hops
  | succ f ih =>
    intro U listed p u s a w hU hnd hmem hsz hhead htail hops hfull hown hreg hown0 hcl h
    refine ⟨fun hnil => absurd hnil (least_ready hsz hd.lex hmem (by intro e; rw [e] at hU; simp at hU)), fun i hi => ?_⟩
    obtain ⟨hun, o, ho, hall⟩ := mem_ready.1 hi
    have hisz : i < ops.size := (Array.getElem?_eq_some_iff.1 ho).1
    have hUi : i ∈ U := (hmem i).2 ⟨hisz, hun⟩
    have hil : i < listed.size := by omega
    have hmem' : ∀ k, k ∈ U.erase i ↔ k < ops.size ∧ (listed.setIfInBounds i true).getD k true = false := fun k => by
      rw [hnd.mem_erase_iff, hmem k]
      by_cases hki : k = i
      · subst hki; simp [hil]
      · rw [getD_set_ne true (Ne.symm hki)]
        exact ⟨fun x => x.2, fun x => ⟨hki, x⟩⟩
    have hset : ∀ k, (listed.setIfInBounds i true).getD k true = (if k = i then true else listed.getD k true) := fun k => by
      by_cases hki : k = i
      · subst hki; simp [hil]
      · rw [getD_set_ne true (Ne.symm hki), if_neg hki]
    have hlen' : (U.erase i).length = f := by rw [List.length_erase_of_mem hUi]; omega
    have hNo : dstLt C.N o.dst = true := hN o (by have := Array.mem_of_getElem? ho; simpa using this)
    have hdone : ∀ j, Region.waitsFor .any ops i j = true → listed.getD j true = true := by
      intro j hj
      obtain ⟨oj, hoj, e, he, hb, hon⟩ := Region.waitsFor_spec hj
      rw [ho] at hoj
      have hoj := Option.some.inj hoj
      subst hoj
      have h1 := hall e he hb
      have h2 := hd.lex i o ho e he hb
      rw [hon] at h1 h2
      rw [getD_tf (by omega)]; exact h1
    have hcl' : ∀ k o', ops[k]? = some o' → (listed.setIfInBounds i true).getD k true = true → ∀ e ∈ o'.after, Region.binds .any e = true → (listed.setIfInBounds i true).getD e.on true = true := by
      intro k o' ho' hk e he hb
      rw [hset] at hk ⊢
      split
      · rfl
      · by_cases hki : k = i
        · subst hki
          rw [ho] at ho'
          have ho' := Option.some.inj ho'
          subst ho'
          have h1 := hall e he hb
          have h2 := hd.lex k o ho e he hb
          rw [getD_tf (by omega)]; exact h1
        · rw [if_neg hki] at hk
          exact hcl k o' ho' hk e he hb
    by_cases hin : i < n + m
    · -- a late one of the head
      have hiF : i ∈ F := by
        by_cases hF : i ∈ F
        · exact hF
        · have := hhead i hin hF; rw [this] at hun; cases hun
      obtain ⟨hn', o', ho', hfl⟩ := hd.late i hiF
      rw [ho] at ho'
      have ho' := Option.some.inj ho'
      subst ho'
      obtain ⟨d, hdd, hod⟩ := hdi i o hin ho
      obtain ⟨v, sf, _, hy, hsf, hfd, hso, hda⟩ := hv i hiF o ho
      have hnt : ∀ t ∈ o.looksAt ops, ∀ q ot, n + m ≤ q → q < n + m + p → ops[q]? = some ot → ot.dst ≠ some t := fun t ht q ot hq hqp hot e => by
        have hw := (hfl q ot hq hot).2.1 t e ht
        obtain ⟨oj, hoj, e', he', hb', hon'⟩ := Region.waitsFor_spec hw
        have hqs : q < ops.size := (Array.getElem?_eq_some_iff.1 hot).1
        have := hcl q oj hoj ((htail q hq hqs).2 hqp) e' he' hb'
        rw [hon', hun] at this; cases this
      have hsame : ∀ t ∈ o.looksAt ops, sf.reg t = s.reg t := fun t ht => by
        rw [hsf t ht, hreg t, hfull t (hnt t ht)]
        intro j hj hl hjt
        obtain ⟨hji, e, he, hb, hon⟩ := hd.looks i o hin ho t ht j (by have := (hd.late j hj).1; omega) hjt
        have := hall e he hb
        rw [hon] at this
        rw [getD_tf (by omega), this] at hl; cases hl
      have hyl : Yld P L ops s o v := by
        rcases hy with ⟨h1, h2⟩ | ⟨h1, h2⟩
        · refine .inl ⟨h1.congr hsame, ?_⟩
          rcases hda with hda | hda
          · exact h2.free2 (dataAt_congr (fun x hx => (ops_ev hsf x hx).symm) hda) (ops_ev hsame)
          · have huo : u.own = full.own := hown0 fun q oq hq hqp hoq => by
              rcases hda q oq hq hoq with hw | hmv
              · have hqs : q < ops.size := (Array.getElem?_eq_some_iff.1 hoq).1
                rw [WF2, Bool.or_eq_true, List.any_eq_true] at hw
                rcases hw with hw | ⟨j2, _, hw⟩
                · obtain ⟨oj, hoj, e', he', hb', hon'⟩ := Region.waitsFor_spec hw
                  have := hcl q oj hoj ((htail q hq hqs).2 hqp) e' he' hb'
                  rw [hon', hun] at this; cases this
                · rw [Bool.and_eq_true] at hw
                  obtain ⟨oj, hoj, e', he', hb', hon'⟩ := Region.waitsFor_spec hw.1
                  have h3 := hcl q oj hoj ((htail q hq hqs).2 hqp) e' he' hb'
                  rw [hon'] at h3
                  obtain ⟨oj2, hoj2, e2, he2, hb2, hon2⟩ := Region.waitsFor_spec hw.2
                  have := hcl j2 oj2 hoj2 h3 e2 he2 hb2
                  rw [hon2, hun] at this; cases this
              · exact hmv
            have g3 : QOp P L ⟨s.reg, s0.own⟩ o v := QOp.congr (s' := ⟨s.reg, s0.own⟩) hso (ops_ev (s' := ⟨s.reg, s0.own⟩) hsame) h2
            have hle : OwnLe ⟨s.reg, s0.own⟩ s := by
              intro k
              rcases hole k with hk | hk
              · left
                show s.own k = s0.own k
                rw [hown, huo]; exact hk
              · exact .inr hk
            exact g3.le hle rfl
        · exact .inr ⟨h1.congr hsame, h2⟩
      have hnext : ∀ a' w', SimE C (s.put o.dst v) a' w' → wpAny P .any ops Q f (listed.setIfInBounds i true) a' w' := by
        intro a' w' h'
        refine ih (U.erase i) _ p u _ a' w' hlen' (hnd.erase i) hmem' (by simp [hsz]) (fun k hk hkF => ?_) (fun t ht1 ht2 => ?_) hops hfull (by rw [hod]; exact hown) (fun t hnot => ?_) hown0 hcl' h'
        · rw [hset]; split
          · rfl
          · exact hhead k hk hkF
        · rw [hset, if_neg (by omega)]; exact htail t ht1 ht2
        · rw [hod]
          show (bif Nat.beq t d then v else s.reg t) = _
          by_cases htd : t = d
          · subst htd
            have hnd' : ∀ q ot, n + m ≤ q → q < n + m + p → ops[q]? = some ot → ot.dst ≠ some t := fun q ot hq _ hot e => (hfl q ot hq hot).1 (by rw [e, hod])
            rw [hfull t hnd', hfd t hdd]; simp
          · rw [nbeq_ne htd]
            refine hreg t fun j hj hl hjt => ?_
            have hji : j ≠ i := by
              intro e; subst e
              rw [hdd] at hjt
              exact htd (Option.some.inj hjt).symm
            exact hnot j hj (by rw [hset, if_neg hji]; exact hl) hjt
      unfold wpOp
      rw [ho]
      simp only
      rcases hyl with ⟨hw, hq⟩ | ⟨hw, hq⟩
      · rw [if_pos (hw.spec h)]
        exact .inl (hq.wp hG h hNo hnext)
      · rw [if_neg (by rw [hw.spec h]; simp)]
        refine hnext _ _ ?_
        rw [hq]
        exact h.put hNo undef
    · -- the next one of the tail
      have hip : i = n + m + p := by
        have h1 : ¬ i < n + m + p := fun hlt => by
          have := (htail i (by omega) hisz).2 hlt
          rw [this] at hun; cases hun
        rcases Nat.lt_or_ge (n + m + p) i with h2 | h2
        · have h3 := hdone (i - 1) (hd.chain i (by omega) hisz)
          have := (htail (i - 1) (by omega) (by omega)).1 h3
          omega
        · omega
      have hdrop : ops.toList.drop (n + m + p) = o :: ops.toList.drop (n + m + (p + 1)) := by
        rw [List.drop_eq_getElem_cons (by simp; omega)]
        congr 1
        have : ops[n + m + p]? = some o := by rw [← hip]; exact ho
        obtain ⟨hl, he⟩ := Array.getElem?_eq_some_iff.1 this
        simpa using he
      rw [hdrop] at hops
      have hsame : ∀ t ∈ o.looksAt ops, u.reg t = s.reg t := fun t ht => by
        refine (hreg t fun j hj hl hjt => ?_).symm
        obtain ⟨_, oj, hoj, hfl⟩ := hd.late j hj
        obtain ⟨d, hdd, hod⟩ := hdi j oj (by have := (hd.late j hj).1; omega) hoj
        rw [hdd] at hjt
        have hjt := Option.some.inj hjt
        subst hjt
        have := hdone j ((hfl i o (by omega) ho).2.2 d hod ht)
        rw [this] at hl; cases hl
      have hnext : ∀ u' s', POps P L ops K' (ops.toList.drop (n + m + (p + 1))) u' → s'.own = u'.own → (∀ t, o.dst = some t → s'.reg t = u'.reg t) → (∀ t, o.dst ≠ some t → s'.reg t = s.reg t ∧ u'.reg t = u.reg t) → (MV ops n m full o → u'.own = u.own) →
          ∀ a' w', SimE C s' a' w' → wpAny P .any ops Q f (listed.setIfInBounds i true) a' w' := by
        intro u' s' hops' hown' hr1 hr2 hU a' w' h'
        refine ih (U.erase i) _ (p + 1) u' s' a' w' hlen' (hnd.erase i) hmem' (by simp [hsz]) (fun k hk hkF => ?_) (fun t ht1 ht2 => ?_) hops' (fun t hnt => ?_) hown' (fun t hnot => ?_) (fun hall' => (hU (hall' i o (by omega) (by omega) ho)).trans (hown0 fun q oq h1 h2 h3 => hall' q oq h1 (by omega) h3)) hcl' h'
        · rw [hset, if_neg (by omega)]; exact hhead k hk hkF
        · rw [hset]
          by_cases hti : t = i
          · rw [if_pos hti]; simp; omega
          · rw [if_neg hti, htail t ht1 ht2]; omega
        · have hne : o.dst ≠ some t := hnt i o (by omega) (by omega) ho
          rw [(hr2 t hne).2]; exact hfull t fun q ot h1 h2 h3 => hnt q ot h1 (by omega) h3
        · by_cases hot : o.dst = some t
          · exact hr1 t hot
          · rw [(hr2 t hot).1, (hr2 t hot).2]
            exact hreg t fun j hj hl => hnot j hj (by rw [hset, if_neg (by have := (hd.late j hj).1; omega)]; exact hl)
      have hmvn : ∀ {u' : St}, MV ops n m full o → Eff P L u o u' → False := by
        intro u' hmv he
        obtain ⟨⟨x, hx, hxn⟩, hnw⟩ := hmv
        have hxe : u.ev x = full.ev x := by
          have hmem : x ∈ o.op.operands := by rcases hx with hx | hx <;> rw [hx] <;> simp [Op.operands]
          exact ops_ev (ops := ops) (s := u) (s' := full) (o := o) (fun t ht => hfull t fun q oq h1 _ h3 => hnw t ht q oq h1 h3) x hmem
        cases he with
        | nils e sz kd ho' hd' hx' =>
          rename_i x' d
          have : x' = x := by rcases hx with hx | hx <;> rcases ho' with ho' | ho' <;> rw [hx] at ho' <;> cases ho' <;> rfl
          subst this
          exact hxn (by rw [← hxe]; exact hx')
        | box ho' => rcases hx with hx | hx <;> rw [hx] at ho' <;> cases ho'
        | alloc ho' => rcases hx with hx | hx <;> rw [hx] at ho' <;> cases ho'
        | store kd ho' => rcases hx with hx | hx <;> rw [hx] at ho' <;> cases ho'
        | appN ho' => rcases hx with hx | hx <;> rw [hx] at ho' <;> cases ho'
        | app kd ho' => rcases hx with hx | hx <;> rw [hx] at ho' <;> cases ho'
        | make ho' => rcases hx with hx | hx <;> rw [hx] at ho' <;> cases ho'
        | slit kd ho' => rcases hx with hx | hx <;> rw [hx] at ho' <;> cases ho'
        | makeMap ho' => rcases hx with hx | hx <;> rw [hx] at ho' <;> cases ho'
        | mapOld ho' => rcases hx with hx | hx <;> rw [hx] at ho' <;> cases ho'
        | mapNew ho' => rcases hx with hx | hx <;> rw [hx] at ho' <;> cases ho'
        | entStore kd ho' => rcases hx with hx | hx <;> rw [hx] at ho' <;> cases ho'
        | mapSet kd ho' => rcases hx with hx | hx <;> rw [hx] at ho' <;> cases ho'
        | mapSetG kd ho' => rcases hx with hx | hx <;> rw [hx] at ho' <;> cases ho'
        | range ho' => rcases hx with hx | hx <;> rw [hx] at ho' <;> cases ho'
      have hput : ∀ v, (s.put o.dst v).own = (u.put o.dst v).own ∧ (∀ t, o.dst = some t → (s.put o.dst v).reg t = (u.put o.dst v).reg t) ∧ ∀ t, o.dst ≠ some t → (s.put o.dst v).reg t = s.reg t ∧ (u.put o.dst v).reg t = u.reg t := by
        intro v
        cases hdst : o.dst with
        | none => exact ⟨hown, fun t ht => by (cases ht), fun t _ => ⟨rfl, rfl⟩⟩
        | some d =>
          refine ⟨hown, fun t ht => ?_, fun t ht => ?_⟩
          · have := Option.some.inj ht
            subst this
            show (bif Nat.beq d d then v else _) = (bif Nat.beq d d then v else _)
            simp
          · have : t ≠ d := fun e => ht (by rw [e])
            exact ⟨by show (bif Nat.beq t d then v else s.reg t) = _; rw [nbeq_ne this]; rfl, by show (bif Nat.beq t d then v else u.reg t) = _; rw [nbeq_ne this]; rfl⟩
      unfold wpOp
      rw [ho]
      simp only
      rcases hops with ⟨hw, hp⟩ | ⟨hw, hp⟩
      · have hw' := hw.congr hsame
        rw [if_pos (hw'.spec h)]
        refine .inl ?_
        rcases hp with ⟨v, hq, hk⟩ | ⟨u', hq, hk⟩ | hq
        · obtain ⟨g1, g2, g3⟩ := hput v
          exact (hq.congr hown.symm (ops_ev hsame)).wp hG h hNo fun a' w' h' => hnext _ _ hk g1 g2 g3 (fun _ => put_own u _ _) a' w' h'
        · obtain ⟨s', hq', g1, g2, g3⟩ := hq.congr hown.symm (ops_ev hsame)
          exact hq'.sound hG.lay h hNo fun a' w' h' => hnext _ _ hk g1 g2 g3 (fun hmv => (hmvn hmv hq).elim) a' w' h'
        · exact (hq.congr hown.symm (ops_ev hsame)).sound h hNo fun s' a' w' h' ⟨u', hk, g1, g2, g3⟩ => hnext _ _ hk g1 g2 g3 (fun hmv => by
            exfalso
            obtain ⟨⟨x, hx, _⟩, _⟩ := hmv
            cases hq with
            | next ho' => rcases hx with hx | hx <;> rw [ho'] at hx <;> cases hx) a' w' h'
      · have hw' := hw.congr hsame
        rw [if_neg (by rw [hw'.spec h]; simp)]
        obtain ⟨g1, g2, g3⟩ := hput (.raw undef)
        exact hnext _ _ hp g1 g2 g3 (fun _ => put_own u _ _) _ _ (h.put hNo undef)

/-! ### The head -/
def allocd : List (Nat × Cont) → St → St
  | [], s => s
  | (d, c) :: l, s => allocd l ((s.fin d c).putR d (.ptr d ((s.own d).1 + 1) 0 0))

theorem puts_reg {s s' : St} (h : s.reg = s'.reg) : ∀ l, (puts l s).reg = (puts l s').reg
  | [] => h
  | (d, v) :: l => puts_reg (by funext t; show (bif Nat.beq t d then v else s.reg t) = (bif Nat.beq t d then v else s'.reg t); rw [h]) l

theorem allocd_spec : ∀ (l : List (Nat × Cont)) (s : St), (l.map (·.1)).Nodup → (allocd l s).reg = (puts (l.map fun p => (p.1, .ptr p.1 ((s.own p.1).1 + 1) 0 0)) s).reg ∧
    (∀ k c, (k, c) ∈ l → (allocd l s).own k = ((s.own k).1 + 1, some c)) ∧ ∀ k, k ∉ l.map (·.1) → (allocd l s).own k = s.own k
  | [], s, _ => ⟨rfl, fun k c h => (by cases h), fun k _ => rfl⟩
  | (d, c) :: l, s, hn => by
    simp only [List.map_cons, List.nodup_cons] at hn
    obtain ⟨h1, h2, h3⟩ := allocd_spec l ((s.fin d c).putR d (.ptr d ((s.own d).1 + 1) 0 0)) hn.2
    have hne : ∀ k, k ≠ d → ((s.fin d c).putR d (.ptr d ((s.own d).1 + 1) 0 0)).own k = s.own k := fun k hk => by show (s.fin d c).own k = _; rw [St.fin, setOwn_ne hk]
    have heq : ((s.fin d c).putR d (.ptr d ((s.own d).1 + 1) 0 0)).own d = ((s.own d).1 + 1, some c) := by show (s.fin d c).own d = _; rw [St.fin, setOwn_same]
    refine ⟨?_, fun k c' hk => ?_, fun k hk => ?_⟩
    · rw [allocd, h1, List.map_cons, puts]
      have : (l.map fun p => ((p.1, PV.ptr p.1 ((((s.fin d c).putR d (.ptr d ((s.own d).1 + 1) 0 0)).own p.1).1 + 1) 0 0) : Nat × PV)) = l.map fun p => (p.1, PV.ptr p.1 ((s.own p.1).1 + 1) 0 0) :=
        List.map_congr_left fun p hp => by rw [hne p.1 fun e => hn.1 (by rw [← e]; exact List.mem_map_of_mem hp)]
      rw [this]
      exact puts_reg (by rfl) _
    · rcases List.mem_cons.1 hk with hk | hk
      · have e1 : k = d := congrArg (·.1) hk
        have e2 : c' = c := congrArg (·.2) hk
        subst e1; subst e2
        rw [allocd, h3 k hn.1, heq]
      · have : k ≠ d := fun e => hn.1 (by rw [← e]; exact List.mem_map.2 ⟨_, hk, rfl⟩)
        rw [allocd, h2 k c' hk, hne k this]
    · simp only [List.map_cons, List.mem_cons, not_or] at hk
      rw [allocd, h3 k hk.2, hne k hk.1]

def AllocOk (L : Lay) (o : Oper) (c : Cont) : Prop := ∃ T r z, o.op = .alloc T ∧ L T = some r ∧ r.zero = some z ∧ 0 < z.length ∧ c = ⟨T, z.length, [z], 2⟩

theorem allocs_run {K : St → Prop} {tl : List Oper} : ∀ (l : List Oper) (ds : List Nat) (s : St), (∀ o ∈ l, ∃ T, o.op = .alloc T ∧ o.guard = none) → l.map (·.dst) = ds.map some → POps P L ops K (l ++ tl) s →
    ∃ cs : List Cont, cs.length = ds.length ∧ (∀ (k : Nat) (o : Oper) (c : Cont), l[k]? = some o → cs[k]? = some c → AllocOk L o c) ∧ POps P L ops K tl (allocd (ds.zip cs) s)
  | [], ds, s, _, hds, h => by
    have : ds = [] := by simpa using hds.symm
    subst this
    exact ⟨[], rfl, fun k o c hk => by simp at hk, h⟩
  | o :: l, ds, s, hal, hds, h => by
    cases ds with
    | nil => simp at hds
    | cons d ds =>
      simp only [List.map_cons, List.cons.injEq] at hds
      obtain ⟨T, hop, hg⟩ := hal o (by simp)
      have main : POp P L s o (POps P L ops K (l ++ tl)) := by
        rcases h with ⟨_, h⟩ | ⟨hw, _⟩
        · exact h
        · exfalso
          cases hw with
          | no h => rw [hg] at h; cases h
          | junk h => rw [hg] at h; cases h
      rcases main with ⟨v, hq, _⟩ | ⟨s', he, hk⟩ | hdem
      · exfalso
        cases hq with
        | v hq => rw [hop] at hq; simp [qv] at hq
        | seq ho => rw [hop] at ho; cases ho
        | idx ho => rw [hop] at ho; cases ho
        | idxA ho => rw [hop] at ho; cases ho
        | ldp ho => rw [hop] at ho; cases ho
        | slc ho => rw [hop] at ho; cases ho
        | slh ho => rw [hop] at ho; cases ho
        | call ho => rw [hop] at ho; cases ho
        | callF ho => rw [hop] at ho; cases ho
        | slit ho => rw [hop] at ho; cases ho
        | mks ho => rw [hop] at ho; cases ho
        | look ho => rw [hop] at ho; cases ho
        | sem hx ho => rw [hop] at ho; simp [Op.operands] at ho
        | semF hne => rw [hop] at hne; exact hne rfl
        | lookG ho => rw [hop] at ho; cases ho
        | s2b ho => rw [hop] at ho; cases ho
        | entry ho => rw [hop] at ho; cases ho
      · cases he with
        | alloc ho hd hr hz h0 =>
          rename_i T' r z d'
          rw [hds.1] at hd
          have hd := Option.some.inj hd
          subst hd
          obtain ⟨cs, h1, h2, h3⟩ := allocs_run l ds _ (fun o' ho' => hal o' (by simp [ho'])) hds.2 hk
          refine ⟨⟨T', z.length, [z], 2⟩ :: cs, by simp [h1], fun k o' c hk' hc => ?_, h3⟩
          cases k with
          | zero =>
            simp at hk' hc
            subst hk'; subst hc
            exact ⟨T', r, z, ho, hr, hz, h0, rfl⟩
          | succ k => exact h2 k o' c (by simpa using hk') (by simpa using hc)
        | nils e sz kd ho => rcases ho with ho | ho <;> rw [hop] at ho <;> cases ho
        | box ho => rw [hop] at ho; cases ho
        | store kd ho => rw [hop] at ho; cases ho
        | appN ho => rw [hop] at ho; cases ho
        | app kd ho => rw [hop] at ho; cases ho
        | make ho => rw [hop] at ho; cases ho
        | slit kd ho => rw [hop] at ho; cases ho
        | makeMap ho => rw [hop] at ho; cases ho
        | mapOld ho => rw [hop] at ho; cases ho
        | mapNew ho => rw [hop] at ho; cases ho
        | entStore kd ho => rw [hop] at ho; cases ho
        | range ho => rw [hop] at ho; cases ho
        | mapSet kd ho => rw [hop] at ho; cases ho
        | mapSetG kd ho => rw [hop] at ho; cases ho
      · exfalso
        cases hdem with
        | next ho => rw [hop] at ho; cases ho

structure Agr2 (ds : List Nat) (vs : List PV) (cs : List Cont) (n m : Nat) (listed : Array Bool) (s0 s : St) : Prop where
  hit : ∀ t j, j < n + m → listed.getD j true = true → ds[j]? = some t → vs[j]? = some (s.reg t)
  miss : ∀ t, (∀ j, j < n + m → listed.getD j true = true → ds[j]? ≠ some t) → s.reg t = s0.reg t
  own1 : ∀ k, (∀ j, n ≤ j → j < n + m → listed.getD j true = true → ds[j]? ≠ some k) → s.own k = s0.own k
  own2 : ∀ j k, n ≤ j → j < n + m → listed.getD j true = true → ds[j]? = some k → s.own k = ((s0.own k).1 + 1, cs[j - n]?)

theorem draw_two (hG : Good P L C) {n m : Nat} {ds F : List Nat} (hd : Draw2Ok ops n m ds F) {K' : St → Prop} {Q : Exit → Act → World → Prop} (hK : ∀ s' a' w', SimE C s' a' w' → K' s' → Q .normal a' w')
    (hN : ∀ o ∈ ops.toList, dstLt C.N o.dst = true) {s0 full : St} {vs : List PV} {cs : List Cont}
    (hdi : ∀ i o, i < n + m → ops[i]? = some o → ∃ d, ds[i]? = some d ∧ o.dst = some d) (hinj : ∀ (i j t : Nat), ds[i]? = some t → ds[j]? = some t → i = j)
    (hnone : ∀ j k, n ≤ j → j < n + m → ds[j]? = some k → (s0.own k).2 = none)
    (hy : ∀ i o, i < n → ops[i]? = some o → ∃ v sf, vs[i]? = some v ∧ Yld P L ops sf o v ∧ sf.own = s0.own ∧ (∀ t j, j < i → ds[j]? = some t → vs[j]? = some (sf.reg t)) ∧ ∀ t, (∀ j, j < i → ds[j]? ≠ some t) → sf.reg t = s0.reg t)
    (ha : ∀ i o, n ≤ i → i < n + m → ops[i]? = some o → ∃ c d, cs[i - n]? = some c ∧ AllocOk L o c ∧ o.guard = none ∧ ds[i]? = some d ∧ vs[i]? = some (.ptr d ((s0.own d).1 + 1) 0 0))
    (hf1 : ∀ t j, j < n + m → ds[j]? = some t → vs[j]? = some (full.reg t)) (hf2 : ∀ t, (∀ j, j < n + m → ds[j]? ≠ some t) → full.reg t = s0.reg t)
    (hf3 : ∀ k, (∀ j, n ≤ j → j < n + m → ds[j]? ≠ some k) → full.own k = s0.own k) (hf4 : ∀ j k, n ≤ j → j < n + m → ds[j]? = some k → full.own k = ((s0.own k).1 + 1, cs[j - n]?))
    (hend : POps P L ops K' (ops.toList.drop (n + m)) full) (hfda : ∀ i ∈ F, ∀ o, ops[i]? = some o → dataAt full o.op = true ∨ ∀ t ot, n + m ≤ t → ops[t]? = some ot → WF2 ops t i = true ∨ MV ops n m full ot) :
    ∀ (f : Nat) (U : List Nat) (listed : Array Bool) (s : St) (a : Act) (w : World), U.length = f → U.Nodup → (∀ i, i ∈ U ↔ i < ops.size ∧ listed.getD i true = false) → listed.size = ops.size →
      (∀ t, n + m ≤ t → t < ops.size → listed.getD t true = false) → (∀ i o, ops[i]? = some o → listed.getD i true = true → ∀ e ∈ o.after, Region.binds .any e = true → listed.getD e.on true = true) →
      Agr2 ds vs cs n m listed s0 s → SimE C s a w → wpAny P .any ops Q f listed a w := by
  have hole : OwnLe s0 full := by
    intro k
    by_cases hx : ∃ j, n ≤ j ∧ j < n + m ∧ ds[j]? = some k
    · obtain ⟨j, g1, g2, g3⟩ := hx
      exact .inr (hnone j k g1 g2 g3)
    · exact .inl (hf3 k fun j g1 g2 g3 => hx ⟨j, g1, g2, g3⟩)
  have late : ∀ (f : Nat) (U : List Nat) (listed : Array Bool) (s : St) (a : Act) (w : World), U.length = f → U.Nodup → (∀ i, i ∈ U ↔ i < ops.size ∧ listed.getD i true = false) → listed.size = ops.size →
      (∀ t, n + m ≤ t → t < ops.size → listed.getD t true = false) → Agr2 ds vs cs n m listed s0 s → SimE C s a w → (∀ i, i < n + m → i ∉ F → listed.getD i true = true) →
      (∀ i o, ops[i]? = some o → listed.getD i true = true → ∀ e ∈ o.after, Region.binds .any e = true → listed.getD e.on true = true) → wpAny P .any ops Q f listed a w := by
    intro f U listed s a w hU hnd hmem hsz htail agr h hall hcl
    refine draw_late hG hd hK hN (full := full) (s0 := s0) (vs := vs) hdi hole (fun i hi o ho => ?_) f U listed 0 full s a w hU hnd hmem hsz hall (fun t h1 h2 => ?_) hend (fun t _ => rfl) ?_ (fun t hnot => ?_) (fun _ => rfl) hcl h
    · have hin := (hd.late i hi).1
      obtain ⟨v, sf, h1, h2, h3, h4, h5⟩ := hy i o hin ho
      refine ⟨v, sf, h1, h2, fun t ht => ?_, fun d hdd => ?_, h3, hfda i hi o ho⟩
      · by_cases hx : ∃ j, j < n + m ∧ ds[j]? = some t
        · obtain ⟨j, hj, hjt⟩ := hx
          obtain ⟨hji, _⟩ := hd.looks i o (by omega) ho t ht j hj hjt
          have e1 := h4 t j hji hjt
          have e2 := hf1 t j hj hjt
          rw [e1] at e2
          exact Option.some.inj e2
        · rw [h5 t fun j hj hjt => hx ⟨j, by omega, hjt⟩, hf2 t fun j hj hjt => hx ⟨j, hj, hjt⟩]
      · have e2 := hf1 d i (by omega) hdd
        rw [h1] at e2
        exact (Option.some.inj e2).symm
    · rw [htail t h1 h2]; simp; omega
    · funext k
      by_cases hx : ∃ j, n ≤ j ∧ j < n + m ∧ ds[j]? = some k
      · obtain ⟨j, h1, h2, h3⟩ := hx
        rw [agr.own2 j k h1 h2 (hall j h2 fun hF => by have := (hd.late j hF).1; omega) h3, hf4 j k h1 h2 h3]
      · rw [agr.own1 k fun j h1 h2 _ h3 => hx ⟨j, h1, h2, h3⟩, hf3 k fun j h1 h2 h3 => hx ⟨j, h1, h2, h3⟩]
    · by_cases hx : ∃ j, j < n + m ∧ ds[j]? = some t
      · obtain ⟨j, h1, h2⟩ := hx
        have hl : listed.getD j true = true := by
          by_cases hF : j ∈ F
          · cases hl : listed.getD j true with
            | true => rfl
            | false => exact absurd h2 (hnot j hF hl)
          · exact hall j h1 hF
        have e1 := agr.hit t j h1 hl h2
        have e2 := hf1 t j h1 h2
        rw [e1] at e2
        exact Option.some.inj e2
      · rw [agr.miss t fun j h1 _ h2 => hx ⟨j, h1, h2⟩, hf2 t fun j h1 h2 => hx ⟨j, h1, h2⟩]
  intro f
  induction f with
  | zero =>
    intro U listed s a w hU hnd hmem hsz htail hclosed agr h
    refine late 0 U listed s a w hU hnd hmem hsz htail agr h (fun i hi _ => ?_) hclosed
    have hU0 : U = [] := List.eq_nil_of_length_eq_zero hU
    subst hU0
    cases hb : listed.getD i true with
    | true => rfl
    | false => have := (hmem i).2 ⟨by have := hd.le; omega, hb⟩; cases this
  | succ f ih =>
    intro U listed s a w hU hnd hmem hsz htail hclosed agr h
    by_cases hall : ∀ i, i < n + m → i ∉ F → listed.getD i true = true
    · exact late (f + 1) U listed s a w hU hnd hmem hsz htail agr h hall hclosed
    have hex : ∃ i0, i0 < n + m ∧ i0 ∉ F ∧ listed.getD i0 true = false := by
      refine Classical.byContradiction fun hx => hall fun i hi hF => ?_
      cases hb : listed.getD i true with
      | true => rfl
      | false => exact absurd ⟨i, hi, hF, hb⟩ hx
    refine ⟨fun hnil => absurd hnil (least_ready hsz hd.lex hmem (by intro e; rw [e] at hU; simp at hU)), fun i hi => ?_⟩
    obtain ⟨hun, o, ho, hallE⟩ := mem_ready.1 hi
    have hisz : i < ops.size := (Array.getElem?_eq_some_iff.1 ho).1
    have hwait : ∀ j, Region.waitsFor .any ops i j = true → listed.getD j true = true := by
      intro j hj
      obtain ⟨oj, hoj, e, he, hb, hon⟩ := Region.waitsFor_spec hj
      rw [ho] at hoj
      have hoj := Option.some.inj hoj
      subst hoj
      have h1 := hallE e he hb
      have h2 := hd.lex i o ho e he hb
      rw [hon] at h1 h2
      rw [getD_tf (by omega)]; exact h1
    have hin : i < n + m := by
      rcases Nat.lt_or_ge i (n + m) with h1 | h1
      · exact h1
      · exfalso
        by_cases hit : i = n + m
        · -- it waits for all of the head but for the late ones
          obtain ⟨i0, h2, h3, h4⟩ := hex
          have climb : ∀ (g j : Nat), n + m - j = g → j < n + m → j ∉ F → listed.getD j true = false → False := by
            intro g
            induction g using Nat.strongRecOn with
            | _ g ihg =>
              intro j hg hj hF hl
              obtain ⟨j', h5, h6, h7, h8⟩ := hd.sink (by omega) j hj hF
              by_cases hj' : j' = n + m
              · have := hwait j (by rw [hit, ← hj']; exact h8)
                rw [this] at hl; cases hl
              · have hF' : j' ∉ F := h7.resolve_left hj'
                cases hb : listed.getD j' true with
                | false => exact ihg (n + m - j') (by omega) j' rfl (by omega) hF' hb
                | true =>
                  obtain ⟨oj, hoj, e, he, hbd, hon⟩ := Region.waitsFor_spec h8
                  have := hclosed j' oj hoj hb e he hbd
                  rw [hon] at this
                  rw [this] at hl; cases hl
          exact climb _ i0 rfl h2 h3 h4
        · have h2 := hwait (i - 1) (hd.chain i (by omega) hisz)
          rw [htail (i - 1) (by omega) (by omega)] at h2
          cases h2
    obtain ⟨d, hdd, hod⟩ := hdi i o hin ho
    have hUi : i ∈ U := (hmem i).2 ⟨hisz, hun⟩
    have hil : i < listed.size := by omega
    have hset : ∀ k, (listed.setIfInBounds i true).getD k true = (if k = i then true else listed.getD k true) := fun k => by
      by_cases hki : k = i
      · subst hki; simp [hil]
      · rw [getD_set_ne true (Ne.symm hki), if_neg hki]
    have hNo : dstLt C.N o.dst = true := hN o (by have := Array.mem_of_getElem? ho; simpa using this)
    have hgo : ∀ s' a' w', Agr2 ds vs cs n m (listed.setIfInBounds i true) s0 s' → SimE C s' a' w' → wpAny P .any ops Q f (listed.setIfInBounds i true) a' w' := by
      intro s' a' w' agr' h'
      refine ih (U.erase i) _ s' a' w' (by rw [List.length_erase_of_mem hUi]; omega) (hnd.erase i) (fun k => ?_) (by simp [hsz]) (fun t h1 h2 => ?_) (fun k ok hok hl e he hb => ?_) agr' h'
      · rw [hnd.mem_erase_iff, hmem k, hset]
        by_cases hki : k = i
        · subst hki; simp
        · simp [hki]
      · rw [hset, if_neg (by omega)]; exact htail t h1 h2
      · rw [hset] at hl ⊢
        split
        · rfl
        · by_cases hki : k = i
          · subst hki
            rw [ho] at hok
            have hok := Option.some.inj hok
            subst hok
            have h1 := hallE e he hb
            have h2 := hd.lex k o ho e he hb
            rw [getD_tf (by omega)]; exact h1
          · rw [if_neg hki] at hl
            exact hclosed k ok hok hl e he hb
    have hagr : ∀ v s', vs[i]? = some v → (∀ t, s'.reg t = if t = d then v else s.reg t) → (i < n → s'.own = s.own) → (n ≤ i → (∀ k, k ≠ d → s'.own k = s.own k) ∧ s'.own d = ((s0.own d).1 + 1, cs[i - n]?)) → Agr2 ds vs cs n m (listed.setIfInBounds i true) s0 s' := by
      intro v s' hv hreg ho1 ho2
      have hself : (listed.setIfInBounds i true).getD i true = true := by rw [hset, if_pos rfl]
      refine ⟨fun t j hj hl hjt => ?_, fun t hm => ?_, fun k hm => ?_, fun j k h1 h2 hl hjk => ?_⟩
      · rw [hreg]
        by_cases htd : t = d
        · subst htd
          rw [if_pos rfl, hinj j i t hjt hdd]; exact hv
        · rw [if_neg htd]
          have hji : j ≠ i := by
            intro e; subst e
            rw [hdd] at hjt
            exact htd (Option.some.inj hjt).symm
          rw [hset, if_neg hji] at hl
          exact agr.hit t j hj hl hjt
      · have htd : t ≠ d := by
          intro e; subst e
          exact hm i hin hself hdd
        rw [hreg, if_neg htd]
        refine agr.miss t fun j hj hl hjt => hm j hj ?_ hjt
        rw [hset]; split
        · rfl
        · exact hl
      · have hs' : s'.own k = s.own k := by
          rcases Nat.lt_or_ge i n with h1 | h1
          · rw [ho1 h1]
          · refine (ho2 h1).1 k fun e => ?_
            subst e
            exact hm i h1 hin hself hdd
        rw [hs']
        refine agr.own1 k fun j h1 h2 hl hjk => hm j h1 h2 ?_ hjk
        rw [hset]; split
        · rfl
        · exact hl
      · by_cases hji : j = i
        · subst hji
          rw [hdd] at hjk
          have hjk := Option.some.inj hjk
          subst hjk
          exact (ho2 h1).2
        · rw [hset, if_neg hji] at hl
          have hkd : k ≠ d := by
            intro e; subst e
            exact hji (hinj j i k hjk hdd)
          have hs' : s'.own k = s.own k := by
            rcases Nat.lt_or_ge i n with h1 | h1
            · rw [ho1 h1]
            · exact (ho2 h1).1 k hkd
          rw [hs']
          exact agr.own2 j k h1 h2 hl hjk
    have hputr : ∀ v t, (s.put o.dst v).reg t = if t = d then v else s.reg t := by
      intro v t
      rw [hod]
      show (bif Nat.beq t d then v else s.reg t) = _
      by_cases htd : t = d
      · subst htd; simp
      · rw [nbeq_ne htd, if_neg htd]; rfl
    unfold wpOp
    rw [ho]
    simp only
    rcases Nat.lt_or_ge i n with hq | hq
    · obtain ⟨v, sf, h1, h2, h3, h4, h5⟩ := hy i o hq ho
      have hsame : ∀ t ∈ o.looksAt ops, sf.reg t = s.reg t := by
        intro t ht
        by_cases hx : ∃ j, j < n + m ∧ ds[j]? = some t
        · obtain ⟨j, hj, hjt⟩ := hx
          obtain ⟨hji, e, he, hb, hon⟩ := hd.looks i o hin ho t ht j hj hjt
          have hl : listed.getD j true = true := by
            have := hallE e he hb
            rw [hon] at this
            rw [getD_tf (by omega)]; exact this
          have e1 := agr.hit t j hj hl hjt
          have e2 := h4 t j hji hjt
          rw [e1] at e2
          exact (Option.some.inj e2).symm
        · rw [h5 t fun j hj hjt => hx ⟨j, by omega, hjt⟩, agr.miss t fun j hj _ hjt => hx ⟨j, hj, hjt⟩]
      have hown : OwnLe ⟨s.reg, s0.own⟩ s := by
        intro k
        by_cases hx : ∃ j, n ≤ j ∧ j < n + m ∧ ds[j]? = some k
        · obtain ⟨j, g1, g2, g3⟩ := hx
          exact .inr (hnone j k g1 g2 g3)
        · exact .inl (agr.own1 k fun j g1 g2 _ g3 => hx ⟨j, g1, g2, g3⟩)
      have hnext : ∀ a' w', SimE C (s.put o.dst v) a' w' → wpAny P .any ops Q f (listed.setIfInBounds i true) a' w' := fun a' w' h' =>
        hgo _ a' w' (hagr v _ h1 (hputr v) (fun _ => by rw [hod]; rfl) (fun g => by omega)) h'
      rcases h2 with ⟨g1, g2⟩ | ⟨g1, g2⟩
      · have g1' := g1.congr hsame
        rw [if_pos (g1'.spec h)]
        have g3 : QOp P L ⟨s.reg, s0.own⟩ o v := QOp.congr (s' := ⟨s.reg, s0.own⟩) h3 (ops_ev (s' := ⟨s.reg, s0.own⟩) hsame) g2
        exact .inl ((g3.le hown rfl).wp hG h hNo hnext)
      · have g1' := g1.congr hsame
        rw [if_neg (by rw [g1'.spec h]; simp)]
        refine hnext _ _ ?_
        rw [g2]
        exact h.put hNo undef
    · obtain ⟨c, d', h1, ⟨T, r, z, h2, h3, h4, h5, h6⟩, h7, h8, h9⟩ := ha i o hq hin ho
      rw [hdd] at h8
      have h8 := Option.some.inj h8
      subst h8
      have hown : s.own d = s0.own d := agr.own1 d fun j g1 g2 gl g3 => by
        have := hinj j i d g3 hdd
        subst this
        rw [hun] at gl; cases gl
      have hw : Wants ops s o true := .none h7
      rw [if_pos (hw.spec h)]
      have he : Eff P L s o ((s.fin d ⟨T, z.length, [z], 2⟩).putR d (.ptr d ((s.own d).1 + 1) 0 0)) := .alloc h2 hod h3 h4 h5
      refine .inl (he.sound hG.lay h hNo fun a' w' h' => hgo _ a' w' (hagr _ _ h9 (fun t => ?_) (fun g => by omega) fun _ => ⟨fun k hk => ?_, ?_⟩) h')
      · show (bif Nat.beq t d then _ else s.reg t) = _
        by_cases htd : t = d
        · subst htd; simp [hown]
        · rw [nbeq_ne htd, if_neg htd]; rfl
      · show (s.fin d _).own k = _
        rw [St.fin, setOwn_ne hk]
      · show (s.fin d _).own d = _
        rw [St.fin, setOwn_same, hown, h1, h6]

/-- What comes late looks at data. -/
def FD (ops : Array Oper) (nm : Nat) (F : List Nat) (s : St) : Bool := F.all fun i => match ops[i]? with
  | some o => dataAt s o.op || (List.range ops.size).all fun t => decide (t < nm) || WF2 ops t i || (match ops[t]? with
    | some ot => (match ot.op with | .assign x => !(s.ev x).isNil | .move x => !(s.ev x).isNil | _ => false) && (ot.looksAt ops).all fun x => (List.range ops.size).all fun q => decide (q < nm) || !((ops[q]?).bind (·.dst) == some x)
    | none => false)
  | none => false

def PDraw2 (P : Program) (L : Lay) (ops : Array Oper) (K : St → Prop) (s : St) : Prop :=
  ∃ n m ds F, drawOk2 ops n m ds F = true ∧ (∀ d ∈ ds.drop n, (s.own d).2 = none) ∧ PQuiet P L ops (fun s' => FD ops (n + m) F s' = true ∧ POps P L ops K (ops.toList.drop n) s') (ops.toList.take n) s

theorem PDraw2.sound (hG : Good P L C) {K' : St → Prop} {Q : Exit → Act → World → Prop} (hK : ∀ s' a' w', SimE C s' a' w' → K' s' → Q .normal a' w') (hN : ∀ o ∈ ops.toList, dstLt C.N o.dst = true) {id : Nat} {s : St}
    (h : SimE C s a w) (hq : PDraw2 P L ops K' s) : (Code.region id ops true).wp P Q a w := by
  obtain ⟨n, m, ds, F, hok, hnone, hq⟩ := hq
  have hd := drawOk2_spec hok
  have hle := hd.le
  have hdl : ds.length = n + m := by
    have := congrArg List.length hd.dst
    simp at this
    omega
  have hdi : ∀ i o, i < n + m → ops[i]? = some o → ∃ d, ds[i]? = some d ∧ o.dst = some d := by
    intro i o hi ho
    have h1 : i < ds.length := by omega
    refine ⟨ds[i], List.getElem?_eq_getElem h1, ?_⟩
    have h2 : ((ops.toList.take (n + m)).map (·.dst))[i]? = (ds.map some)[i]? := by rw [hd.dst]
    rw [List.getElem?_map, List.getElem?_map, List.getElem?_take, if_pos hi, List.getElem?_eq_getElem h1] at h2
    have h3 : ops.toList[i]? = some o := by simpa using ho
    rw [h3] at h2
    simpa using h2
  have hinj : ∀ (i j t : Nat), ds[i]? = some t → ds[j]? = some t → i = j := by
    intro i j t h1 h2
    have e1 := (List.getElem?_eq_some_iff.1 h1).2
    have e2 := (List.getElem?_eq_some_iff.1 h2).2
    exact (List.getElem_inj hd.nodup).1 (e1.trans e2.symm)
  have hdst1 : (ops.toList.take n).map (·.dst) = (ds.take n).map some := by
    have := congrArg (List.take n) hd.dst
    rwa [← List.map_take, ← List.map_take, List.take_take, Nat.min_eq_left (Nat.le_add_right n m)] at this
  have hdst2 : ((ops.toList.drop n).take m).map (·.dst) = (ds.drop n).map some := by
    have := congrArg (List.drop n) hd.dst
    rwa [← List.map_drop, ← List.map_drop, List.drop_take, Nat.add_sub_cancel_left] at this
  obtain ⟨vs1, h1, h2, hFD, h3⟩ := PQuiet.ylds _ (ds.take n) s hdst1 hq
  have hv1 : vs1.length = n := by rw [h1, List.length_take]; omega
  have hsplit : ops.toList.drop n = (ops.toList.drop n).take m ++ ops.toList.drop (n + m) := by
    rw [← List.drop_drop, List.take_append_drop]
  rw [hsplit] at h3
  have hget : ∀ q, q < m → ((ops.toList.drop n).take m)[q]? = ops[n + q]? := fun q hq => by
    rw [List.getElem?_take, if_pos hq, List.getElem?_drop]; simp
  obtain ⟨cs, g1, g2, g3⟩ := allocs_run ((ops.toList.drop n).take m) (ds.drop n) _ (fun o ho => by
    obtain ⟨q, hql, rfl⟩ := List.getElem_of_mem ho
    have hqm : q < m := by simp at hql; omega
    obtain ⟨o', T, e1, e2, e3⟩ := hd.allocs q hqm
    have := hget q hqm
    rw [List.getElem?_eq_getElem hql, e1] at this
    have := Option.some.inj this
    rw [this]; exact ⟨T, e2, e3⟩) hdst2 h3
  have hcl : cs.length = m := by rw [g1, List.length_drop]; omega
  have hnod1 : (ds.take n).Nodup := hd.nodup.sublist (List.take_sublist _ _)
  have hnod2 : (ds.drop n).Nodup := hd.nodup.sublist (List.drop_sublist _ _)
  have hz1 : ((ds.take n).zip vs1).map (·.1) = ds.take n := by rw [List.map_fst_zip (by omega)]
  have hz2 : ((ds.drop n).zip cs).map (·.1) = ds.drop n := by rw [List.map_fst_zip (by rw [g1]; exact Nat.le_refl _)]
  let q0 := puts ((ds.take n).zip vs1) s
  have hq0 : q0.own = s.own := puts_own _ _
  obtain ⟨a1, a2, a3⟩ := allocd_spec ((ds.drop n).zip cs) q0 (by rw [hz2]; exact hnod2)
  have hpt : (((ds.drop n).zip cs).map fun p => ((p.1, PV.ptr p.1 ((q0.own p.1).1 + 1) 0 0) : Nat × PV)) = (ds.drop n).map fun d => (d, PV.ptr d ((s.own d).1 + 1) 0 0) := by
    conv => rhs; rw [← hz2]
    rw [List.map_map]
    exact List.map_congr_left fun p _ => by simp [hq0]
  rw [hpt] at a1
  have hdd : ∀ j t, n ≤ j → ((ds.drop n)[j - n]? = some t ↔ ds[j]? = some t) := fun j t hj => by rw [List.getElem?_drop, Nat.add_sub_cancel' hj]
  -- registers before
  have before : ∀ (i t : Nat), i ≤ n → (∀ j, j < i → ds[j]? = some t → vs1[j]? = some ((puts (((ds.take n).zip vs1).take i) s).reg t)) ∧ ((∀ j, j < i → ds[j]? ≠ some t) → (puts (((ds.take n).zip vs1).take i) s).reg t = s.reg t) := by
    intro i t hi
    refine ⟨fun j hj hjt => ?_, fun hm => puts_miss _ _ _ fun p hp e => ?_⟩
    · have hjv : j < vs1.length := by omega
      rw [List.getElem?_eq_getElem hjv]
      congr 1
      refine (puts_hit _ s j t vs1[j] ?_ ?_).symm
      · rw [List.getElem?_take, if_pos hj]
        refine zip_get h1 ?_ (List.getElem?_eq_getElem hjv)
        rw [List.getElem?_take, if_pos (by omega)]; exact hjt
      · rw [List.map_take, hz1]; exact hnod1.sublist (List.take_sublist _ _)
    · obtain ⟨j, hj, rfl⟩ := List.getElem_of_mem hp
      simp at hj
      refine hm j (by omega) ?_
      rw [← e]
      simp
  have hfull : ((ds.take n).zip vs1).take n = (ds.take n).zip vs1 := List.take_of_length_le (by simp; omega)
  have before' := fun t => before n t (Nat.le_refl n)
  rw [hfull] at before'
  have ptrs : ∀ j t, n ≤ j → ds[j]? = some t → (allocd ((ds.drop n).zip cs) q0).reg t = .ptr t ((s.own t).1 + 1) 0 0 := by
    intro j t hj hjt
    rw [a1]
    refine puts_hit _ q0 (j - n) t _ ?_ (by rw [List.map_map, show ((fun x : Nat × PV => x.1) ∘ fun d : Nat => (d, PV.ptr d ((s.own d).1 + 1) 0 0)) = _root_.id from rfl, List.map_id]; exact hnod2)
    rw [List.getElem?_map, (hdd j t hj).2 hjt]; rfl
  have olds : ∀ t, (∀ j, n ≤ j → ds[j]? ≠ some t) → (allocd ((ds.drop n).zip cs) q0).reg t = q0.reg t := by
    intro t hm
    rw [a1]
    refine puts_miss _ _ _ fun p hp e => ?_
    obtain ⟨d, hdm, rfl⟩ := List.mem_map.1 hp
    obtain ⟨j, hj, hje⟩ := List.getElem_of_mem hdm
    refine hm (n + j) (by omega) ?_
    have : (ds.drop n)[j]? = some d := by rw [List.getElem?_eq_getElem hj, hje]
    rw [List.getElem?_drop] at this
    rw [this, ← e]
  have hfda : ∀ i ∈ F, ∀ o, ops[i]? = some o → dataAt (allocd ((ds.drop n).zip cs) q0) o.op = true ∨ ∀ t ot, n + m ≤ t → ops[t]? = some ot → WF2 ops t i = true ∨ MV ops n m (allocd ((ds.drop n).zip cs) q0) ot := by
    intro i hi o ho
    have e1 := List.all_eq_true.1 hFD i hi
    rw [ho] at e1
    simp only [Bool.or_eq_true] at e1
    rcases e1 with e1 | e1
    case inr =>
      refine .inr fun t ot ht hot => ?_
      have htl : t < ops.size := (Array.getElem?_eq_some_iff.1 hot).1
      have e2 := List.all_eq_true.1 e1 t (List.mem_range.2 htl)
      rw [hot] at e2
      simp only [Bool.or_eq_true, decide_eq_true_eq, Bool.and_eq_true] at e2
      rcases e2 with (e2 | e2) | ⟨e2, e3⟩
      · omega
      · exact .inl e2
      · have hnw : ∀ x ∈ ot.looksAt ops, ∀ (q : Nat) (oq : Oper), n + m ≤ q → ops[q]? = some oq → oq.dst ≠ some x := by
          intro x hx q oq hq hoq he
          have hql : q < ops.size := (Array.getElem?_eq_some_iff.1 hoq).1
          have e4 := List.all_eq_true.1 (List.all_eq_true.1 e3 x hx) q (List.mem_range.2 hql)
          rw [hoq] at e4
          simp only [Option.bind_some, he, beq_self_eq_true, Bool.not_true, Bool.or_false, decide_eq_true_eq] at e4
          omega
        have hev : ∀ x ∈ ot.op.operands, PV.isNil (q0.ev x) = false → (allocd ((ds.drop n).zip cs) q0).ev x ≠ .nil := by
          intro x hx hn' he
          cases x with
          | tmp tx =>
            by_cases hal : ∃ j, n ≤ j ∧ ds[j]? = some tx
            · obtain ⟨j, hj, hjt⟩ := hal
              have hp : (allocd ((ds.drop n).zip cs) q0).reg tx = _ := ptrs j tx hj hjt
              rw [show (allocd ((ds.drop n).zip cs) q0).ev (.tmp tx) = (allocd ((ds.drop n).zip cs) q0).reg tx from rfl, hp] at he
              cases he
            · have ho' : (allocd ((ds.drop n).zip cs) q0).reg tx = q0.reg tx := olds tx fun j hj hjt => hal ⟨j, hj, hjt⟩
              rw [show (allocd ((ds.drop n).zip cs) q0).ev (.tmp tx) = (allocd ((ds.drop n).zip cs) q0).reg tx from rfl, ho'] at he
              rw [show q0.ev (.tmp tx) = q0.reg tx from rfl, he] at hn'
              cases hn'
          | const c =>
            have he : q0.ev (.const c) = .nil := he
            rw [he] at hn'; cases hn'
          | global g => cases he
          | func f => cases he
        refine .inr ⟨?_, hnw⟩
        split at e2
        · rename_i x hop
          exact ⟨x, .inl hop, hev x (by rw [hop]; simp [Op.operands]) (by simpa using e2)⟩
        · rename_i x hop
          exact ⟨x, .inr hop, hev x (by rw [hop]; simp [Op.operands]) (by simpa using e2)⟩
        · cases e2
    have hin := (hd.late i hi).1
    refine .inl (dataAt_congr (ops_ev (ops := ops) fun t ht => (olds t fun j hj hjt => ?_).symm) e1)
    have hjl : j < n + m := by have := (List.getElem?_eq_some_iff.1 hjt).1; omega
    have := (hd.looks i o (by omega) ho t ht j hjl hjt).1
    omega
  refine wp_region_any hG.mixed ?_
  obtain ⟨γ, h⟩ := h
  have hrep : ∀ (j : Nat) (d : Bool), (Array.replicate ops.size false).getD j d = if j < ops.size then false else d := by
    intro j d
    by_cases hj : j < ops.size
    · simp [hj]
    · simp [hj]
  refine draw_two hG hd (Q := Q) hK hN (s0 := s) (full := allocd ((ds.drop n).zip cs) q0) (vs := vs1 ++ (ds.drop n).map fun d => .ptr d ((s.own d).1 + 1) 0 0) (cs := cs) hdi hinj
    (fun j k hj1 hj2 hjk => hnone k (List.mem_of_getElem? ((hdd j k hj1).2 hjk))) (fun i o hi ho => ?_) (fun i o hi1 hi2 ho => ?_) (fun t j hj hjt => ?_) (fun t hm => ?_) (fun k hm => ?_) (fun j k hj1 hj2 hjk => ?_) g3 hfda
    ops.size (List.range ops.size) (Array.replicate ops.size false) s a _ (by simp) List.nodup_range (fun i => by
      rw [List.mem_range, hrep]
      constructor
      · intro hi; exact ⟨hi, by rw [if_pos hi]⟩
      · exact fun x => x.1)
    (by simp) (fun t _ ht2 => by rw [hrep, if_pos ht2]) (fun i o ho hl => by rw [hrep, if_pos (Array.getElem?_eq_some_iff.1 ho).1] at hl; cases hl)
    ⟨fun t j hj hl => (by rw [hrep, if_pos (by omega)] at hl; cases hl), fun _ _ => rfl, fun _ _ => rfl, fun j k _ hj hl => (by rw [hrep, if_pos (by omega)] at hl; cases hl)⟩ ⟨γ, h.ext (below_drew w)⟩
  · have hiv : i < vs1.length := by omega
    have hti : (ops.toList.take n)[i]? = some o := by rw [List.getElem?_take, if_pos hi]; simpa using ho
    refine ⟨vs1[i], _, ?_, h2 i o vs1[i] hti (List.getElem?_eq_getElem hiv), puts_own _ _, fun t j hj hjt => ?_, fun t hm => (before i t (by omega)).2 hm⟩
    · rw [List.getElem?_append_left hiv]; exact List.getElem?_eq_getElem hiv
    · rw [List.getElem?_append_left (by omega)]
      exact (before i t (by omega)).1 j hj hjt
  · obtain ⟨d, hdd', hod⟩ := hdi i o hi2 ho
    have hic : i - n < cs.length := by omega
    obtain ⟨o', T, e1, e2, e3⟩ := hd.allocs (i - n) (by omega)
    have hin : n + (i - n) = i := by omega
    rw [hin, ho] at e1
    have e1 := Option.some.inj e1
    subst e1
    refine ⟨cs[i - n], d, List.getElem?_eq_getElem hic, g2 (i - n) o _ (by rw [hget (i - n) (by omega), hin]; exact ho) (List.getElem?_eq_getElem hic), e3, hdd', ?_⟩
    rw [List.getElem?_append_right (by omega), hv1, List.getElem?_map, (hdd i d hi1).2 hdd']; rfl
  · rcases Nat.lt_or_ge j n with hjn | hjn
    · rw [List.getElem?_append_left (by omega), olds t fun j' hj' hjt' => by have := hinj j j' t hjt hjt'; omega]
      exact (before' t).1 j hjn hjt
    · rw [List.getElem?_append_right (by omega), hv1, List.getElem?_map, (hdd j t hjn).2 hjt, ptrs j t hjn hjt]; rfl
  · rw [olds t fun j hj hjt => hm j (by have := (List.getElem?_eq_some_iff.1 hjt).1; omega) hjt]
    exact (before' t).2 fun j hj => hm j (by omega)
  · rw [a3 k fun hk => ?_, hq0]
    rw [hz2] at hk
    obtain ⟨j, hj, hje⟩ := List.getElem_of_mem hk
    have : (ds.drop n)[j]? = some k := by rw [List.getElem?_eq_getElem hj, hje]
    rw [List.getElem?_drop] at this
    exact hm (n + j) (by omega) (by simp at hj; omega) this
  · have hic : j - n < cs.length := by omega
    rw [a2 k cs[j - n] ?_, hq0, List.getElem?_eq_getElem hic]
    refine List.mem_of_getElem? (i := j - n) ?_
    rw [List.getElem?_zip_eq_some]
    exact ⟨(hdd j k hj1).2 hjk, List.getElem?_eq_getElem hic⟩
end
end Go.Pv

/- Regions in a drawn order: what looks at nothing that the region writes may come at any time; the other operations stand in one order. -/
namespace Go.Pv
open Go.RowKit
variable [Globs]

def zin : List Nat → Nat → Bool
  | [], _ => false
  | z :: Z, k => bif Nat.beq k z then true else zin Z k
/-- The state, its contents at some sites forgotten. -/
def St.erase (Z : List Nat) (s : St) : St := { s with own := fun k => bif zin Z k then ((s.own k).1, none) else s.own k }

section
variable {P : Program} {L : Lay} {C : Ctx} {a : Act} {w w' : World} {ops : Array Oper}

inductive Step3 (P : Program) (L : Lay) (ops : Array Oper) (Z : List Nat) : Bool → St → Oper → St → Prop
  | no {c : Bool} {s : St} {o : Oper} (h : Wants ops s o false) : Step3 P L ops Z c s o (s.put o.dst (.raw undef))
  | free {s : St} {o : Oper} {v : PV} (h : Wants ops s o true) (hq : QOp P L (s.erase Z) o v) : Step3 P L ops Z false s o (s.put o.dst v)
  | quiet {s : St} {o : Oper} {v : PV} (h : Wants ops s o true) (hq : QOp P L s o v) : Step3 P L ops Z true s o (s.put o.dst v)
  | eff {s s' : St} {o : Oper} (h : Wants ops s o true) (he : Eff P L s o s') (hz : ∀ k, zin Z k = false → s'.own k = s.own k) : Step3 P L ops Z true s o s'

def P3 (P : Program) (L : Lay) (ops : Array Oper) (Z : List Nat) (cls : Nat → Bool) (K : St → Prop) : Nat → List Oper → St → Prop
  | _, [], s => K s
  | i, o :: rest, s => ∃ s', Step3 P L ops Z (cls i) s o s' ∧ P3 P L ops Z cls K (i + 1) rest s'

theorem P3.run {Z : List Nat} {cls : Nat → Bool} {K : St → Prop} : ∀ (l : List Oper) (i : Nat) (s : St), P3 P L ops Z cls K i l s → ∃ S : Nat → St, S 0 = s ∧ (∀ (j : Nat) (o : Oper), l[j]? = some o → Step3 P L ops Z (cls (i + j)) (S j) o (S (j + 1))) ∧ K (S l.length)
  | [], i, s, h => ⟨fun _ => s, rfl, fun j o hj => by simp at hj, h⟩
  | o :: l, i, s, ⟨s', h1, h2⟩ => by
    obtain ⟨S, g1, g2, g3⟩ := P3.run l (i + 1) s' h2
    refine ⟨fun n => match n with | 0 => s | n + 1 => S n, rfl, fun j o' hj => ?_, g3⟩
    cases j with
    | zero => simp at hj; subst hj; show Step3 _ _ _ _ _ s o (S 0); rw [g1]; exact h1
    | succ j =>
      have := g2 j o' (by simpa using hj)
      rw [show i + 1 + j = i + (j + 1) by omega] at this
      exact this

/-! ### What the looks at the text say -/
def maskOf (acc : List Nat) (o : Oper) : Nat := o.after.toList.foldl (fun m e => bif Region.binds .any e then m ||| 2 ^ e.on ||| acc.getD e.on 0 else m) 0
def masksGo : List Oper → List Nat → List Nat
  | [], acc => acc
  | o :: l, acc => masksGo l (acc ++ [maskOf acc o])
def masks (ops : Array Oper) : List Nat := masksGo ops.toList []
theorem maskOf_spec {acc : List Nat} {j : Nat} : ∀ (l : List Edge) (m : Nat), (l.foldl (fun m e => bif Region.binds .any e then m ||| 2 ^ e.on ||| acc.getD e.on 0 else m) m).testBit j = true →
    m.testBit j = true ∨ ∃ e ∈ l, Region.binds .any e = true ∧ (e.on = j ∨ (acc.getD e.on 0).testBit j = true)
  | [], m, h => .inl h
  | e :: l, m, h => by
    rw [List.foldl_cons] at h
    rcases maskOf_spec l _ h with h1 | ⟨e', he', h2⟩
    · cases hb : Region.binds .any e with
      | false => rw [hb] at h1; exact .inl h1
      | true =>
        rw [hb, cond_true, Nat.testBit_or, Nat.testBit_or, Nat.testBit_two_pow] at h1
        simp only [Bool.or_eq_true, decide_eq_true_eq] at h1
        rcases h1 with (h1 | h1) | h1
        · exact .inl h1
        · exact .inr ⟨e, by simp, hb, .inl h1⟩
        · exact .inr ⟨e, by simp, hb, .inr h1⟩
    · exact .inr ⟨e', by simp [he'], h2⟩
def MaskOk (all : List Oper) (acc : List Nat) : Prop := ∀ i j : Nat, (acc.getD i 0).testBit j = true → ∃ o, all[i]? = some o ∧ ∃ e ∈ o.after, Region.binds .any e = true ∧ (e.on = j ∨ (acc.getD e.on 0).testBit j = true)
theorem masksGo_ok (all : List Oper) : ∀ (l : List Oper) (acc : List Nat), all = all.take acc.length ++ l → acc.length ≤ all.length → MaskOk all acc → MaskOk all (masksGo l acc)
  | [], _, _, _, h => h
  | o :: l, acc, ha, hle, h => by
    have hlt : acc.length < all.length := by
      have := congrArg List.length ha
      rw [List.length_append, List.length_take, List.length_cons] at this
      omega
    have ho : all[acc.length]? = some o := by
      have : (all.take acc.length).length = acc.length := by rw [List.length_take]; omega
      rw [ha, List.getElem?_append_right (by omega), this]
      simp
    refine masksGo_ok all l _ ?_ (by simp; omega) fun i j hij => ?_
    · rw [List.length_append, List.length_singleton, take_snoc' ho, List.append_assoc]
      exact ha
    · have low : ∀ q, (acc.getD q 0).testBit j = true → ((acc ++ [maskOf acc o]).getD q 0).testBit j = true := by
        intro q hq
        rcases Nat.lt_or_ge q acc.length with h1 | h1
        · rw [List.getD_eq_getElem?_getD, List.getElem?_append_left h1, ← List.getD_eq_getElem?_getD]; exact hq
        · rw [List.getD_eq_getElem?_getD, List.getElem?_eq_none h1] at hq
          simp at hq
      rcases Nat.lt_trichotomy i acc.length with h1 | h1 | h1
      · rw [List.getD_eq_getElem?_getD, List.getElem?_append_left h1, ← List.getD_eq_getElem?_getD] at hij
        obtain ⟨o', e1, e, e2, e3, e4⟩ := h i j hij
        exact ⟨o', e1, e, e2, e3, e4.imp _root_.id (low _)⟩
      · subst h1
        rw [List.getD_eq_getElem?_getD, List.getElem?_append_right (Nat.le_refl _), Nat.sub_self] at hij
        rcases maskOf_spec _ 0 (show (maskOf acc o).testBit j = true from hij) with h2 | ⟨e, e2, e3, e4⟩
        · simp at h2
        · exact ⟨o, ho, e, by simpa using e2, e3, e4.imp _root_.id (low _)⟩
      · rw [List.getD_eq_getElem?_getD, List.getElem?_eq_none (by simp; omega)] at hij
        simp at hij
where
  take_snoc' {α : Type} {l : List α} {k : Nat} {x : α} (hx : l[k]? = some x) : l.take (k + 1) = l.take k ++ [x] := by
    rw [List.take_add_one, hx]; rfl
theorem masks_ok (ops : Array Oper) : MaskOk ops.toList (masks ops) :=
  masksGo_ok ops.toList ops.toList [] (by simp) (by simp) fun i j h => by simp at h

def drawOk3 (ops : Array Oper) (ch : List Nat) : Bool :=
  decide (ops.toList.filterMap (·.dst)).Nodup && (List.range ops.size).all fun i => match ops[i]? with
    | some o => o.after.all (fun e => !Region.binds .any e || decide (e.on < i)) &&
      ((o.looksAt ops).all fun t => (List.range ops.size).all fun j => decide (j = i) || !((ops[j]?).bind (·.dst) == some t) || (bif decide (j < i) then ((masks ops).getD i 0).testBit j else ((masks ops).getD j 0).testBit i)) &&
      (!zin ch i || (List.range i).all fun j => !zin ch j || ((masks ops).getD i 0).testBit j)
    | none => false
structure Draw3Ok (ops : Array Oper) (ch : List Nat) : Prop where
  nodup : ∀ (i j : Nat) (o o' : Oper) (t : Nat), ops[i]? = some o → ops[j]? = some o' → o.dst = some t → o'.dst = some t → i = j
  lex : ∀ i o, ops[i]? = some o → ∀ e ∈ o.after, Region.binds .any e = true → e.on < i
  reads : ∀ i o, ops[i]? = some o → ∀ t ∈ o.looksAt ops, ∀ j o', ops[j]? = some o' → o'.dst = some t → j ≠ i → (j < i → ((masks ops).getD i 0).testBit j = true) ∧ (i < j → ((masks ops).getD j 0).testBit i = true)
  chain : ∀ i j, i < ops.size → zin ch i = true → zin ch j = true → j < i → ((masks ops).getD i 0).testBit j = true
theorem filterMap_nodup {α : Type} {f : α → Option Nat} : ∀ {l : List α}, (l.filterMap f).Nodup → ∀ (i j : Nat) (x y : α) (t : Nat), l[i]? = some x → l[j]? = some y → f x = some t → f y = some t → i = j
  | [], _, i, j, x, y, t, h1, _, _, _ => by simp at h1
  | b :: l, hn, i, j, x, y, t, h1, h2, h3, h4 => by
    have hl : (l.filterMap f).Nodup := by
      rw [List.filterMap_cons] at hn
      split at hn
      · exact hn
      · exact (List.nodup_cons.1 hn).2
    have one : ∀ (k : Nat) z, f b = some t → l[k]? = some z → f z = some t → False := by
      intro k z g1 g2 g3
      rw [List.filterMap_cons, g1] at hn
      exact (List.nodup_cons.1 hn).1 (List.mem_filterMap.2 ⟨z, List.mem_of_getElem? g2, g3⟩)
    cases i with
    | zero =>
      cases j with
      | zero => rfl
      | succ j => simp at h1 h2; subst h1; exact (one j y h3 h2 h4).elim
    | succ i =>
      cases j with
      | zero => simp at h1 h2; subst h2; exact (one i x h4 h1 h3).elim
      | succ j => rw [filterMap_nodup hl i j x y t (by simpa using h1) (by simpa using h2) h3 h4]
theorem drawOk3_spec {ch : List Nat} (h : drawOk3 ops ch = true) : Draw3Ok ops ch := by
  simp only [drawOk3, Bool.and_eq_true, decide_eq_true_eq] at h
  obtain ⟨h0, h⟩ := h
  have hget : ∀ {i : Nat} {o : Oper}, ops[i]? = some o → ops.toList[i]? = some o := fun {i} {o} h => by rw [Array.getElem?_toList]; exact h
  refine ⟨fun i j o o' t h1 h2 h3 h4 => filterMap_nodup h0 i j o o' t (hget h1) (hget h2) h3 h4, fun i o ho e he hb => ?_, fun i o ho t ht j o' ho' hd hne => ?_, fun i j hi hzi hzj hlt => ?_⟩
  · have hi := (Array.getElem?_eq_some_iff.1 ho).1
    have e1 := List.all_eq_true.1 h i (List.mem_range.2 hi)
    rw [ho] at e1
    simp only [Bool.and_eq_true] at e1
    have e2 := Array.all_eq_true_iff_forall_mem.1 e1.1.1 e he
    simpa [hb] using e2
  · have hi := (Array.getElem?_eq_some_iff.1 ho).1
    have hj := (Array.getElem?_eq_some_iff.1 ho').1
    have e1 := List.all_eq_true.1 h i (List.mem_range.2 hi)
    rw [ho] at e1
    simp only [Bool.and_eq_true] at e1
    have e2 := List.all_eq_true.1 (List.all_eq_true.1 e1.1.2 t ht) j (List.mem_range.2 hj)
    rw [ho'] at e2
    simp only [Option.bind_some, hd, beq_self_eq_true, Bool.not_true, Bool.or_false, Bool.or_eq_true, decide_eq_true_eq] at e2
    rcases e2 with e2 | e2
    · exact absurd e2 hne
    · refine ⟨fun hlt => ?_, fun hlt => ?_⟩
      · rw [decide_eq_true hlt] at e2; exact e2
      · rw [decide_eq_false (by omega)] at e2; exact e2
  · have e1 := List.all_eq_true.1 h i (List.mem_range.2 hi)
    rw [Array.getElem?_eq_getElem hi] at e1
    simp only [Bool.and_eq_true, hzi, Bool.not_true, Bool.false_or] at e1
    have e2 := List.all_eq_true.1 e1.2 j (List.mem_range.2 hlt)
    simpa [hzj] using e2

def Clo (ops : Array Oper) (listed : Array Bool) : Prop := ∀ i o, ops[i]? = some o → listed.getD i true = true → ∀ e ∈ o.after, Region.binds .any e = true → listed.getD e.on true = true
theorem mask_ready {ch : List Nat} (hd : Draw3Ok ops ch) {listed : Array Bool} (hc : Clo ops listed) : ∀ (f i : Nat) (o : Oper), i ≤ f → ops[i]? = some o → (∀ e ∈ o.after, Region.binds .any e = true → listed.getD e.on true = true) → ∀ j, ((masks ops).getD i 0).testBit j = true → listed.getD j true = true := by
  intro f
  induction f with
  | zero =>
    intro i o hi ho hall j hj
    obtain ⟨o', e1, e, e2, e3, e4⟩ := masks_ok ops i j hj
    have e1 : ops[i]? = some o' := by simpa using e1
    rw [ho] at e1
    cases e1
    have := hd.lex i o ho e e2 e3
    omega
  | succ f ih =>
    intro i o hi ho hall j hj
    obtain ⟨o', e1, e, e2, e3, e4⟩ := masks_ok ops i j hj
    have e1 : ops[i]? = some o' := by simpa using e1
    rw [ho] at e1
    cases e1
    have hlt := hd.lex i o ho e e2 e3
    have hl := hall e e2 e3
    rcases e4 with e4 | e4
    · rw [← e4]; exact hl
    · have hsz : e.on < ops.size := by have := (Array.getElem?_eq_some_iff.1 ho).1; omega
      exact ih e.on ops[e.on] (by omega) (Array.getElem?_eq_getElem hsz) (fun e' he' hb => hc e.on _ (Array.getElem?_eq_getElem hsz) hl e' he' hb) j e4

/-! ### Runs in the order of the text -/
theorem put_miss {o : Oper} {s : St} {v : PV} {t : Nat} (h : o.dst ≠ some t) : (s.put o.dst v).reg t = s.reg t := by
  cases hd : o.dst with
  | none => rfl
  | some d =>
    show (bif Nat.beq t d then v else s.reg t) = _
    have : t ≠ d := fun e => h (by rw [hd, e])
    rw [nbeq_ne this]; rfl
theorem put_hit {o : Oper} {s : St} {v : PV} {t : Nat} (h : o.dst = some t) : (s.put o.dst v).reg t = v := by
  rw [h]
  show (bif Nat.beq t t then v else s.reg t) = _
  simp
variable {Z ch : List Nat} {S : Nat → St}
theorem Step3.reg {c : Bool} {s s' : St} {o : Oper} (h : Step3 P L ops Z c s o s') {t : Nat} (ht : o.dst ≠ some t) : s'.reg t = s.reg t := by
  cases h with
  | no h => exact put_miss ht
  | free h hq => exact put_miss ht
  | quiet h hq => exact put_miss ht
  | eff h he hz =>
    obtain ⟨_, _, _, _, h4⟩ := he.congr rfl fun _ _ => rfl
    exact (h4 t ht).2
theorem Step3.off {c : Bool} {s s' : St} {o : Oper} (h : Step3 P L ops Z c s o s') {k : Nat} (hk : zin Z k = false) : s'.own k = s.own k := by
  cases h with
  | no h => rw [put_own]
  | free h hq => rw [put_own]
  | quiet h hq => rw [put_own]
  | eff h he hz => exact hz k hk
theorem Step3.same {s s' : St} {o : Oper} (h : Step3 P L ops Z false s o s') : s'.own = s.own := by
  cases h with
  | no h => rw [put_own]
  | free h hq => rw [put_own]
abbrev Run3 (P : Program) (L : Lay) (ops : Array Oper) (Z ch : List Nat) (S : Nat → St) : Prop := ∀ (i : Nat) (o : Oper), ops[i]? = some o → Step3 P L ops Z (zin ch i) (S i) o (S (i + 1))
theorem run_off (hr : Run3 P L ops Z ch S) {k : Nat} (hk : zin Z k = false) : ∀ i, i ≤ ops.size → (S i).own k = (S 0).own k
  | 0, _ => rfl
  | i + 1, hi => by rw [(hr i _ (Array.getElem?_eq_getElem (by omega))).off hk, run_off hr hk i (by omega)]
theorem run_own (hr : Run3 P L ops Z ch S) {i : Nat} : ∀ d, i + d ≤ ops.size → (∀ q, i ≤ q → q < i + d → zin ch q = false) → (S (i + d)).own = (S i).own
  | 0, _, _ => rfl
  | d + 1, hd, h => by
    have h1 := hr (i + d) _ (Array.getElem?_eq_getElem (by omega))
    rw [h (i + d) (by omega) (by omega)] at h1
    rw [← Nat.add_assoc, h1.same, run_own hr d (by omega) fun q h1 h2 => h q h1 (by omega)]
theorem run_reg (hr : Run3 P L ops Z ch S) {t i : Nat} : ∀ d, i + d ≤ ops.size → (∀ q o, i ≤ q → q < i + d → ops[q]? = some o → o.dst ≠ some t) → (S (i + d)).reg t = (S i).reg t
  | 0, _, _ => rfl
  | d + 1, hd, h => by
    rw [← Nat.add_assoc, (hr (i + d) _ (Array.getElem?_eq_getElem (by omega))).reg (h (i + d) _ (by omega) (by omega) (Array.getElem?_eq_getElem (by omega))), run_reg hr d (by omega) fun q o h1 h2 => h q o h1 (by omega)]

structure Agr3 (ops : Array Oper) (Z ch : List Nat) (S : Nat → St) (listed : Array Bool) (s : St) : Prop where
  hit : ∀ i o t, ops[i]? = some o → listed.getD i true = true → o.dst = some t → s.reg t = (S (i + 1)).reg t
  miss : ∀ t, (∀ i o, ops[i]? = some o → listed.getD i true = true → o.dst ≠ some t) → s.reg t = (S 0).reg t
  off : ∀ k, zin Z k = false → s.own k = (S 0).own k
  on : ∃ q, q ≤ ops.size ∧ (∀ i, i < ops.size → zin ch i = true → (listed.getD i true = true ↔ i < q)) ∧ ∀ k, zin Z k = true → s.own k = (S q).own k

/-- What an operation that may come now reads, it reads as in the order of the text. -/
theorem agr_reads (hd : Draw3Ok ops ch) (hr : Run3 P L ops Z ch S) {listed : Array Bool} {s : St} (hag : Agr3 ops Z ch S listed s) (hc : Clo ops listed) {j : Nat} {o : Oper} (ho : ops[j]? = some o) (hun : listed.getD j true = false)
    (hall : ∀ e ∈ o.after, Region.binds .any e = true → listed.getD e.on true = true) {t : Nat} (ht : t ∈ o.looksAt ops) : (S j).reg t = s.reg t := by
  have hjl := (Array.getElem?_eq_some_iff.1 ho).1
  by_cases hx : ∃ (i : Nat) (o' : Oper), ops[i]? = some o' ∧ o'.dst = some t
  · obtain ⟨i, o', hi, hdi⟩ := hx
    have hil := (Array.getElem?_eq_some_iff.1 hi).1
    have hone : ∀ (q : Nat) (o : Oper), ops[q]? = some o → o.dst = some t → q = i := fun q o h1 h2 => hd.nodup q i o o' t h1 hi h2 hdi
    have hno : listed.getD i true = false → s.reg t = (S 0).reg t := fun hl => hag.miss t fun q oq h1 h2 h3 => by
      rw [hone q oq h1 h3, hl] at h2; cases h2
    rcases Nat.lt_trichotomy i j with hlt | he | hlt
    · have hm := (hd.reads j o ho t ht i o' hi hdi (by omega)).1 hlt
      have hl := mask_ready hd hc j j o (Nat.le_refl _) ho hall i hm
      rw [hag.hit i o' t hi hl hdi]
      have := run_reg hr (t := t) (i := i + 1) (j - (i + 1)) (by omega) fun q oq h1 h2 h3 h4 => by have := hone q oq h3 h4; omega
      rwa [show i + 1 + (j - (i + 1)) = j by omega] at this
    · subst he
      rw [hno hun]
      have := run_reg hr (t := t) (i := 0) i (by omega) fun q oq h1 h2 h3 h4 => by have := hone q oq h3 h4; omega
      rwa [Nat.zero_add] at this
    · have hm := (hd.reads j o ho t ht i o' hi hdi (by omega)).2 hlt
      have hl : listed.getD i true = false := by
        cases hb : listed.getD i true with
        | false => rfl
        | true =>
          have := mask_ready hd hc i i o' (Nat.le_refl _) hi (fun e he hbd => hc i o' hi hb e he hbd) j hm
          rw [hun] at this; cases this
      rw [hno hl]
      have := run_reg hr (t := t) (i := 0) j (by omega) fun q oq h1 h2 h3 h4 => by have := hone q oq h3 h4; omega
      rwa [Nat.zero_add] at this
  · rw [hag.miss t fun q oq h1 _ h3 => hx ⟨q, oq, h1, h3⟩]
    have := run_reg hr (t := t) (i := 0) j (by omega) fun q oq h1 h2 h3 h4 => hx ⟨q, oq, h3, h4⟩
    rwa [Nat.zero_add] at this
/-- What stands in one order meets the memory as in the order of the text. -/
theorem agr_own (hd : Draw3Ok ops ch) (hr : Run3 P L ops Z ch S) {listed : Array Bool} {s : St} (hag : Agr3 ops Z ch S listed s) (hc : Clo ops listed) {j : Nat} {o : Oper} (ho : ops[j]? = some o) (hun : listed.getD j true = false)
    (hall : ∀ e ∈ o.after, Region.binds .any e = true → listed.getD e.on true = true) (hz : zin ch j = true) : (S j).own = s.own ∧ ∀ i, i < ops.size → zin ch i = true → i ≠ j → (listed.getD i true = true ↔ i < j) := by
  have hjl := (Array.getElem?_eq_some_iff.1 ho).1
  have hord : ∀ i, i < ops.size → zin ch i = true → i ≠ j → (listed.getD i true = true ↔ i < j) := by
    intro i hi hzi hne
    constructor
    · intro hl
      rcases Nat.lt_or_ge i j with h | h
      · exact h
      · have hm := hd.chain i j hi hzi hz (by omega)
        have := mask_ready hd hc i i _ (Nat.le_refl _) (Array.getElem?_eq_getElem hi) (fun e he hb => hc i _ (Array.getElem?_eq_getElem hi) hl e he hb) j hm
        rw [hun] at this; cases this
    · intro hlt
      exact mask_ready hd hc j j o (Nat.le_refl _) ho hall i (hd.chain j i hjl hz hzi hlt)
  refine ⟨?_, hord⟩
  funext k
  cases hk : zin Z k with
  | false => rw [run_off hr hk j (by omega), hag.off k hk]
  | true =>
    obtain ⟨q, hq, h1, h2⟩ := hag.on
    rw [h2 k hk]
    have hjq : ¬ j < q := fun h => by
      have := (h1 j hjl hz).2 h
      rw [hun] at this; cases this
    have := run_own hr (i := q) (j - q) (by omega) fun i g1 g2 => by
      cases hzi : zin ch i with
      | false => rfl
      | true =>
        have hlt : i < j := by omega
        have := (h1 i (by omega) hzi).1 ((hord i (by omega) hzi (by omega)).2 hlt)
        omega
    rw [show q + (j - q) = j by omega] at this
    rw [this]

theorem draw_three (hG : Good P L C) (hd : Draw3Ok ops ch) {K' : St → Prop} {Q : Exit → Act → World → Prop} (hK : ∀ s' a' w', SimE C s' a' w' → K' s' → Q .normal a' w')
    (hN : ∀ o ∈ ops.toList, dstLt C.N o.dst = true) (hr : Run3 P L ops Z ch S) (hend : K' (S ops.size)) :
    ∀ (f : Nat) (U : List Nat) (listed : Array Bool) (s : St) (a : Act) (w : World), U.length = f → U.Nodup → (∀ i, i ∈ U ↔ i < ops.size ∧ listed.getD i true = false) → listed.size = ops.size → Clo ops listed → Agr3 ops Z ch S listed s → SimE C s a w →
      wpAny P .any ops Q f listed a w := by
  intro f
  induction f with
  | zero =>
    intro U listed s a w hU _ hmem hsz hc hag h
    have hU0 : U = [] := List.eq_nil_of_length_eq_zero hU
    subst hU0
    have hall : ∀ i, i < ops.size → listed.getD i true = true := fun i hi => by
      cases hb : listed.getD i true with
      | true => rfl
      | false => have := (hmem i).2 ⟨hi, hb⟩; cases this
    refine ⟨all_listed hmem, hK _ _ _ h ?_⟩
    have : s = S ops.size := by
      refine St.ext' (funext fun t => ?_) (funext fun k => ?_)
      · by_cases hx : ∃ (i : Nat) (o' : Oper), ops[i]? = some o' ∧ o'.dst = some t
        · obtain ⟨i, o', hi, hdi⟩ := hx
          have hil := (Array.getElem?_eq_some_iff.1 hi).1
          rw [hag.hit i o' t hi (hall i hil) hdi]
          have := run_reg hr (t := t) (i := i + 1) (ops.size - (i + 1)) (by omega) fun q oq h1 h2 h3 h4 => by have := hd.nodup q i oq o' t h3 hi h4 hdi; omega
          rw [show i + 1 + (ops.size - (i + 1)) = ops.size by omega] at this
          exact this.symm
        · rw [hag.miss t fun q oq h1 _ h3 => hx ⟨q, oq, h1, h3⟩]
          have := run_reg hr (t := t) (i := 0) ops.size (by omega) fun q oq h1 h2 h3 h4 => hx ⟨q, oq, h3, h4⟩
          rw [Nat.zero_add] at this
          exact this.symm
      · cases hk : zin Z k with
        | false => rw [run_off hr hk _ (Nat.le_refl _), hag.off k hk]
        | true =>
          obtain ⟨q, hq, h1, h2⟩ := hag.on
          rw [h2 k hk]
          have := run_own hr (i := q) (ops.size - q) (by omega) fun i g1 g2 => by
            cases hzi : zin ch i with
            | false => rfl
            | true =>
              have := (h1 i (by omega) hzi).1 (hall i (by omega))
              omega
          rw [show q + (ops.size - q) = ops.size by omega] at this
          rw [this]
    rw [this]; exact hend
  | succ f ih =>
    intro U listed s a w hU hnd hmem hsz hc hag h
    refine ⟨fun hnil => absurd hnil (least_ready hsz hd.lex hmem (fun he => by rw [he] at hU; simp at hU)), fun j hj => ?_⟩
    obtain ⟨hun, o, ho, hall0⟩ := mem_ready.1 hj
    have hjl := (Array.getElem?_eq_some_iff.1 ho).1
    have hlex := hd.lex j o ho
    have hall : ∀ e ∈ o.after, Region.binds .any e = true → listed.getD e.on true = true := fun e he hb => by
      have h1 := hall0 e he hb
      rw [getD_tf (by rw [hsz]; have := hlex e he hb; omega)]; exact h1
    have hjs : j < listed.size := by rw [hsz]; exact hjl
    have hNo : dstLt C.N o.dst = true := hN o (by have := Array.mem_of_getElem? ho; simpa using this)
    have hreads : ∀ t ∈ o.looksAt ops, (S j).reg t = s.reg t := fun t ht => agr_reads hd hr hag hc ho hun hall ht
    have hnew : ∀ q, (listed.setIfInBounds j true).getD q true = true ↔ q = j ∨ listed.getD q true = true := fun q => by
      by_cases hq : q = j
      · subst hq; simp [hjs]
      · rw [getD_set_ne true (Ne.symm hq)]; simp [hq]
    have hnext : ∀ s' a' w', (∀ t, o.dst = some t → s'.reg t = (S (j + 1)).reg t) → (∀ t, o.dst ≠ some t → s'.reg t = s.reg t) → (∀ k, zin Z k = false → s'.own k = s.own k) →
        (zin ch j = false → s'.own = s.own) → (zin ch j = true → ∀ k, zin Z k = true → s'.own k = (S (j + 1)).own k) → SimE C s' a' w' → wpAny P .any ops Q f (listed.setIfInBounds j true) a' w' := by
      intro s' a' w' g1 g2 g3 g4 g5 h'
      have hUj : j ∈ U := (hmem j).2 ⟨hjl, hun⟩
      refine ih (U.erase j) _ s' a' w' (by rw [List.length_erase_of_mem hUj]; omega) (hnd.erase j) (fun k => ?_) (by simpa using hsz) ?_ ?_ h'
      · rw [hnd.mem_erase_iff, hmem k]
        by_cases hki : k = j
        · subst hki
          simp [hjs]
        · rw [getD_set_ne true (Ne.symm hki)]
          exact ⟨fun x => x.2, fun x => ⟨hki, x⟩⟩
      · intro i oi hi hl e he hb
        rw [hnew]
        rcases (hnew i).1 hl with rfl | hl'
        · rw [ho] at hi; cases hi; exact .inr (hall e he hb)
        · exact .inr (hc i oi hi hl' e he hb)
      · refine ⟨fun i oi t hi hl hdi => ?_, fun t hm => ?_, fun k hk => by rw [g3 k hk, hag.off k hk], ?_⟩
        · rcases (hnew i).1 hl with rfl | hl'
          · rw [ho] at hi; cases hi; exact g1 t hdi
          · have hij : i ≠ j := fun e => by rw [e, hun] at hl'; cases hl'
            rw [g2 t (fun hdj => hij (hd.nodup i j oi o t hi ho hdi hdj)), hag.hit i oi t hi hl' hdi]
        · rw [g2 t (hm j o ho ((hnew j).2 (.inl rfl)))]
          exact hag.miss t fun i oi hi hl => hm i oi hi ((hnew i).2 (.inr hl))
        · obtain ⟨q, hq, h1, h2⟩ := hag.on
          cases hz : zin ch j with
          | false =>
            refine ⟨q, hq, fun i hi hzi => ?_, fun k hk => by rw [g4 hz, h2 k hk]⟩
            rw [hnew, ← h1 i hi hzi]
            constructor
            · rintro (rfl | hl)
              · rw [hz] at hzi; cases hzi
              · exact hl
            · exact .inr
          | true =>
            have hord := (agr_own hd hr hag hc ho hun hall hz).2
            refine ⟨j + 1, by omega, fun i hi hzi => ?_, fun k hk => g5 hz k hk⟩
            rw [hnew]
            by_cases hij : i = j
            · subst hij; simp
            · rw [hord i hi hzi hij]; omega
    have hev : ∀ x ∈ o.op.operands, (S j).ev x = s.ev x := ops_ev (ops := ops) hreads
    have hstep := hr j o ho
    have hoff := fun k hk => hstep.off (k := k) hk
    unfold wpOp
    rw [ho]
    simp only
    generalize hzj : zin ch j = cj at hstep
    generalize hSj : S (j + 1) = s1 at hstep hnext hoff
    cases hstep with
    | no hw =>
      have hw' : Wants ops s o false := hw.congr hreads
      rw [if_neg (by rw [hw'.spec h]; simp)]
      refine hnext (s.put o.dst (.raw undef)) _ _ (fun t ht => by rw [put_hit ht, put_hit ht]) (fun t ht => put_miss ht) (fun k _ => by rw [put_own]) (fun _ => by rw [put_own]) (fun hz k hk => ?_) (h.put hNo undef)
      rw [put_own, put_own, (agr_own hd hr hag hc ho hun hall hz).1]
    | free hw hq =>
      have hw' : Wants ops s o true := hw.congr hreads
      rw [if_pos (hw'.spec h)]
      have hle : OwnLe ((S j).erase Z) ⟨(S j).reg, s.own⟩ := fun k => by
        cases hk : zin Z k with
        | true => exact .inr (by simp [St.erase, hk])
        | false =>
          refine .inl ?_
          show s.own k = (bif zin Z k then _ else (S j).own k)
          rw [hk, run_off hr hk j (by omega), hag.off k hk]; rfl
      have hq2 := hq.le hle rfl
      have hq3 : QOp P L s o _ := QOp.congr (s := ⟨(S j).reg, s.own⟩) (s' := s) rfl hev hq2
      refine .inl (hq3.wp hG h hNo fun a' w' h' => hnext _ a' w' (fun t ht => by rw [put_hit ht, put_hit ht]) (fun t ht => put_miss ht) (fun k _ => by rw [put_own]) (fun _ => by rw [put_own]) (fun hz => by rw [hzj] at hz; cases hz) h')
    | quiet hw hq =>
      have hw' : Wants ops s o true := hw.congr hreads
      rw [if_pos (hw'.spec h)]
      have hown := (agr_own hd hr hag hc ho hun hall hzj).1
      have hq3 : QOp P L s o _ := QOp.congr (s := S j) hown hev hq
      refine .inl (hq3.wp hG h hNo fun a' w' h' => hnext _ a' w' (fun t ht => by rw [put_hit ht, put_hit ht]) (fun t ht => put_miss ht) (fun k _ => by rw [put_own]) (fun hz => by rw [put_own]) (fun _ k _ => by rw [put_own, put_own, hown]) h')
    | eff hw he hz =>
      have hw' : Wants ops s o true := hw.congr hreads
      rw [if_pos (hw'.spec h)]
      have hown := (agr_own hd hr hag hc ho hun hall hzj).1
      obtain ⟨s', e1, e2, e3, e4⟩ := he.congr hown hev
      refine .inl (e1.sound hG.lay h hNo fun a' w' h' => hnext s' a' w' (fun t ht => e3 t ht) (fun t ht => (e4 t ht).1) (fun k hk => by rw [e2, hoff k hk, hown]) (fun hz => by rw [hzj] at hz; cases hz) (fun _ k _ => by rw [e2]) h')

def PDraw3 (P : Program) (L : Lay) (ops : Array Oper) (K : St → Prop) (s : St) : Prop := ∃ Z ch, drawOk3 ops ch = true ∧ P3 P L ops Z (zin ch) K 0 ops.toList s
theorem PDraw3.sound (hG : Good P L C) {K' : St → Prop} {Q : Exit → Act → World → Prop} (hK : ∀ s' a' w', SimE C s' a' w' → K' s' → Q .normal a' w') (hN : ∀ o ∈ ops.toList, dstLt C.N o.dst = true) {id : Nat} {s : St}
    (h : SimE C s a w) (hq : PDraw3 P L ops K' s) : (Code.region id ops true).wp P Q a w := by
  obtain ⟨Z, ch, hok, hq⟩ := hq
  obtain ⟨S, h0, h1, h2⟩ := P3.run _ _ _ hq
  have hd := drawOk3_spec hok
  have hr : Run3 P L ops Z ch S := fun i o ho => by
    have := h1 i o (by simpa using ho)
    rwa [Nat.zero_add] at this
  have hend : K' (S ops.size) := by simpa using h2
  refine wp_region_any hG.mixed ?_
  have hrep : ∀ i, i < ops.size → (Array.replicate ops.size false).getD i true = false := fun i hi => by simp [hi]
  refine draw_three hG hd hK hN hr hend ops.size (List.range ops.size) (Array.replicate ops.size false) s a _ (by simp) List.nodup_range (fun i => ?_) (by simp) ?_ ?_ (let ⟨γ, h⟩ := h; ⟨γ, sim_drew h⟩)
  · rw [List.mem_range]
    exact ⟨fun hi => ⟨hi, hrep i hi⟩, fun x => x.1⟩
  · intro i o ho hl
    rw [hrep i (Array.getElem?_eq_some_iff.1 ho).1] at hl; cases hl
  · refine ⟨fun i o t ho hl => ?_, fun t _ => by rw [h0], fun k _ => by rw [h0], 0, by omega, fun i hi _ => ?_, fun k _ => by rw [h0]⟩
    · rw [hrep i (Array.getElem?_eq_some_iff.1 ho).1] at hl; cases hl
    · rw [hrep i hi]
      exact ⟨fun h => (by cases h), fun h => (by omega)⟩
end
end Go.Pv

/- Code and functions over pure values. -/
namespace Go.Pv
open Go.RowKit
variable [Globs]

def XThen (next : St → Prop) (Q : Exit → St → Prop) : Exit → St → Prop
  | .normal, s => next s
  | e, s => Q e s
def XBlock (id : Nat) (Q : Exit → St → Prop) : Exit → St → Prop
  | .exit id', s => if id' = id then Q .normal s else Q (.exit id') s
  | e, s => Q e s

/-- What stands for 's' stands for 's1' as well. -/
def Ghost (s s1 : St) : Prop := ∀ C a w, (∀ b, C.X b → b < C.B) → SimE C s a w → SimE C s1 a w
theorem Ghost.refl (s : St) : Ghost s s := fun _ _ _ _ h => h
theorem Ghost.trans {s1 s2 s3 : St} (h1 : Ghost s1 s2) (h2 : Ghost s2 s3) : Ghost s1 s3 := fun C a w hx h => h2 C a w hx (h1 C a w hx h)
def Gh (K : St → Prop) (s : St) : Prop := ∃ s1, Ghost s s1 ∧ K s1
theorem Gh.of {K : St → Prop} {s : St} (h : K s) : Gh K s := ⟨s, .refl s, h⟩

def PWP (P : Program) (L : Lay) : Code → (Exit → St → Prop) → St → Prop
  | .skip, Q, s => Gh (Q .normal) s
  | .region _ ops d, Q, s => Gh (fun s => bif d then (PDraw P L ops (Q .normal) s ∨ PDraw2 P L ops (Q .normal) s ∨ PDraw3 P L ops (Q .normal) s) else (POps P L ops (Q .normal) ops.toList s ∨ PSem P L ops (Q .normal) ops.toList s)) s
  | .seq x y, Q, s => PWP P L x (XThen (fun s' => PWP P L y Q s') Q) s
  | .cond c x y, Q, s => Gh (fun s => ∃ b, s.ev c = .bool b ∧ (b = true → PWP P L x Q s) ∧ (b = false → PWP P L y Q s)) s
  | .block id c, Q, s => PWP P L c (XBlock id Q) s
  | .loop c, Q, s => Gh (fun s => ∃ (I : St → Prop) (μ : St → Nat), I s ∧ ∀ s, I s → PWP P L c (XThen (fun s' => I s' ∧ μ s' < μ s) Q) s) s
  | .exit id, Q, s => Gh (Q (.exit id)) s
  | .ret, Q, s => Gh (Q .ret) s
  | .label _, Q, s => Gh (Q .normal) s
  | _, _, _ => False

/-- A step that the machine does not take. -/
theorem pw_ghost {P : Program} {L : Lay} {s s1 : St} (hg : Ghost s s1) : ∀ {c : Code} {Q : Exit → St → Prop}, PWP P L c Q s1 → PWP P L c Q s
  | .skip, _, ⟨s2, h1, h2⟩ => ⟨s2, hg.trans h1, h2⟩
  | .region .., _, ⟨s2, h1, h2⟩ => ⟨s2, hg.trans h1, h2⟩
  | .seq x _, _, h => pw_ghost (c := x) hg h
  | .cond .., _, ⟨s2, h1, h2⟩ => ⟨s2, hg.trans h1, h2⟩
  | .block _ c, _, h => pw_ghost (c := c) hg h
  | .loop .., _, ⟨s2, h1, h2⟩ => ⟨s2, hg.trans h1, h2⟩
  | .exit .., _, ⟨s2, h1, h2⟩ => ⟨s2, hg.trans h1, h2⟩
  | .ret, _, ⟨s2, h1, h2⟩ => ⟨s2, hg.trans h1, h2⟩
  | .label .., _, ⟨s2, h1, h2⟩ => ⟨s2, hg.trans h1, h2⟩
  | .goto .., _, h => h.elim
  | .rangeFunc .., _, h => h.elim
  | .scope .., _, h => h.elim
  | .refuse .., _, h => h.elim

def codeOk (N : Nat) : Code → Bool
  | .region _ ops _ => ops.toList.all fun o => dstLt N o.dst
  | .seq x y => codeOk N x && codeOk N y
  | .cond _ x y => codeOk N x && codeOk N y
  | .block _ c => codeOk N c
  | .loop c => codeOk N c
  | _ => true

section
variable {P : Program} {L : Lay} {C : Ctx} {s : St} {a : Act} {w w' : World}

/-- What a post over pure values says of a frame and a world. -/
def Up (C : Ctx) (Q : Exit → St → Prop) (e : Exit) (a : Act) (w : World) : Prop := ∃ s, SimE C s a w ∧ Q e s

theorem up_then {next : St → Prop} {Q : Exit → St → Prop} {K : Act → World → Prop} {Q' : Exit → Act → World → Prop} (h1 : ∀ s a w, SimE C s a w → next s → K a w) (h2 : ∀ e s a w, SimE C s a w → Q e s → Q' e a w) :
    ∀ e a w, Up C (XThen next Q) e a w → Exit.then K Q' e a w := by
  rintro e a w ⟨s, hs, hq⟩
  cases e
  case normal => exact h1 s a w hs hq
  all_goals exact h2 _ s a w hs hq

theorem PWP.sound (hG : Good P L C) : ∀ (c : Code) (Q : Exit → St → Prop) (s : St) (a : Act) (w : World), codeOk C.N c = true → SimE C s a w → PWP P L c Q s → c.wp P (Up C Q) a w
  | .skip, Q, s, a, w, _, h, ⟨s1, g, hp⟩ => wp_skip ⟨s1, g C a w hG.x h, hp⟩
  | .region id ops d, Q, s, a, w, hc, h, hp => by
    obtain ⟨s1, g, hp⟩ := hp
    replace h := g C a w hG.x h
    have hN : ∀ o ∈ ops.toList, dstLt C.N o.dst = true := fun o ho => List.all_eq_true.1 hc o ho
    cases d with
    | true =>
      rcases hp with hp | hp | hp
      · exact PDraw.sound hG (Q := Up C Q) (fun s' a' w' h' hk => ⟨s', h', hk⟩) hN h hp
      · exact PDraw2.sound hG (Q := Up C Q) (fun s' a' w' h' hk => ⟨s', h', hk⟩) hN h hp
      · exact PDraw3.sound hG (Q := Up C Q) (fun s' a' w' h' hk => ⟨s', h', hk⟩) hN h hp
    | false =>
      rcases hp with hp | hp
      · exact wp_region_list (POps.sound hG (Q := Up C Q) (fun s' a' w' h' hk => ⟨s', h', hk⟩) ops.toList s1 a w hN h hp)
      · exact wp_region_list (PSem.sound hG (Q := Up C Q) (fun s' a' w' h' hk => ⟨s', h', hk⟩) ops.toList s1 a w hN h hp)
  | .seq x y, Q, s, a, w, hc, h, hp => by
    simp only [codeOk, Bool.and_eq_true] at hc
    refine wp_seq (wp_mono (PWP.sound hG x _ s a w hc.1 h hp) (up_then (fun s' a' w' h' hn => PWP.sound hG y Q s' a' w' hc.2 h' hn) fun e s' a' w' h' hq => ⟨s', h', hq⟩))
  | .cond c x y, Q, s, a, w, hc, h, hp => by
    simp only [codeOk, Bool.and_eq_true] at hc
    obtain ⟨s1, g, b, hb, h1, h2⟩ := hp
    obtain ⟨γ, h'⟩ := g C a w hG.x h
    have he := h'.ev c
    rw [hb] at he
    refine wp_cond (t := b) he.bool_inv ?_
    cases b
    · exact PWP.sound hG y Q s1 a w hc.2 ⟨γ, h'⟩ (h2 rfl)
    · exact PWP.sound hG x Q s1 a w hc.1 ⟨γ, h'⟩ (h1 rfl)
  | .block id c, Q, s, a, w, hc, h, hp => by
    refine wp_block (wp_mono (PWP.sound hG c _ s a w hc h hp) ?_)
    rintro e a' w' ⟨s', h', hq⟩
    cases e
    case exit id' =>
      show if id' = id then _ else _
      have hq' : if id' = id then Q .normal s' else Q (.exit id') s' := hq
      split
      · rename_i hid; rw [if_pos hid] at hq'; exact ⟨s', h', hq'⟩
      · rename_i hid; rw [if_neg hid] at hq'; exact ⟨s', h', hq'⟩
    all_goals exact ⟨s', h', hq⟩
  | .loop c, Q, s, a, w, hc, h, hp => by
    obtain ⟨s1, g, I, μ, h0, hround⟩ := hp
    replace h := g C a w hG.x h
    -- the least measure of a state that the frame stands for
    let J : Act → World → Nat → Prop := fun a w n => ∃ s, SimE C s a w ∧ I s ∧ μ s = n
    have least : ∀ a w, (∃ n, J a w n) → ∃ n, J a w n ∧ ∀ m, J a w m → n ≤ m := by
      intro a w ⟨n, hn⟩
      induction n using Nat.strongRecOn with
      | _ n ih =>
        by_cases hx : ∃ m, m < n ∧ J a w m
        · obtain ⟨m, hm, hj⟩ := hx
          exact ih m hm hj
        · exact ⟨n, hn, fun m hm => by
            rcases Nat.lt_or_ge m n with h | h
            · exact absurd ⟨m, h, hm⟩ hx
            · exact h⟩
    have hμ : ∃ f : Act → World → Nat, ∀ a w, (∃ n, J a w n) → J a w (f a w) ∧ ∀ m, J a w m → f a w ≤ m := by
      refine ⟨fun a w => Classical.epsilon fun n => J a w n ∧ ∀ m, J a w m → n ≤ m, fun a w hx => ?_⟩
      exact Classical.epsilon_spec (least a w hx)
    obtain ⟨f, hf⟩ := hμ
    refine wp_loop (fun a w => ∃ s, SimE C s a w ∧ I s) f ⟨s1, h, h0⟩ ?_
    rintro a1 w1 ⟨s1, hs1, hI1⟩
    obtain ⟨⟨s2, hs2, hI2, hm2⟩, _⟩ := hf a1 w1 ⟨_, s1, hs1, hI1, rfl⟩
    refine wp_mono (PWP.sound hG c _ s2 a1 w1 hc hs2 (hround s2 hI2)) (up_then (fun s3 a3 w3 h3 ⟨i3, m3⟩ => ⟨⟨s3, h3, i3⟩, ?_⟩) fun e s' a' w' h' hq => ⟨s', h', hq⟩)
    have := (hf a3 w3 ⟨_, s3, h3, i3, rfl⟩).2 _ ⟨s3, h3, i3, rfl⟩
    omega
  | .exit id, Q, s, a, w, _, h, ⟨s1, g, hp⟩ => wp_exit ⟨s1, g C a w hG.x h, hp⟩
  | .ret, Q, s, a, w, _, h, ⟨s1, g, hp⟩ => wp_ret ⟨s1, g C a w hG.x h, hp⟩
  | .label l, Q, s, a, w, _, h, ⟨s1, g, hp⟩ => wp_label ⟨s1, g C a w hG.x h, hp⟩
  | .goto _, _, _, _, _, _, _, hp => hp.elim
  | .rangeFunc .., _, _, _, _, _, _, hp => hp.elim
  | .scope _, _, _, _, _, _, _, hp => hp.elim
  | .refuse _, _, _, _, _, _, _, hp => hp.elim

/-! ### Functions -/
def rv (L : Lay) (s : St) : ResultVar → Option (PV × Prop)
  | .tmp t => some (s.reg t, True)
  | .cell t T => qv L s (.load T (.tmp t))
def rvs (L : Lay) (s : St) : List ResultVar → Option (List PV × Prop)
  | [] => some ([], True)
  | x :: xs => match rv L s x with
    | some (v, A) => (match rvs L s xs with | some (vs, B) => some (v :: vs, A ∧ B) | none => none)
    | none => none
def tupled : List PV → PV
  | [x] => x
  | l => .tup l

def Post (L : Lay) (fn : Func) (m : Mode) (r : PV) (s : St) : Prop :=
  ∃ l Cd d Cd2 fl, rvs L s fn.results.toList = some (l, Cd) ∧ Cd ∧ res s 5 (tupled l) = some (d, Cd2, fl) ∧ Cd2 ∧ (match m with | .shared => True | .fresh => fl.fr = true) ∧ d = r

def RetPost (L : Lay) (fn : Func) (m : Mode) (r : PV) : Exit → St → Prop
  | .normal, s | .ret, s => Post L fn m r s
  | _, _ => False

def initSt (pargs : List PV) : St := { reg := fun t => pargs.getD t (.raw undef), own := fun _ => (0, none) }

theorem rvs_spec (hL : LOk P L) {γ : Nat → Option Nat} (h : Sim C γ s a w) : ∀ (xs : List ResultVar) (l : List PV) (Cd : Prop), rvs L s xs = some (l, Cd) → Cd →
    ∃ vs : List Value, (xs.mapM (fun | .tmp t => pure (a.tmps.getD t undef) | .cell p t => do loadVar t (← asAddr (a.tmps.getD p undef)) : ResultVar → Sem Value)).run P w = .ok vs w ∧ l.length = vs.length ∧
      ∀ (i : Nat) (c : PV) (v : Value), l[i]? = some c → vs[i]? = some v → Rep (envOf C γ s w) c v
  | [], l, Cd, hq, _ => by
    simp only [rvs, Option.some.injEq, Prod.mk.injEq] at hq
    obtain ⟨rfl, _⟩ := hq
    exact ⟨[], by simp, rfl, fun i c v h => by simp at h⟩
  | x :: xs, l, Cd, hq, hc => by
    simp only [rvs] at hq
    split at hq
    · rename_i v A hv
      split at hq
      · rename_i vs B hvs
        simp only [Option.some.injEq, Prod.mk.injEq] at hq
        obtain ⟨rfl, rfl⟩ := hq
        obtain ⟨us, h1, h2, h3⟩ := rvs_spec hL h xs vs B hvs hc.2
        have key : ∃ u, ((fun | .tmp t => pure (a.tmps.getD t undef) | .cell p t => do loadVar t (← asAddr (a.tmps.getD p undef)) : ResultVar → Sem Value) x).run P w = .ok u w ∧ Rep (envOf C γ s w) v u := by
          cases x with
          | tmp t =>
            simp only [rv, Option.some.injEq, Prod.mk.injEq] at hv
            obtain ⟨rfl, _⟩ := hv
            exact ⟨_, rfl, h.regs t⟩
          | cell p T =>
            obtain ⟨u, e1, e2⟩ := snd_load (P := P) hL h hv hc.1
            refine ⟨u, ?_, e2⟩
            have he : a.eval (.tmp p) = a.tmps.getD p undef := rfl
            rw [he] at e1
            simp only [Sem.run_bind]
            generalize a.tmps.getD p undef = y at e1
            unfold Instr.loadAt Instr.sureAddr at e1
            split at e1
            · simpa [asAddr] using e1
            · simp at e1
        obtain ⟨u, k1, k2⟩ := key
        refine ⟨u :: us, ?_, by simp [h2], fun i c v' e1 e2 => ?_⟩
        · rw [List.mapM_cons, Sem.run_bind, k1]
          simp only [Result.andThen_ok, Sem.run_bind, h1, Sem.run_pure]
        · cases i with
          | zero => simp at e1 e2; subst e1; subst e2; exact k2
          | succ i => exact h3 i c v' (by simpa using e1) (by simpa using e2)
      · cases hq
    · cases hq

theorem Ret.of_pwp {m : Mode} {f : FuncId} {fn : Func} {body : Code} {pargs : List PV} {r : PV} (hL : LOk P L) (hm : P.follows .mixedOrders = true) (hf : P.funcs[f]? = some fn) (hb : fn.body = some body) (hn : (fn.name == "runtime.NumGoroutine") = false)
    (hlen : Nat.ble pargs.length fn.ntmps = true) (hc : codeOk fn.ntmps body = true) (h : PWP P L body (RetPost L fn m r) (initSt pargs)) : Ret P m f pargs r := by
  refine ⟨⟨fn, hf, hn, by simp [hb]⟩, fun w X args hg hX hl hargs => ?_⟩
  let C : Ctx := ⟨w.heap.size, X, w, fn.ntmps, fun _ _ => False⟩
  have hG : Good P L C := ⟨hL, hX, hm, fun w' hb => Globs.keep w w' hg hb⟩
  have hle : args.length ≤ fn.ntmps := by rw [← hl]; simpa using hlen
  have hsim : SimE C (initSt pargs) { tmps := args.toArray ++ Array.replicate (fn.ntmps - args.toArray.size) undef, defers := [] } w := by
    refine ⟨fun _ => none, rfl, by simp [C]; omega, fun t => ?_, fun k c hk => by simp [initSt] at hk, fun k k' c c' b hk => by simp [initSt] at hk, fun k c b hk => by simp [initSt] at hk, Below.refl _ _, Nat.le_refl _, fun c v hk => hk.elim⟩
    show Rep _ (pargs.getD t (.raw undef)) _
    rcases Nat.lt_or_ge t args.length with hlt | hge
    · have hlt' : t < pargs.length := by omega
      have e1 : pargs.getD t (.raw undef) = pargs[t] := by simp [hlt']
      have e2 : (args.toArray ++ Array.replicate (fn.ntmps - args.toArray.size) undef).getD t undef = args[t] := by
        rw [Array.getD_eq_getD_getElem?, Array.getElem?_append_left (by simpa using hlt)]
        simp [hlt]
      rw [e1, e2]
      refine .d ((hargs t pargs[t] args[t] (List.getElem?_eq_getElem hlt') (List.getElem?_eq_getElem hlt)).weaken fun b hb => ⟨hb.1, hb.2, fun k c hk => by simp [initSt] at hk⟩)
    · have e1 : pargs.getD t (.raw undef) = .raw undef := by simp [List.getElem?_eq_none (by omega : pargs.length ≤ t)]
      have e2 : (args.toArray ++ Array.replicate (fn.ntmps - args.toArray.size) undef).getD t undef = undef := by
        rw [Array.getD_eq_getD_getElem?, Array.getElem?_append_right (by simpa using hge)]
        rcases Nat.lt_or_ge (t - args.toArray.size) (fn.ntmps - args.toArray.size) with h1 | h1
        · rw [Array.getElem?_replicate, if_pos h1]; rfl
        · rw [Array.getElem?_eq_none (by simpa using h1)]; rfl
      rw [e1, e2]
      exact .d (.raw _)
  refine calls_of_wp hf hb (wp_mono (PWP.sound hG body _ _ _ w hc hsim h) ?_)
  have fin : ∀ {s : St} {a : Act} {w' : World}, SimE C s a w' → Post L fn m r s → a.defers = [] ∧ ∃ v, (results fn a.tmps).run P w' = .ok v w' ∧ ∃ u, Ending.returned v = .returned u ∧ Below w.heap.size w w' ∧ DRep w' (m.ok X w w') r u := by
    rintro s a w' ⟨γ, hs⟩ ⟨l, Cd, d, Cd2, fl, h1, h2, h3, h4, h5, rfl⟩
    obtain ⟨vs, g1, g2, g3⟩ := rvs_spec (P := P) hL hs fn.results.toList l Cd h1 h2
    have hbel : Below w.heap.size w w' := hs.below
    have hok : ∀ k, okArg C γ s w' fl k → m.ok X w w' k := by
      intro k hk
      cases m with
      | shared => exact ⟨hk.1, hk.2.1⟩
      | fresh => exact ⟨hk.2.2.2 h5, hk.1⟩
    refine ⟨hs.defers, ?_⟩
    have hrun : (results fn a.tmps).run P w' = .ok (if h : vs.toArray.size = 1 then vs.toArray[0] else .tuple vs.toArray) w' := by
      unfold results
      rw [← Array.toArray_toList (xs := fn.results), List.mapM_toArray]
      simp only [Sem.run_bind, Sem.run_map, Sem.run_pure]
      exact congrArg (fun q : Result (List Value) => (q.andThen fun a w' => Result.ok a.toArray w').andThen fun a w' => Result.ok (if h : a.size = 1 then a[0] else .tuple a) w') g1
    rw [hrun]
    refine ⟨_, rfl, _, rfl, hbel, ?_⟩
    have hrep : Rep (envOf C γ s w') (tupled l) (if h : vs.toArray.size = 1 then vs.toArray[0] else .tuple vs.toArray) := by
      match l, vs, g2, g3 with
      | [], [], _, _ => exact .tup [] [] rfl fun i c v e => by simp at e
      | [c], [v], _, g3 => exact g3 0 c v rfl rfl
      | c1 :: c2 :: l, v1 :: v2 :: vs, hlen, g3 =>
        rw [dif_neg (by simp)]
        exact .tup _ _ hlen g3
    exact (res_spec hX hs 5 _ _ _ _ _ h3 h4 hrep).weaken hok
  rintro e a w' ⟨s, hs, hq⟩
  cases e
  case normal => exact fin hs hq
  case ret => exact fin hs hq
  all_goals exact hq.elim


/-! ### A call, told by the code of what is called: for callees that write what the caller owns -/
def InlPost (L : Lay) (fn : Func) (K : St → PV → Prop) : Exit → St → Prop
  | .normal, s | .ret, s => ∃ l Cd, rvs L s fn.results.toList = some (l, Cd) ∧ Cd ∧ K s (tupled l)
  | _, _ => False
/-- The callee's first state. -/
def callSt (s : St) (pargs : List PV) : St := { reg := fun t => pargs.getD t (.raw undef), own := s.own }

theorem sm_inline {o : Oper} {fop : Operand} {args : Array Operand} {tys : Array TypeId} {f : FuncId} {caps : List PV} {fn : Func} {body : Code} {K : St → Prop} (hL : LOk P L) (ho : o.op = .call ⟨.value fop, args, tys⟩) (hclo : s.ev fop = .clo f caps)
    (hf : P.funcs[f]? = some fn) (hb : fn.body = some body) (hn : (fn.name == "runtime.NumGoroutine") = false) (hlen : Nat.ble (args.toList.map s.ev ++ caps).length fn.ntmps = true) (hc : codeOk fn.ntmps body = true)
    (h : PWP P L body (InlPost L fn (fun s' r => K (({ reg := s.reg, own := s'.own } : St).put o.dst r))) (callSt s (args.toList.map s.ev ++ caps))) : Sm P L s o K := by
  intro C a w Q hG hs hN
  obtain ⟨γ, hs⟩ := hs
  have hfv := hs.ev fop
  rw [hclo] at hfv
  obtain ⟨vs, hv, hcl, hcd⟩ := hfv.clo_inv
  unfold Oper.wp
  rw [run_call (f := f) ho hv ⟨fn, hf, hn, by simp [hb]⟩, Oper.upon_enter]
  let C' : Ctx := ⟨C.B, C.X, C.w0, fn.ntmps, fun c v => C.keep c v ∨ ∃ t, c = s.reg t ∧ v = a.tmps.getD t undef⟩
  have hG' : Good P L C' := ⟨hG.lay, hG.x, hG.mixed, hG.glob⟩
  have hargs : ∀ (i : Nat) (c : PV) (v : Value), (args.toList.map s.ev ++ caps)[i]? = some c → (args.toList.map a.eval ++ vs)[i]? = some v → Rep (envOf C γ s w) c v := by
    intro i c v e1 e2
    rw [List.getElem?_append] at e1 e2
    simp only [List.length_map] at e1 e2
    split at e1
    · rename_i hlt
      rw [if_pos hlt] at e2
      rw [List.getElem?_map] at e1 e2
      cases hx : args.toList[i]? with
      | none => rw [hx] at e1; simp at e1
      | some x => rw [hx] at e1 e2; simp at e1 e2; subst e1; subst e2; exact hs.ev x
    · rename_i hlt
      rw [if_neg hlt] at e2
      exact hcd _ c v e1 e2
  have hlv : (args.toList.map s.ev ++ caps).length = (args.toList.map a.eval ++ vs).length := by simp [hcl]
  have hle : (args.toList.map a.eval ++ vs).length ≤ fn.ntmps := by rw [← hlv]; simpa using hlen
  generalize args.toList.map s.ev ++ caps = pargs at h hargs hlv
  generalize args.toList.map a.eval ++ vs = vargs at hargs hlv hle
  have hsim : SimE C' (callSt s pargs) { tmps := vargs.toArray ++ Array.replicate (fn.ntmps - vargs.toArray.size) undef, defers := [] } w := by
    refine ⟨γ, rfl, by simp [C']; omega, fun t => ?_, hs.sites, hs.inj, hs.base, hs.below, hs.top, ?_⟩
    · show Rep (envOf C γ s w) (pargs.getD t (.raw undef)) _
      rcases Nat.lt_or_ge t vargs.length with hlt | hge
      · have hlt' : t < pargs.length := by omega
        have e1 : pargs.getD t (.raw undef) = pargs[t] := by simp [hlt']
        have e2 : (vargs.toArray ++ Array.replicate (fn.ntmps - vargs.toArray.size) undef).getD t undef = vargs[t] := by
          rw [Array.getD_eq_getD_getElem?, Array.getElem?_append_left (by simpa using hlt)]
          simp [hlt]
        rw [e1, e2]
        exact hargs t pargs[t] vargs[t] (List.getElem?_eq_getElem hlt') (List.getElem?_eq_getElem hlt)
      · have e1 : pargs.getD t (.raw undef) = .raw undef := by simp [List.getElem?_eq_none (by omega : pargs.length ≤ t)]
        have e2 : (vargs.toArray ++ Array.replicate (fn.ntmps - vargs.toArray.size) undef).getD t undef = undef := by
          rw [Array.getD_eq_getD_getElem?, Array.getElem?_append_right (by simpa using hge)]
          rcases Nat.lt_or_ge (t - vargs.toArray.size) (fn.ntmps - vargs.toArray.size) with h1 | h1
          · rw [Array.getElem?_replicate, if_pos h1]; rfl
          · rw [Array.getElem?_eq_none (by simpa using h1)]; rfl
        rw [e1, e2]
        exact .d (.raw _)
    · rintro c v (hk | ⟨t, rfl, rfl⟩)
      · exact hs.kept c v hk
      · exact hs.regs t
  refine calls_of_wp hf hb (wp_mono (PWP.sound hG' body _ _ _ w hc hsim h) ?_)
  have fin : ∀ {s' : St} {a' : Act} {w' : World}, SimE C' s' a' w' → (∃ l Cd, rvs L s' fn.results.toList = some (l, Cd) ∧ Cd ∧ K (({ reg := s.reg, own := s'.own } : St).put o.dst (tupled l))) →
      a'.defers = [] ∧ ∃ v, (results fn a'.tmps).run P w' = .ok v w' ∧ ∃ s'', SimE C s'' (a.put o.dst v) w' ∧ K s'' := by
    rintro s' a' w' ⟨γ', hs'⟩ ⟨l, Cd, h1, h2, h3⟩
    obtain ⟨vs, g1, g2, g3⟩ := rvs_spec (P := P) hL hs' fn.results.toList l Cd h1 h2
    refine ⟨hs'.defers, ?_⟩
    have hrun : (results fn a'.tmps).run P w' = .ok (if h : vs.toArray.size = 1 then vs.toArray[0] else .tuple vs.toArray) w' := by
      unfold results
      rw [← Array.toArray_toList (xs := fn.results), List.mapM_toArray]
      simp only [Sem.run_bind, Sem.run_map, Sem.run_pure]
      exact congrArg (fun q : Result (List Value) => (q.andThen fun a w' => Result.ok a.toArray w').andThen fun a w' => Result.ok (if h : a.size = 1 then a[0] else .tuple a) w') g1
    have hrep : Rep (envOf C' γ' s' w') (tupled l) (if h : vs.toArray.size = 1 then vs.toArray[0] else .tuple vs.toArray) := by
      match l, vs, g2, g3 with
      | [], [], _, _ => exact .tup [] [] rfl fun i c v e => by simp at e
      | [c], [v], _, g3 => exact g3 0 c v rfl rfl
      | c1 :: c2 :: l, v1 :: v2 :: vs, hlen, g3 =>
        rw [dif_neg (by simp)]
        exact .tup _ _ hlen g3
    refine ⟨_, hrun, _, ⟨γ', ?_⟩, h3⟩
    have hback : Sim C γ' { reg := s.reg, own := s'.own } a w' :=
      ⟨hs.defers, hs.size, fun r => hs'.kept _ _ (.inr ⟨r, rfl, rfl⟩), hs'.sites, hs'.inj, hs'.base, hs'.below, hs'.top, fun c v hk => hs'.kept c v (.inl hk)⟩
    exact hback.put hN hrep
  rintro e a' w' ⟨s', hs', hq⟩
  cases e
  case normal => exact fin hs' hq
  case ret => exact fin hs' hq
  all_goals exact hq.elim

end
end Go.Pv

/- Steps, as lemmas to be applied one by one. -/
namespace Go.Pv
open Go.RowKit
variable [Globs]

section
variable {P : Program} {L : Lay} {Q : Exit → St → Prop} {K : St → Prop} {s : St} {ops : Array Oper} {rest : List Oper} {o : Oper}

theorem POp.mono' {K' : St → Prop} (hk : ∀ s, K s → K' s) (h : POp P L s o K) : POp P L s o K' := by
  rcases h with ⟨pv, h1, h2⟩ | ⟨s', h1, h2⟩ | h1
  · exact .inl ⟨pv, h1, hk _ h2⟩
  · exact .inr (.inl ⟨s', h1, hk _ h2⟩)
  · exact .inr (.inr (h1.mono hk))
theorem pw_seq {x y : Code} (h : PWP P L x (XThen (fun s' => PWP P L y Q s') Q) s) : PWP P L (.seq x y) Q s := h
theorem pw_skip (h : Q .normal s) : PWP P L .skip Q s := Gh.of h
theorem pw_block {id : Nat} {c : Code} (h : PWP P L c (XBlock id Q) s) : PWP P L (.block id c) Q s := h
theorem pw_ret (h : Q .ret s) : PWP P L .ret Q s := Gh.of h
theorem pw_exit {id : Nat} (h : Q (.exit id) s) : PWP P L (.exit id) Q s := Gh.of h
theorem pw_region {id : Nat} {l : List Oper} (h : POps P L l.toArray (Q .normal) l s) : PWP P L (.region id l.toArray false) Q s := Gh.of (Or.inl h)
/-- A region with operations that are told by what the machine does. -/
theorem psem_app {K : St → Prop} : ∀ (l1 l2 : List Oper) (s : St), POps P L ops (fun s' => PSem P L ops K l2 s') l1 s → PSem P L ops K (l1 ++ l2) s
  | [], _, _, h => h
  | _ :: l1, l2, _, h => h.imp (fun x => ⟨x.1, .inl (x.2.mono' fun s' h' => psem_app l1 l2 s' h')⟩) (fun x => ⟨x.1, psem_app l1 l2 _ x.2⟩)
theorem pw_regionS {id : Nat} {l : List Oper} (n : Nat) (h : POps P L l.toArray (fun s' => PSem P L l.toArray (Q .normal) (l.drop n) s') (l.take n) s) : PWP P L (.region id l.toArray false) Q s := by
  have := psem_app (K := Q .normal) (l.take n) (l.drop n) s h
  rw [List.take_append_drop] at this
  exact Gh.of (Or.inr this)
theorem psem_sm (hg : o.guard = none) (h : Sm P L s o (PSem P L ops K rest)) : PSem P L ops K (o :: rest) s := .inl ⟨.none hg, .inr h⟩
theorem psem_ops (h : POps P L ops K rest s) : PSem P L ops K rest s := by
  have := psem_app (P := P) (L := L) (ops := ops) (K := K) rest [] s h
  rwa [List.append_nil] at this
theorem pw_draw {id : Nat} {l : List Oper} (n : Nat) (ds : List Nat) (hok : drawOk l.toArray n ds = true) (h : PQuiet P L l.toArray (fun s' => POps P L l.toArray (Q .normal) (l.drop n) s') (l.take n) s) : PWP P L (.region id l.toArray true) Q s :=
  Gh.of (Or.inl ⟨n, ds, hok, h⟩)
/-- 'ch': what stands in one order; 'Z': the sites that it writes. -/
theorem pw_draw3 {id : Nat} {l : List Oper} (Z ch : List Nat) (hok : drawOk3 l.toArray ch = true) (h : P3 P L l.toArray Z (zin ch) (Q .normal) 0 l s) : PWP P L (.region id l.toArray true) Q s :=
  Gh.of (Or.inr (Or.inr ⟨Z, ch, hok, h⟩))
/-- With 'm' variables behind the first 'n' operations, and moves 'F' that may come late. -/
theorem pw_draw2 {id : Nat} {l : List Oper} (n m : Nat) (ds F : List Nat) (hok : drawOk2 l.toArray n m ds F = true) (hnone : (ds.drop n).all (fun d => (s.own d).2.isNone) = true) (h : PQuiet P L l.toArray (fun s' => FD l.toArray (n + m) F s' = true ∧ POps P L l.toArray (Q .normal) (l.drop n) s') (l.take n) s) : PWP P L (.region id l.toArray true) Q s :=
  Gh.of (Or.inr (Or.inl ⟨n, m, ds, F, hok, fun d hd => by simpa using List.all_eq_true.1 hnone d hd, h⟩))
theorem pw_cond {c : Operand} {x y : Code} {b : Bool} (hc : s.ev c = .bool b) (h1 : b = true → PWP P L x Q s) (h2 : b = false → PWP P L y Q s) : PWP P L (.cond c x y) Q s := Gh.of ⟨b, hc, h1, h2⟩
theorem pw_true {c : Operand} {x y : Code} (hc : s.ev c = .bool true) (h1 : PWP P L x Q s) : PWP P L (.cond c x y) Q s := Gh.of ⟨true, hc, fun _ => h1, fun h => by cases h⟩
theorem pw_false {c : Operand} {x y : Code} (hc : s.ev c = .bool false) (h1 : PWP P L y Q s) : PWP P L (.cond c x y) Q s := Gh.of ⟨false, hc, (fun h => by cases h), fun _ => h1⟩

theorem x_norm {next : St → Prop} (h : next s) : XThen next Q .normal s := h
theorem x_ret {next : St → Prop} (h : Q .ret s) : XThen next Q .ret s := h
theorem x_exit {next : St → Prop} {id : Nat} (h : Q (.exit id) s) : XThen next Q (.exit id) s := h
theorem xb_norm {id : Nat} (h : Q .normal s) : XBlock id Q .normal s := h
theorem xb_ret {id : Nat} (h : Q .ret s) : XBlock id Q .ret s := h
theorem xb_here {id : Nat} (h : Q .normal s) : XBlock id Q (.exit id) s := by show if id = id then _ else _; rw [if_pos rfl]; exact h
theorem xb_away {id id' : Nat} (hne : Nat.beq id' id = false) (h : Q (.exit id') s) : XBlock id Q (.exit id') s := by
  show if id' = id then _ else _
  rw [if_neg (fun e => by subst e; simp at hne)]; exact h

variable {d e j : Nat} {op : Op} {ty : TypeId} {pos : String} {af : Array Edge} {want : Bool}

theorem put_some (s : St) (d : Nat) (v : PV) : s.put (some d) v = s.putR d v := rfl

/-! Operations, with what comes of each; 'ps': in the order of the text; 'pq': ahead of the tail of a drawn order. -/
theorem ps_nil (h : K s) : POps P L ops K [] s := h
theorem ps_run (h : POp P L s ⟨some d, op, ty, pos, af, none⟩ (POps P L ops K rest)) : POps P L ops K (⟨some d, op, ty, pos, af, none⟩ :: rest) s := .inl ⟨.none rfl, h⟩
theorem ps_run0 (h : POp P L s ⟨none, op, ty, pos, af, none⟩ (POps P L ops K rest)) : POps P L ops K (⟨none, op, ty, pos, af, none⟩ :: rest) s := .inl ⟨.none rfl, h⟩
theorem ps_yes (hd : (ops[j]?).bind (·.dst) = some e) (hr : s.reg e = .bool want) (h : POp P L s ⟨some d, op, ty, pos, af, some (j, want)⟩ (POps P L ops K rest)) : POps P L ops K (⟨some d, op, ty, pos, af, some (j, want)⟩ :: rest) s := .inl ⟨.yes rfl hd hr, h⟩
theorem ps_not (hd : (ops[j]?).bind (·.dst) = some e) (hr : s.reg e = .bool (!want)) (h : POps P L ops K rest (s.putR d (.raw undef))) : POps P L ops K (⟨some d, op, ty, pos, af, some (j, want)⟩ :: rest) s :=
  .inr ⟨.no rfl hd hr (by cases want <;> simp), h⟩
theorem ps_junk (hd : (ops[j]?).bind (·.dst) = some e) (hr : s.reg e = .raw undef) (h : POps P L ops K rest (s.putR d (.raw undef))) : POps P L ops K (⟨some d, op, ty, pos, af, some (j, want)⟩ :: rest) s := .inr ⟨.junk rfl hd hr, h⟩
/-- A guard that is not decided yet: its register is known to be a boolean; it is decided here. -/
theorem ps_if {b : Bool} (hd : (ops[j]?).bind (·.dst) = some e) (hr : s.reg e = .bool b) (h1 : b = want → POp P L s ⟨some d, op, ty, pos, af, some (j, want)⟩ (POps P L ops K rest)) (h2 : b = (!want) → POps P L ops K rest (s.putR d (.raw undef))) : POps P L ops K (⟨some d, op, ty, pos, af, some (j, want)⟩ :: rest) s := by
  by_cases hb : b = want
  · subst hb; exact .inl ⟨.yes rfl hd hr, h1 rfl⟩
  · exact .inr ⟨.no rfl hd hr hb, h2 (by cases b <;> cases want <;> simp_all)⟩

theorem pq_nil (h : K s) : PQuiet P L ops K [] s := h
theorem pq_end {nm : Nat} {F : List Nat} {l' : List Oper} {K' : St → Prop} (hf : FD ops nm F s = true) (h : POps P L ops K' l' s) : PQuiet P L ops (fun s' => FD ops nm F s' = true ∧ POps P L ops K' l' s') [] s := ⟨hf, h⟩

theorem ps_v {pv : PV} {Cd : Prop} (hq : qv L s op = some (pv, Cd)) (hc : Cd) (h : POps P L ops K rest (s.putR d pv)) : POps P L ops K (⟨some d, op, ty, pos, af, none⟩ :: rest) s := ps_run (.inl ⟨pv, .v hq hc, h⟩)
theorem op_v {pv : PV} {Cd : Prop} {g : Option (Nat × Bool)} (hq : qv L s op = some (pv, Cd)) (hc : Cd) (h : K (s.putR d pv)) : POp P L s ⟨some d, op, ty, pos, af, g⟩ K := .inl ⟨pv, .v hq hc, h⟩

/-- A quiet operation among others: either kind of list. -/
theorem op_q {pv : PV} {g : Option (Nat × Bool)} (hq : QOp P L s ⟨some d, op, ty, pos, af, g⟩ pv) (h : K (s.putR d pv)) : POp P L s ⟨some d, op, ty, pos, af, g⟩ K := .inl ⟨pv, hq, h⟩
theorem ps_q {pv : PV} (hq : QOp P L s ⟨some d, op, ty, pos, af, none⟩ pv) (h : POps P L ops K rest (s.putR d pv)) : POps P L ops K (⟨some d, op, ty, pos, af, none⟩ :: rest) s := ps_run (.inl ⟨pv, hq, h⟩)
theorem pq_q {pv : PV} (hq : QOp P L s ⟨some d, op, ty, pos, af, none⟩ pv) (h : PQuiet P L ops K rest (s.putR d pv)) : PQuiet P L ops K (⟨some d, op, ty, pos, af, none⟩ :: rest) s := .inl ⟨.none rfl, pv, hq, h⟩
theorem pq_v {pv : PV} {Cd : Prop} (hq : qv L s op = some (pv, Cd)) (hc : Cd) (h : PQuiet P L ops K rest (s.putR d pv)) : PQuiet P L ops K (⟨some d, op, ty, pos, af, none⟩ :: rest) s := pq_q (.v hq hc) h
theorem pq_yes {pv : PV} (hd : (ops[j]?).bind (·.dst) = some e) (hr : s.reg e = .bool want) (hq : QOp P L s ⟨some d, op, ty, pos, af, some (j, want)⟩ pv) (h : PQuiet P L ops K rest (s.putR d pv)) : PQuiet P L ops K (⟨some d, op, ty, pos, af, some (j, want)⟩ :: rest) s :=
  .inl ⟨.yes rfl hd hr, pv, hq, h⟩
theorem pq_yesv {pv : PV} {Cd : Prop} (hd : (ops[j]?).bind (·.dst) = some e) (hr : s.reg e = .bool want) (hq : qv L s op = some (pv, Cd)) (hc : Cd) (h : PQuiet P L ops K rest (s.putR d pv)) : PQuiet P L ops K (⟨some d, op, ty, pos, af, some (j, want)⟩ :: rest) s :=
  pq_yes hd hr (.v hq hc) h
theorem pq_not (hd : (ops[j]?).bind (·.dst) = some e) (hr : s.reg e = .bool (!want)) (h : PQuiet P L ops K rest (s.putR d (.raw undef))) : PQuiet P L ops K (⟨some d, op, ty, pos, af, some (j, want)⟩ :: rest) s :=
  .inr ⟨.no rfl hd hr (by cases want <;> simp), h⟩
theorem pq_if {b : Bool} (hd : (ops[j]?).bind (·.dst) = some e) (hr : s.reg e = .bool b) (h1 : b = want → ∃ pv, QOp P L s ⟨some d, op, ty, pos, af, some (j, want)⟩ pv ∧ PQuiet P L ops K rest (s.putR d pv)) (h2 : b = (!want) → PQuiet P L ops K rest (s.putR d (.raw undef))) :
    PQuiet P L ops K (⟨some d, op, ty, pos, af, some (j, want)⟩ :: rest) s := by
  by_cases hb : b = want
  · subst hb; obtain ⟨pv, hq, h⟩ := h1 rfl; exact .inl ⟨.yes rfl hd hr, pv, hq, h⟩
  · exact .inr ⟨.no rfl hd hr hb, h2 (by cases b <;> cases want <;> simp_all)⟩
theorem pq_ifv {b : Bool} {pv : PV} {Cd : Prop} (hd : (ops[j]?).bind (·.dst) = some e) (hr : s.reg e = .bool b) (hq : qv L s op = some (pv, Cd)) (hc : Cd) (h1 : b = want → PQuiet P L ops K rest (s.putR d pv)) (h2 : b = (!want) → PQuiet P L ops K rest (s.putR d (.raw undef))) :
    PQuiet P L ops K (⟨some d, op, ty, pos, af, some (j, want)⟩ :: rest) s := pq_if hd hr (fun h => ⟨pv, .v hq hc, h1 h⟩) h2
theorem ps_ifv {b : Bool} {pv : PV} {Cd : Prop} (hd : (ops[j]?).bind (·.dst) = some e) (hr : s.reg e = .bool b) (hq : qv L s op = some (pv, Cd)) (hc : Cd) (h1 : b = want → POps P L ops K rest (s.putR d pv)) (h2 : b = (!want) → POps P L ops K rest (s.putR d (.raw undef))) :
    POps P L ops K (⟨some d, op, ty, pos, af, some (j, want)⟩ :: rest) s := ps_if hd hr (fun h => .inl ⟨pv, .v hq hc, h1 h⟩) h2
theorem pq_junk (hd : (ops[j]?).bind (·.dst) = some e) (hr : s.reg e = .raw undef) (h : PQuiet P L ops K rest (s.putR d (.raw undef))) : PQuiet P L ops K (⟨some d, op, ty, pos, af, some (j, want)⟩ :: rest) s := .inr ⟨.junk rfl hd hr, h⟩

/-! What single operations come to -/
section ops
variable {g : Option (Nat × Bool)} {T : TypeId} {x y : Operand} {r re : LRow} {E : TypeId}

theorem q_idx {ix : Operand} {rows : List (List PV)} {row : List PV} {k : IntKind} {n : Int} (hr : L T = some r) (hs : r.sh = .sl E) (hre : L E = some re) (hx : s.ev x = .sl rows) (hix : s.ev ix = .int k n) (h0 : 0 ≤ n) (hrow : rows[n.toNat]? = some row)
    (hlen : row.length = re.size) : QOp P L s ⟨some d, .indexAddr T x ix, ty, pos, af, g⟩ (.dref row 0) := .idx rfl hr hs hre (.inl hx) hix h0 hrow hlen
theorem q_idxF {ix : Operand} {rows : List (List PV)} {row : List PV} {k : IntKind} {n : Int} (hr : L T = some r) (hs : r.sh = .sl E) (hre : L E = some re) (hx : s.ev x = .fsl rows) (hix : s.ev ix = .int k n) (h0 : 0 ≤ n) (hrow : rows[n.toNat]? = some row)
    (hlen : row.length = re.size) : QOp P L s ⟨some d, .indexAddr T x ix, ty, pos, af, g⟩ (.dref row 0) := .idx rfl hr hs hre (.inr hx) hix h0 hrow hlen
/-- Into the image of a list. -/
theorem q_idxm {α : Type} {enc : α → List PV} {l : List α} {a : α} {ix : Operand} {k : IntKind} {n : Int} (hr : L T = some r) (hs : r.sh = .sl E) (hre : L E = some re) (hx : s.ev x = .sl (l.map enc)) (hix : s.ev ix = .int k n) (h0 : 0 ≤ n) (hget : l[n.toNat]? = some a)
    (hlen : (enc a).length = re.size) : QOp P L s ⟨some d, .indexAddr T x ix, ty, pos, af, g⟩ (.dref (enc a) 0) := q_idx hr hs hre hx hix h0 (by rw [List.getElem?_map, hget]; rfl) hlen
theorem q_idxmF {α : Type} {enc : α → List PV} {l : List α} {a : α} {ix : Operand} {k : IntKind} {n : Int} (hr : L T = some r) (hs : r.sh = .sl E) (hre : L E = some re) (hx : s.ev x = .fsl (l.map enc)) (hix : s.ev ix = .int k n) (h0 : 0 ≤ n) (hget : l[n.toNat]? = some a)
    (hlen : (enc a).length = re.size) : QOp P L s ⟨some d, .indexAddr T x ix, ty, pos, af, g⟩ (.dref (enc a) 0) := q_idxF hr hs hre hx hix h0 (by rw [List.getElem?_map, hget]; rfl) hlen
theorem q_idxA {ix : Operand} {k : IntKind} {n : Int} {st gn i m : Nat} {c : Cont} (hr : L T = some r) (hs : r.sh = .sl E) (hre : L E = some re) (hx : s.ev x = .als st gn i m) (hown : s.own st = (gn, some c)) (hsz : c.sz = re.size) (hix : s.ev ix = .int k n) (h0 : 0 ≤ n) (hlt : n < m) :
    QOp P L s ⟨some d, .indexAddr T x ix, ty, pos, af, g⟩ (.ptr st gn (i + n.toNat) 0) := .idxA rfl hr hs hre hx hown hsz hix h0 hlt
theorem q_seq {x y : Operand} {T' : TypeId} {ks : List Sh} {us vs : List PV} {r neg : Bool} (hT : eqT P T ks = true) (hx : s.ev x = .agg us) (hy : s.ev y = .agg vs) (hl : leqs ks us vs = some r) :
    QOp P L s ⟨some d, .binOp (bif neg then .neq else .eql) T x y T', ty, pos, af, g⟩ (.bool (bif neg then !r else r)) := .seq rfl hT hx hy hl
theorem q_seqN {x y : Operand} {T' : TypeId} {ks : List Sh} {us vs : List PV} {r : Bool} (hT : eqT P T ks = true) (hx : s.ev x = .agg us) (hy : s.ev y = .agg vs) (hl : leqs ks us vs = some r) :
    QOp P L s ⟨some d, .binOp .neq T x y T', ty, pos, af, g⟩ (.bool (!r)) := .seq (neg := true) rfl hT hx hy hl
theorem q_seqE {x y : Operand} {T' : TypeId} {ks : List Sh} {us vs : List PV} {r : Bool} (hT : eqT P T ks = true) (hx : s.ev x = .agg us) (hy : s.ev y = .agg vs) (hl : leqs ks us vs = some r) :
    QOp P L s ⟨some d, .binOp .eql T x y T', ty, pos, af, g⟩ (.bool r) := .seq (neg := false) rfl hT hx hy hl
theorem q_ldp {st gn i jj : Nat} {c : Cont} {row : List PV} {pv : PV} (hr : L T = some r) (hx : s.ev x = .ptr st gn i jj) (hown : s.own st = (gn, some c)) (hrow : c.rows[i]? = some row) (hp : part r row jj = some pv) :
    QOp P L s ⟨some d, .load T x, ty, pos, af, g⟩ pv := .ldp rfl hr hx hown hrow hp
theorem q_call {fop : Operand} {args : Array Operand} {tys : Array TypeId} {f : FuncId} {caps pargs : List PV} {Cd : Prop} {b : Fl} {rr : PV} (hf : s.ev fop = .clo f caps) (hret : Ret P .shared f pargs rr) (hres : resL (res s 4) (args.toList.map s.ev ++ caps) = some (pargs, Cd, b)) (hc : Cd) (hb : b.cl = true) :
    QOp P L s ⟨some d, .call ⟨.value fop, args, tys⟩, ty, pos, af, g⟩ rr := .call rfl hf hres hc hb hret
theorem q_callF {fop : Operand} {args : Array Operand} {tys : Array TypeId} {f : FuncId} {caps pargs : List PV} {Cd : Prop} {b : Fl} {rr rf : PV} (hf : s.ev fop = .clo f caps) (hret : Ret P .fresh f pargs rr) (hres : resL (res s 4) (args.toList.map s.ev ++ caps) = some (pargs, Cd, b)) (hc : Cd) (hrf : rr.frs.fz = some rf) :
    QOp P L s ⟨some d, .call ⟨.value fop, args, tys⟩, ty, pos, af, g⟩ rf := by
  rw [PV.fz_eq] at hrf
  have := QOp.callF (P := P) (L := L) (o := ⟨some d, .call ⟨.value fop, args, tys⟩, ty, pos, af, g⟩) rfl hf hres hc hret
  rwa [Option.some.inj hrf] at this
/-- A callee whose result holds no memory: whatever the arguments. -/
theorem q_callP {fop : Operand} {args : Array Operand} {tys : Array TypeId} {f : FuncId} {caps pargs : List PV} {Cd : Prop} {b : Fl} {rr rf : PV} (hf : s.ev fop = .clo f caps) (hret : Ret P .shared f pargs rr) (hres : resL (res s 4) (args.toList.map s.ev ++ caps) = some (pargs, Cd, b)) (hc : Cd) (hfl : rr.flat = true) (hrf : rr.frs.fz = some rf) :
    QOp P L s ⟨some d, .call ⟨.value fop, args, tys⟩, ty, pos, af, g⟩ rf := q_callF hf (hret.fresh_of_flat hfl) hres hc hrf

theorem o_box {v : PV} {gn : Nat} {oc : Option Cont} {Pr : Prop} (hx : (s.ev x).fz = some v) (hown : s.own d = (gn, oc)) (h1 : oneL s v.cells = some Pr) (h2 : Pr) (h0 : Nat.blt 0 v.cells.length = true)
    (h : K ((s.setOwn d (gn + 1) (some ⟨T, v.cells.length, [v.cells], 2⟩)).putR d (.ptr d (gn + 1) 0 0))) : POp P L s ⟨some d, .box T x, ty, pos, af, g⟩ K := by
  rw [PV.fz_eq] at hx
  have hx' := Option.some.inj hx
  refine .inr (.inl ⟨_, .box rfl rfl (by rw [hx']; exact h1) h2 (by rw [hx']; simpa using h0), ?_⟩)
  rw [hx', St.fin, hown]; exact h
theorem o_alloc {z : List PV} {gn : Nat} {oc : Option Cont} (hr : L T = some r) (hz : r.zero = some z) (hown : s.own d = (gn, oc)) (h0 : Nat.blt 0 z.length = true)
    (h : K ((s.setOwn d (gn + 1) (some ⟨T, z.length, [z], 2⟩)).putR d (.ptr d (gn + 1) 0 0))) : POp P L s ⟨some d, .alloc T, ty, pos, af, g⟩ K := by
  refine .inr (.inl ⟨_, .alloc rfl rfl hr hz (by simpa using h0), ?_⟩)
  rw [St.fin, hown]; exact h
/-- A store into a site of one row whose cells stand written out (a variable). -/
theorem o_store1 {v : PV} {k gn jj : Nat} {tc : TypeId} {sz : Nat} {row new : List PV} {Pr : Prop} (hr : L T = some r) (hx : s.ev x = .ptr k gn 0 jj) (hown : s.own k = (gn, some ⟨tc, sz, [row], 2⟩)) (hv : (s.ev y).fz = some v) (h1 : oneL s v.cells = some Pr) (h2 : Pr)
    (hsz : v.cells.length = r.size) (hle : Nat.ble (jj + r.size) row.length = true) (hnew : splc row jj v.cells = new) (h : K (s.setOwn k gn (some ⟨tc, sz, [new], 2⟩))) : POp P L s ⟨none, .store T x y, ty, pos, af, g⟩ K := by
  rw [PV.fz_eq] at hv
  have hv' := Option.some.inj hv
  refine .inr (.inl ⟨_, .store 2 rfl rfl hr hx hown (by rfl) (by rw [hv']; exact h1) h2 (by rw [hv']; exact hsz) (by simpa using hle) (Nat.le_refl _) (by rw [List.all_eq_true]; intro c _; cases c <;> rfl), ?_⟩)
  have hm : ∀ l : List PV, l.map (nrm 2) = l := by intro l; induction l with | nil => rfl | cons c l ih => rw [List.map_cons, ih]; cases c <;> rfl
  rw [hv', hm]
  have : ([row] : List (List PV)).set 0 (splc row jj v.cells) = [new] := by rw [hnew]; rfl
  rw [this]; exact h
/-- A store into a row of a site of data. -/
theorem o_store {v : PV} {k gn i jj kd kd' : Nat} {tc : TypeId} {sz : Nat} {rows : List (List PV)} {row : List PV} {Pr : Prop} (hr : L T = some r) (hx : s.ev x = .ptr k gn i jj) (hown : s.own k = (gn, some ⟨tc, sz, rows, kd⟩)) (hrow : rows[i]? = some row) (hv : (s.ev y).fz = some v) (h1 : oneL s v.cells = some Pr) (h2 : Pr)
    (hsz : v.cells.length = r.size) (hle : Nat.ble (jj + r.size) row.length = true) (hk : Nat.ble kd kd' = true) (hkd : v.cells.all (kOk kd') = true) (h : K (s.setOwn k gn (some ⟨tc, sz, rows.set i (splc row jj (v.cells.map (nrm kd'))), kd'⟩))) : POp P L s ⟨none, .store T x y, ty, pos, af, g⟩ K := by
  rw [PV.fz_eq] at hv
  have hv' := Option.some.inj hv
  refine .inr (.inl ⟨_, .store kd' rfl rfl hr hx hown hrow (by rw [hv']; exact h1) h2 (by rw [hv']; exact hsz) (by simpa using hle) (by simpa using hk) (by rw [hv']; exact hkd), ?_⟩)
  rw [hv']; exact h
theorem o_appN {gn k2 : Nat} {oc : Option Cont} {rows2 : List (List PV)} {Cd2 : Prop} (hr : L T = some r) (hs : r.sh = .sl E) (hre : L E = some re) (hz : re.zero.isSome = true) (hsz : Nat.blt 0 re.size = true) (hx : s.ev x = .nil) (hq : srcOf s (s.ev y) = some (rows2, k2, Cd2)) (hown : s.own d = (gn, oc))
    (hc2 : Cd2) (hlen : ∀ row ∈ rows2, row.length = re.size) (hb : rows2.length * re.bytes ≤ 140737488355328) (h63 : rows2.length ≤ 9223372036854775807) (h : K ((s.setOwn d (gn + 1) (some ⟨E, re.size, rows2, k2⟩)).putR d (.als d (gn + 1) 0 rows2.length))) :
    POp P L s ⟨some d, .call ⟨.builtin .append, #[x, y], #[T, T]⟩, ty, pos, af, g⟩ K := by
  refine .inr (.inl ⟨_, .appN rfl rfl hr hs hre hz (by simpa using hsz) hx hq hc2 hlen hb h63, ?_⟩)
  rw [St.fin, hown]; exact h
theorem o_app {k gn m k1 k2 : Nat} {tc : TypeId} {sz : Nat} {rows1 rows2 : List (List PV)} {Cd2 : Prop} (kd : Nat) (hr : L T = some r) (hs : r.sh = .sl E) (hre : L E = some re) (hz : re.zero.isSome = true) (hsz : Nat.blt 0 re.size = true) (hx : s.ev x = .als k gn 0 m) (hown : s.own k = (gn, some ⟨tc, sz, rows1, k1⟩))
    (hcs : sz = re.size) (hct : tc = E) (hq : srcOf s (s.ev y) = some (rows2, k2, Cd2)) (hm : m = rows1.length) (hc2 : Cd2) (hlen : ∀ row ∈ rows2, row.length = re.size) (hk1 : Nat.ble k1 kd = true) (hk2 : Nat.ble k2 kd = true) (hb : (rows1.length + rows2.length) * re.bytes ≤ 140737488355328) (h63 : rows1.length + rows2.length ≤ 9223372036854775807)
    (h : K ((s.setOwn k (gn + 1) (some ⟨E, re.size, rows1 ++ rows2, kd⟩)).putR d (.als k (gn + 1) 0 (rows1 ++ rows2).length))) :
    POp P L s ⟨some d, .call ⟨.builtin .append, #[x, y], #[T, T]⟩, ty, pos, af, g⟩ K := by
  refine .inr (.inl ⟨_, .app kd rfl rfl hr hs hre hz (by simpa using hsz) hx hown hm hcs hct hq hc2 hlen (by simpa using hk1) (by simpa using hk2) hb h63, ?_⟩)
  rw [St.fin, hown]; exact h
theorem o_make {l c : Operand} {kl kc : IntKind} {n : Int} {z : List PV} {gn : Nat} {oc : Option Cont} (hr : L T = some r) (hs : r.sh = .sl E) (hre : L E = some re) (hz : re.zero = some z) (hsz : Nat.blt 0 re.size = true) (hl : s.ev l = .int kl n) (hc : s.ev c = .int kc n) (hown : s.own d = (gn, oc))
    (h0 : 0 ≤ n) (hb : (re.bytes : Int) * n ≤ 140737488355328) (h63 : n ≤ 9223372036854775807) (h : K ((s.setOwn d (gn + 1) (some ⟨E, re.size, List.replicate n.toNat z, 0⟩)).putR d (.als d (gn + 1) 0 (List.replicate n.toNat z).length))) :
    POp P L s ⟨some d, .makeSlice T l c, ty, pos, af, g⟩ K := by
  refine .inr (.inl ⟨_, .make rfl rfl hr hs hre hz (by simpa using hsz) hl hc h0 hb h63, ?_⟩)
  rw [St.fin, hown]; exact h
/-- The rows of a slice literal. -/
def litRows (s : St) (kd : Nat) : List (Nat × Operand) → Option (List (List PV))
  | [] => some []
  | p :: ps => match (s.ev p.2).fz with
    | some v => (match litRows s kd ps with | some rs => some (v.cells.map (nrm kd) :: rs) | none => none)
    | none => none
theorem litRows_eq (kd : Nat) : ∀ (ps : List (Nat × Operand)) (rows : List (List PV)), litRows s kd ps = some rows → rows = ps.map fun p => (s.ev p.2).cells.map (nrm kd)
  | [], rows, h => by simp [litRows] at h; exact h
  | p :: ps, rows, h => by
    simp only [litRows, PV.fz_eq] at h
    split at h
    · rename_i rs hrs
      have := litRows_eq kd ps rs hrs
      have h' := Option.some.inj h
      rw [← h', this]; rfl
    · cases h
def nats : Nat → Nat → List Nat
  | _, 0 => []
  | k, n + 1 => k :: nats (k + 1) n
theorem nats_range : ∀ (n k : Nat), nats k n = (List.range n).map (k + ·)
  | 0, k => rfl
  | n + 1, k => by
    rw [nats, nats_range n (k + 1), List.range_succ_eq_map]
    simp only [List.map_cons, List.map_map, Nat.add_zero]
    congr 1
    apply List.map_congr_left
    intro i _
    simp; omega
theorem o_slit {n gn : Nat} {ps : List (Nat × Operand)} {oc : Option Cont} {rows : List (List PV)} {Pr : Prop} (kd : Nat) (hr : L T = some r) (hs : r.sh = .sl E) (hre : L E = some re) (hz : re.zero.isSome = true) (hsz : Nat.blt 0 re.size = true) (hown : s.own d = (gn, oc)) (hrows : litRows s kd ps = some rows)
    (hn : ps.map (·.1) = nats 0 n) (hN : Nat.ble (n * re.size) 16777216 = true) (hcells : ps.all (fun p => Nat.beq (s.ev p.2).cells.length re.size) = true) (h1 : oneL s (ps.flatMap fun p => (s.ev p.2).cells) = some Pr) (h2 : Pr) (hkd : (ps.flatMap fun p => (s.ev p.2).cells).all (kOk kd) = true)
    (h : K ((s.setOwn d (gn + 1) (some ⟨E, re.size, rows, kd⟩)).putR d (.als d (gn + 1) 0 rows.length))) : POp P L s ⟨some d, .buildSlice T n ps.toArray, ty, pos, af, g⟩ K := by
  refine .inr (.inl ⟨_, .slit kd rfl rfl hr hs hre hz (by simpa using hsz) (by rw [nats_range] at hn; simpa using hn) (by simpa using hN) (fun p hp => ?_) h1 h2 hkd, ?_⟩)
  · have := List.all_eq_true.1 hcells p hp
    simpa using this
  · rw [St.fin, hown]
    rw [litRows_eq kd ps rows hrows] at h
    exact h
/-! Maps -/
theorem o_mkmap {gn : Nat} {oc : Option Cont} (hown : s.own d = (gn, oc)) (h : K ((s.setOwn d (gn + 1) (some ⟨T, 0, [], 0⟩)).putR d (.mp d (gn + 1)))) : POp P L s ⟨some d, .makeMap T none, ty, pos, af, g⟩ K := by
  refine .inr (.inl ⟨_, .makeMap rfl rfl, ?_⟩)
  rw [St.fin, hown]; exact h
theorem o_ment {V : TypeId} {rv : LRow} {k gn kd : Nat} {rows : List (List PV)} {T' : TypeId} {key z : PV} (hr : L T = some r) (hs : r.sh = .map E V) (hre : L E = some re) (hrv : L V = some rv) (hz : rv.zero = some [z]) (hz1 : zone P V = true) (hx : s.ev x = .mp k gn) (hown : s.own k = (gn, some ⟨T', 0, rows, kd⟩)) (hkd : Nat.beq kd 0 = true)
    (hy : (s.ev y).fz = some key) (hky : re.sh.key key = true) (hkeys : keyed re.sh rows = true)
    (h1 : ∀ i row v, mix key rows = some i → rows[i]? = some row → row[1]? = some v → K (s.putR d (.tup [v, .int .i64 i])))
    (h0 : mix key rows = none → K ((s.setOwn k gn (some ⟨T', 0, rows ++ [[key, z]], kd⟩)).putR d (.tup [z, .int .i64 rows.length])))
    (htwo : ∀ row ∈ rows, row.length = 2) : POp P L s ⟨some d, .mapEntry T x y, ty, pos, af, g⟩ K := by
  rw [PV.fz_eq] at hy
  have hy := Option.some.inj hy
  cases hm : mix key rows with
  | none => exact .inr (.inl ⟨_, .mapNew rfl rfl hr hs hre hrv hz hz1 hx hown (by simpa using hkd) (by rw [hy]; exact hky) hkeys (by rw [hy]; exact hm), by rw [hy]; exact h0 hm⟩)
  | some i =>
    have hi := mix_lt hm
    have h2 := htwo rows[i] (by simp)
    have hv : rows[i][1]? = some rows[i][1] := by simp [h2]
    exact .inr (.inl ⟨_, .mapOld rfl rfl hr hs hre hx hown (by simpa using hkd) (by rw [hy]; exact hky) hkeys (by rw [hy]; exact hm) (List.getElem?_eq_getElem hi) hv, h1 i _ _ hm (List.getElem?_eq_getElem hi) hv⟩)
theorem o_est {st : Operand} {k gn i kd : Nat} {ki : IntKind} {rows : List (List PV)} {row : List PV} {T' : TypeId} {v : PV} (kd' : Nat) (hx : s.ev x = .mp k gn) (hown : s.own k = (gn, some ⟨T', 0, rows, kd⟩)) (hst : s.ev st = .int ki i) (hrow : rows[i]? = some row) (hy : (s.ev y).fz = some v) (hk0 : Nat.beq kd 0 = true := by rfl) (hk : Nat.ble kd kd' = true) (hk3 : Nat.blt kd' 3 = true) (hkd : kOk kd' v = true)
    (h : K (s.setOwn k gn (some ⟨T', 0, rows.set i (row.set 1 (nrm kd' v)), kd'⟩))) : POp P L s ⟨none, .entryStore T x st y, ty, pos, af, g⟩ K := by
  rw [PV.fz_eq] at hy
  have hy := Option.some.inj hy
  exact .inr (.inl ⟨_, .entStore kd' rfl rfl hx hown hst hrow (by simpa using hk0) (by simpa using hk) (by simpa using hk3) (by rw [hy]; exact hkd), by rw [hy]; exact h⟩)
theorem o_mset {V : TypeId} {x y v : Operand} {k gn kd : Nat} {rows : List (List PV)} {T' : TypeId} {key pv : PV} (kd' : Nat) (hr : L T = some r) (hs : r.sh = .map E V) (hre : L E = some re) (hx : s.ev x = .mp k gn) (hown : s.own k = (gn, some ⟨T', 0, rows, kd⟩)) (hk1 : Nat.ble kd kd' = true) (hk3 : Nat.blt kd' 3 = true)
    (hy : (s.ev y).fz = some key) (hky : re.sh.key key = true) (hkeys : keyed re.sh rows = true) (hv : (s.ev v).fz = some pv) (hkd : kOk kd' pv = true) (h : K (s.setOwn k gn (some ⟨T', 0, mput key (nrm kd' pv) rows, kd'⟩))) : POp P L s ⟨none, .mapUpdate T x y v, ty, pos, af, g⟩ K := by
  rw [PV.fz_eq] at hy hv
  have hy := Option.some.inj hy
  have hv := Option.some.inj hv
  exact .inr (.inl ⟨_, .mapSet kd' rfl rfl hr hs hre hx hown (by simpa using hk1) (by simpa using hk3) (by rw [hy]; exact hky) hkeys (by rw [hv]; exact hkd), by rw [hy, hv]; exact h⟩)
theorem q_look {V : TypeId} {rv : LRow} {k gn kd : Nat} {rows : List (List PV)} {T' : TypeId} {key z : PV} (hr : L T = some r) (hs : r.sh = .map E V) (hre : L E = some re) (hrv : L V = some rv) (hz : rv.zero = some [z]) (hz1 : zone P V = true) (hx : s.ev x = .mp k gn) (hown : s.own k = (gn, some ⟨T', 0, rows, kd⟩)) (hkd : Nat.blt kd 3 = true)
    (hy : (s.ev y).fz = some key) (hky : re.sh.key key = true) (hkeys : keyed re.sh rows = true) : QOp P L s ⟨some d, .lookup T x y false, ty, pos, af, g⟩ (mval z key rows) := by
  rw [PV.fz_eq] at hy
  have hy := Option.some.inj hy
  have := QOp.look (P := P) (L := L) (s := s) (o := ⟨some d, .lookup T x y false, ty, pos, af, g⟩) rfl hr hs hre hrv hz hz1 hx hown (by simpa using hkd) (by rw [hy]; exact hky) hkeys
  rw [hy] at this
  exact this
theorem q_look2 {V : TypeId} {rv : LRow} {k gn kd : Nat} {rows : List (List PV)} {T' : TypeId} {key z : PV} (hr : L T = some r) (hs : r.sh = .map E V) (hre : L E = some re) (hrv : L V = some rv) (hz : rv.zero = some [z]) (hz1 : zone P V = true) (hx : s.ev x = .mp k gn) (hown : s.own k = (gn, some ⟨T', 0, rows, kd⟩)) (hkd : Nat.blt kd 3 = true)
    (hy : (s.ev y).fz = some key) (hky : re.sh.key key = true) (hkeys : keyed re.sh rows = true) : QOp P L s ⟨some d, .lookup T x y true, ty, pos, af, g⟩ (.tup [mval z key rows, .bool (mix key rows).isSome]) := by
  rw [PV.fz_eq] at hy
  have hy := Option.some.inj hy
  have := QOp.look (P := P) (L := L) (s := s) (o := ⟨some d, .lookup T x y true, ty, pos, af, g⟩) rfl hr hs hre hrv hz hz1 hx hown (by simpa using hkd) (by rw [hy]; exact hky) hkeys
  rw [hy] at this
  exact this
theorem o_msetG {V : TypeId} {x y v : Operand} {k gn kd : Nat} {rows : List (List PV)} {T' : TypeId} {key pv : PV} (kk : Option (List Sh)) (kd' : Nat) (hr : L T = some r) (hs : r.sh = .map E V) (hre : L E = some re) (hg : kgood P E kk = true) (hx : s.ev x = .mp k gn) (hown : s.own k = (gn, some ⟨T', 0, rows, kd⟩)) (hk1 : Nat.ble kd kd' = true) (hk3 : Nat.blt kd' 3 = true)
    (hy : (s.ev y).fz = some key) (hky : kkey re.sh kk key = true) (hkeys : keyedG re.sh kk rows = true) (hv : (s.ev v).fz = some pv) (hkd : kOk kd' pv = true) (h : K (s.setOwn k gn (some ⟨T', 0, mput key (nrm kd' pv) rows, kd'⟩))) : POp P L s ⟨none, .mapUpdate T x y v, ty, pos, af, g⟩ K := by
  rw [PV.fz_eq] at hy hv
  have hy := Option.some.inj hy
  have hv := Option.some.inj hv
  exact .inr (.inl ⟨_, .mapSetG kd' rfl rfl hr hs hre hx hown (by simpa using hk1) (by simpa using hk3) hg (by rw [hy]; exact hky) hkeys (by rw [hv]; exact hkd), by rw [hy, hv]; exact h⟩)
/-- A look into a map that nobody changes. -/
theorem q_lookD {V : TypeId} {rv : LRow} {rows : List (List PV)} {key z : PV} (kk : Option (List Sh)) (hr : L T = some r) (hs : r.sh = .map E V) (hre : L E = some re) (hrv : L V = some rv) (hz : rv.zero = some [z]) (hz1 : zone P V = true) (hg : kgood P E kk = true) (hx : s.ev x = .mapd rows)
    (hy : (s.ev y).fz = some key) (hky : kkey re.sh kk key = true) (hkeys : keyedG re.sh kk rows = true) : QOp P L s ⟨some d, .lookup T x y false, ty, pos, af, g⟩ (mval z key rows) := by
  rw [PV.fz_eq] at hy
  have hy := Option.some.inj hy
  have := QOp.lookG (P := P) (L := L) (s := s) (o := ⟨some d, .lookup T x y false, ty, pos, af, g⟩) rfl hr hs hre (fun hL => zval1 hL hrv hz hz1) (.inl hx) hg (by rw [hy]; exact hky) hkeys
  rw [hy] at this
  exact this
theorem q_lookG {V : TypeId} {rv : LRow} {k gn kd : Nat} {rows : List (List PV)} {T' : TypeId} {key z : PV} (kk : Option (List Sh)) (hr : L T = some r) (hs : r.sh = .map E V) (hre : L E = some re) (hrv : L V = some rv) (hz : rv.zero = some [z]) (hz1 : zone P V = true) (hg : kgood P E kk = true) (hx : s.ev x = .mp k gn) (hown : s.own k = (gn, some ⟨T', 0, rows, kd⟩)) (hkd : Nat.blt kd 3 = true)
    (hy : (s.ev y).fz = some key) (hky : kkey re.sh kk key = true) (hkeys : keyedG re.sh kk rows = true) : QOp P L s ⟨some d, .lookup T x y false, ty, pos, af, g⟩ (mval z key rows) := by
  rw [PV.fz_eq] at hy
  have hy := Option.some.inj hy
  have := QOp.lookG (P := P) (L := L) (s := s) (o := ⟨some d, .lookup T x y false, ty, pos, af, g⟩) rfl hr hs hre (fun hL => zval1 hL hrv hz hz1) (.inr ⟨k, gn, _, hx, hown, (by simpa using hkd), rfl⟩) hg (by rw [hy]; exact hky) hkeys
  rw [hy] at this
  exact this
/-- A look into a map of structs. -/
theorem q_lookS {V : TypeId} {rows : List (List PV)} {zs : List PV} {key : PV} (kk : Option (List Sh)) (hz : zagg P V zs = true) (hr : L T = some r) (hs : r.sh = .map E V) (hre : L E = some re) (hg : kgood P E kk = true) (hx : s.ev x = .mapd rows)
    (hy : (s.ev y).fz = some key) (hky : kkey re.sh kk key = true) (hkeys : keyedG re.sh kk rows = true) : QOp P L s ⟨some d, .lookup T x y false, ty, pos, af, g⟩ (mval (.agg zs) key rows) := by
  rw [PV.fz_eq] at hy
  have hy := Option.some.inj hy
  have := QOp.lookG (P := P) (L := L) (s := s) (o := ⟨some d, .lookup T x y false, ty, pos, af, g⟩) rfl hr hs hre (fun _ => zvalS hz) (.inl hx) hg (by rw [hy]; exact hky) hkeys
  rw [hy] at this
  exact this
theorem q_lookSO {V : TypeId} {k gn kd : Nat} {rows : List (List PV)} {T' : TypeId} {zs : List PV} {key : PV} (kk : Option (List Sh)) (hz : zagg P V zs = true) (hr : L T = some r) (hs : r.sh = .map E V) (hre : L E = some re) (hg : kgood P E kk = true) (hx : s.ev x = .mp k gn) (hown : s.own k = (gn, some ⟨T', 0, rows, kd⟩)) (hkd : Nat.blt kd 3 = true)
    (hy : (s.ev y).fz = some key) (hky : kkey re.sh kk key = true) (hkeys : keyedG re.sh kk rows = true) : QOp P L s ⟨some d, .lookup T x y false, ty, pos, af, g⟩ (mval (.agg zs) key rows) := by
  rw [PV.fz_eq] at hy
  have hy := Option.some.inj hy
  have := QOp.lookG (P := P) (L := L) (s := s) (o := ⟨some d, .lookup T x y false, ty, pos, af, g⟩) rfl hr hs hre (fun _ => zvalS hz) (.inr ⟨k, gn, _, hx, hown, (by simpa using hkd), rfl⟩) hg (by rw [hy]; exact hky) hkeys
  rw [hy] at this
  exact this
theorem q_s2b {src : TypeId} {rs : LRow} {l : List UInt8} (hrs : L src = some rs) (hr : L T = some r) (hs : r.sh = .sl E) (hre : L E = some re) (hsh : re.sh = .int .u8) (hx : s.ev x = .str l) : QOp P L s ⟨some d, .convert src T x, ty, pos, af, g⟩ (.fsl (l.map fun c => [.int .u8 c.toNat])) :=
  .s2b rfl hrs hr hs hre hsh hx
/-- Loading from data whose part is known. -/
theorem q_ldD {cs : List PV} {j : Nat} {pv : PV} (hr : L T = some r) (hx : s.ev x = .dref cs j) (hp : part r cs j = some pv) : QOp P L s ⟨some d, .load T x, ty, pos, af, g⟩ pv := by
  refine .v (Cd := True) ?_ trivial
  simp only [qv, hr, hx, hp]
theorem q_nckR {b o : Nat} (hx : s.ev x = .raw (.pointer (some ⟨b, o, none⟩))) : QOp P L s ⟨some d, .nilCheck x, ty, pos, af, g⟩ (.raw (.pointer (some ⟨b, o, none⟩))) :=
  .sem hx rfl (fun ev w _ he => by simp only [execOp, he]; rfl) fun _ _ => .raw _
theorem q_faR {fs : List (Nat × TypeId)} {f off ft b o : Nat} {rf : LRow} (hL : LOk P L) (hr : L T = some r) (hs : r.sh = .st fs) (hf : fs[f]? = some (off, ft)) (hrf : L ft = some rf) (hsz : Nat.blt 0 rf.size = true) (hx : s.ev x = .raw (.pointer (some ⟨b, o, none⟩))) :
    QOp P L s ⟨some d, .fieldAddr T x f, ty, pos, af, g⟩ (.raw (.pointer (some ⟨b, o + off, none⟩))) :=
  .sem hx rfl (fun ev w _ he => by
    simp only [execOp, he]
    rw [Sem.run_bind, run_fieldAt hL hr hs hf hrf hsz]
    rfl) fun _ _ => .raw _
theorem q_ldR {b o : Nat} {k : IntKind} {n : Int} (hL : LOk P L) (hG : ∀ w : World, Globs.glob w → w.cell? ⟨b, o, none⟩ = some (.int k n)) (hr : L T = some r) (hp : part r [.int k n] 0 = some (.int k n)) (hx : s.ev x = .raw (.pointer (some ⟨b, o, none⟩))) :
    QOp P L s ⟨some d, .load T x, ty, pos, af, g⟩ (.int k n) :=
  .sem hx rfl (fun ev w hw he => by
    obtain ⟨v, e1, e2⟩ := rep_part (E := ⟨w, fun _ => True, fun _ => True, fun _ => 0, fun _ => none⟩) (P := P) (hL T r hr) (b := b) (off := o) (fun _ => .int k n) (fun i c e => by
      match i, e with
      | 0, e => exact hG w hw) (fun i c e => by
      match i, e with
      | 0, e => simp at e; subst e; exact .d (.int _ _)) hp
    have hv := e2.int_inv
    subst hv
    simp only [execOp, he, Instr.loadAt, Instr.sureAddr, Sem.run_bind, Sem.run_pure, Result.andThen_ok]
    rw [Nat.add_zero] at e1
    rw [e1]
    rfl) fun _ _ => .int _ _
theorem q_entry {k gn : Nat} {T' : TypeId} {ck cv : PV} {rem : List PV} (hx : s.ev x = .mi k gn) (hown : s.own k = (gn, some ⟨T', 0, [.agg [ck, cv] :: rem], 3⟩)) : QOp P L s ⟨some d, .entry x, ty, pos, af, g⟩ (.tup [ck, cv]) :=
  .entry rfl hx hown rfl rfl
theorem o_range {V : TypeId} {rows : List (List PV)} {gn : Nat} {oc : Option Cont} (hr : L T = some r) (hs : r.sh = .map E V) (hx : s.ev x = .mapd rows) (hown : s.own d = (gn, oc))
    (h : K ((s.setOwn d (gn + 1) (some ⟨T, 0, pairs rows, 3⟩)).putR d (.mi d (gn + 1)))) : POp P L s ⟨some d, .range T x, ty, pos, af, g⟩ K := by
  refine .inr (.inl ⟨_, .range rfl rfl hr hs hx, ?_⟩)
  rw [St.fin, hown]; exact h
theorem o_next {k gn : Nat} {T' : TypeId} {last : PV} {rem : List PV} (hx : s.ev x = .mi k gn) (hown : s.own k = (gn, some ⟨T', 0, [last :: rem], 3⟩))
    (h0 : rem = [] → K (s.putR d (.tup [.bool false]))) (h1 : ∀ i ck cv, rem[i]? = some (.agg [ck, cv]) → K ((s.setOwn k gn (some ⟨T', 0, [.agg [ck, cv] :: rem.eraseIdx i], 3⟩)).putR d (.tup [.bool true, ck, cv]))) : POp P L s ⟨some d, .next x false, ty, pos, af, g⟩ K :=
  .inr (.inr (.next rfl rfl hx hown rfl rfl h0 h1))
end ops

/-! ### A weaker post -/
theorem POp.mono {K' : St → Prop} (hk : ∀ s, K s → K' s) (h : POp P L s o K) : POp P L s o K' := by
  rcases h with ⟨pv, h1, h2⟩ | ⟨s', h1, h2⟩ | h1
  · exact .inl ⟨pv, h1, hk _ h2⟩
  · exact .inr (.inl ⟨s', h1, hk _ h2⟩)
  · exact .inr (.inr (h1.mono hk))
theorem POps.mono {K' : St → Prop} (hk : ∀ s, K s → K' s) : ∀ (l : List Oper) (s : St), POps P L ops K l s → POps P L ops K' l s
  | [], s, h => hk s h
  | _ :: l, _, h => h.imp (fun x => ⟨x.1, x.2.mono (fun s' h' => POps.mono hk l s' h')⟩) (fun x => ⟨x.1, POps.mono hk l _ x.2⟩)
theorem PSem.mono {K' : St → Prop} (hk : ∀ s, K s → K' s) : ∀ (l : List Oper) (s : St), PSem P L ops K l s → PSem P L ops K' l s
  | [], s, h => hk s h
  | _ :: l, _, h => h.imp (fun x => ⟨x.1, x.2.imp (POp.mono' fun s' h' => PSem.mono hk l s' h') (fun y C a w Q hG hs hN => Oper.wp_mono (fun _ _ ⟨s', e1, e2⟩ => ⟨s', e1, PSem.mono hk l s' e2⟩) (y C a w Q hG hs hN))⟩) (fun x => ⟨x.1, PSem.mono hk l _ x.2⟩)
theorem PQuiet.mono {K' : St → Prop} (hk : ∀ s, K s → K' s) : ∀ (l : List Oper) (s : St), PQuiet P L ops K l s → PQuiet P L ops K' l s
  | [], s, h => hk s h
  | _ :: l, _, h => h.imp (fun ⟨x, pv, y, z⟩ => ⟨x, pv, y, PQuiet.mono hk l _ z⟩) (fun x => ⟨x.1, PQuiet.mono hk l _ x.2⟩)
theorem P3.mono {K' : St → Prop} (hk : ∀ s, K s → K' s) {Z : List Nat} {cls : Nat → Bool} : ∀ (l : List Oper) (i : Nat) (s : St), P3 P L ops Z cls K i l s → P3 P L ops Z cls K' i l s
  | [], _, s, h => hk s h
  | _ :: l, i, _, ⟨s', h1, h2⟩ => ⟨s', h1, P3.mono hk l (i + 1) s' h2⟩
theorem Gh.mono {K K' : St → Prop} (hk : ∀ s, K s → K' s) {s : St} (h : Gh K s) : Gh K' s := let ⟨s1, h1, h2⟩ := h; ⟨s1, h1, hk s1 h2⟩
theorem PWP.mono {c : Code} : ∀ {Q Q' : Exit → St → Prop}, (∀ e s, Q e s → Q' e s) → ∀ s, PWP P L c Q s → PWP P L c Q' s := by
  induction c with
  | skip => intro Q Q' hq s h; exact Gh.mono (hq _) h
  | region id ops d =>
    intro Q Q' hq s h
    refine Gh.mono (fun s h => ?_) h
    cases d with
    | true =>
      rcases h with ⟨n, ds, h1, h2⟩ | ⟨n, m, ds, F, h1, h3, h2⟩ | ⟨Z, ch, h1, h2⟩
      · exact Or.inl ⟨n, ds, h1, PQuiet.mono (fun s' h' => POps.mono (hq _) _ s' h') _ _ h2⟩
      · exact Or.inr (Or.inl ⟨n, m, ds, F, h1, h3, PQuiet.mono (fun s' h' => ⟨h'.1, POps.mono (hq _) _ s' h'.2⟩) _ _ h2⟩)
      · exact Or.inr (Or.inr ⟨Z, ch, h1, P3.mono (hq _) _ _ _ h2⟩)
    | false => exact h.imp (POps.mono (hq _) _ s) (PSem.mono (hq _) _ s)
  | seq x y ihx ihy =>
    intro Q Q' hq s h
    refine ihx ?_ s h
    intro e s' he
    cases e
    case normal => exact ihy hq s' he
    all_goals exact hq _ _ he
  | cond c x y ihx ihy =>
    intro Q Q' hq s h
    refine Gh.mono (fun s h => ?_) h
    obtain ⟨b, h1, h2, h3⟩ := h
    exact ⟨b, h1, fun hb => ihx hq s (h2 hb), fun hb => ihy hq s (h3 hb)⟩
  | block id c ih =>
    intro Q Q' hq s h
    refine ih ?_ s h
    intro e s' he
    cases e
    case exit id' =>
      show if id' = id then _ else _
      have he' : if id' = id then Q .normal s' else Q (.exit id') s' := he
      split
      · rename_i hid; rw [if_pos hid] at he'; exact hq _ _ he'
      · rename_i hid; rw [if_neg hid] at he'; exact hq _ _ he'
    all_goals exact hq _ _ he
  | loop c ih =>
    intro Q Q' hq s h
    refine Gh.mono (fun s h => ?_) h
    obtain ⟨I, μ, h0, hr⟩ := h
    refine ⟨I, μ, h0, fun s1 hs1 => ih ?_ s1 (hr s1 hs1)⟩
    intro e s' he
    cases e
    case normal => exact he
    all_goals exact hq _ _ he
  | exit id => intro Q Q' hq s h; exact Gh.mono (hq _) h
  | ret => intro Q Q' hq s h; exact Gh.mono (hq _) h
  | label l => intro Q Q' hq s h; exact Gh.mono (hq _) h
  | goto l => intro Q Q' hq s h; exact h.elim
  | rangeFunc => intro Q Q' hq s h; exact h.elim
  | scope => intro Q Q' hq s h; exact h.elim
  | refuse => intro Q Q' hq s h; exact h.elim

/-! ### Loops -/
/-- The registers and sites that are known. -/
def St.over (s : St) (l : List (Nat × PV)) (m : List (Nat × Nat × Cont)) : St :=
  ⟨l.foldr (fun p f r => bif Nat.beq r p.1 then p.2 else f r) s.reg, m.foldr (fun p f r => bif Nat.beq r p.1 then (p.2.1, some p.2.2) else f r) s.own⟩

def St.fits (s : St) (l : List (Nat × PV)) (m : List (Nat × Nat × Cont)) : Prop := (∀ p ∈ l, s.reg p.1 = p.2) ∧ ∀ p ∈ m, s.own p.1 = (p.2.1, some p.2.2)

def FitO (s : St) : List (Nat × Nat × Cont) → Prop
  | [] => True
  | (k, g, c) :: m => s.own k = (g, some c) ∧ FitO s m
def Fit (s : St) (l : List (Nat × PV)) (m : List (Nat × Nat × Cont)) : Prop :=
  match l with
  | [] => FitO s m
  | (r, v) :: l => s.reg r = v ∧ Fit s l m

theorem over_reg (s : St) : ∀ l : List (Nat × PV), (∀ p ∈ l, s.reg p.1 = p.2) → l.foldr (fun p f r => bif Nat.beq r p.1 then p.2 else f r) s.reg = s.reg
  | [], _ => rfl
  | (r, v) :: l, h => by
    rw [List.foldr_cons, over_reg s l (fun p hp => h p (by simp [hp]))]
    funext t
    by_cases ht : t = r
    · subst ht; simp; exact (h (t, v) (by simp)).symm
    · simp [nbeq_ne ht]
theorem over_own (s : St) : ∀ m : List (Nat × Nat × Cont), (∀ p ∈ m, s.own p.1 = (p.2.1, some p.2.2)) → m.foldr (fun p f r => bif Nat.beq r p.1 then (p.2.1, some p.2.2) else f r) s.own = s.own
  | [], _ => rfl
  | (k, g, c) :: m, h => by
    rw [List.foldr_cons, over_own s m (fun p hp => h p (by simp [hp]))]
    funext t
    by_cases ht : t = k
    · subst ht; simp; exact (h (t, g, c) (by simp)).symm
    · simp [nbeq_ne ht]

theorem FitO.fits {s : St} : ∀ {m : List (Nat × Nat × Cont)}, FitO s m → ∀ p ∈ m, s.own p.1 = (p.2.1, some p.2.2)
  | [], _ => by simp
  | (k, g, c) :: m, h => fun p hp => by
    have h' : s.own k = (g, some c) ∧ FitO s m := h
    rcases List.mem_cons.1 hp with rfl | hp
    · exact h'.1
    · exact FitO.fits h'.2 p hp
theorem Fit.fits {s : St} : ∀ {l : List (Nat × PV)} {m : List (Nat × Nat × Cont)}, Fit s l m → s.fits l m
  | [], m, h => ⟨by simp, FitO.fits h⟩
  | (r, v) :: l, m, h => by
    have h' : s.reg r = v ∧ Fit s l m := h
    have := Fit.fits h'.2
    refine ⟨fun p hp => ?_, this.2⟩
    rcases List.mem_cons.1 hp with rfl | hp
    · exact h'.1
    · exact this.1 p hp

theorem Fit.over {s : St} {l : List (Nat × PV)} {m : List (Nat × Nat × Cont)} (h : Fit s l m) : s.over l m = s := by
  have := h.fits
  exact St.ext' (over_reg s l this.1) (over_own s m this.2)

/-- A loop: what is known at each round's head, by a parameter; the measure of the parameter. -/
theorem pw_loop {ι : Type} (I : ι → Prop) (regs : ι → List (Nat × PV)) (owns : ι → List (Nat × Nat × Cont)) (μ : ι → Nat) {c : Code} (i0 : ι) (h0 : I i0) (hs : Fit s (regs i0) (owns i0))
    (round : ∀ (i : ι) (s : St), I i → PWP P L c (XThen (fun s' => ∃ j, I j ∧ μ j < μ i ∧ Fit s' (regs j) (owns j)) Q) (s.over (regs i) (owns i))) : PWP P L (.loop c) Q s := by
  let J : St → Nat → Prop := fun s n => ∃ i, I i ∧ Fit s (regs i) (owns i) ∧ μ i = n
  have least : ∀ s, (∃ n, J s n) → ∃ n, J s n ∧ ∀ m, J s m → n ≤ m := by
    intro s ⟨n, hn⟩
    induction n using Nat.strongRecOn with
    | _ n ih =>
      by_cases hx : ∃ m, m < n ∧ J s m
      · obtain ⟨m, hm, hj⟩ := hx
        exact ih m hm hj
      · exact ⟨n, hn, fun m hm => by
          rcases Nat.lt_or_ge m n with h | h
          · exact absurd ⟨m, h, hm⟩ hx
          · exact h⟩
  have hμ : ∃ f : St → Nat, ∀ s, (∃ n, J s n) → J s (f s) ∧ ∀ m, J s m → f s ≤ m :=
    ⟨fun s => Classical.epsilon fun n => J s n ∧ ∀ m, J s m → n ≤ m, fun s hx => Classical.epsilon_spec (least s hx)⟩
  obtain ⟨f, hf⟩ := hμ
  refine Gh.of ⟨fun s => ∃ i, I i ∧ Fit s (regs i) (owns i), f, ⟨i0, h0, hs⟩, ?_⟩
  rintro s1 ⟨i1, hi1, hfit1⟩
  obtain ⟨⟨i, hi, hfit, hm⟩, _⟩ := hf s1 ⟨_, i1, hi1, hfit1, rfl⟩
  have := round i s1 hi
  rw [hfit.over] at this
  refine PWP.mono ?_ _ this
  intro e s' hq
  cases e
  case normal =>
    obtain ⟨j, hj, hlt, hfj⟩ := hq
    refine ⟨⟨j, hj, hfj⟩, ?_⟩
    have := (hf s' ⟨_, j, hj, hfj, rfl⟩).2 _ ⟨j, hj, hfj, rfl⟩
    omega
  all_goals exact hq

end
end Go.Pv

/- The seat's types, as a table that is asked by halving, and its check against the program. -/
namespace Go.Pv
open Go.Proofs Go.RowKit
set_option maxRecDepth 100000
def lay : Tr := (.nd 152 (.nd 76 (.nd 38 (.nd 19 (.nd 9 (.nd 4 (.nd 2 (.nd 1 (.lf 0 ⟨1, 0, .other, none⟩)
 (.lf 1 ⟨1, 8, .other, (some [(.raw .nilFunc)])⟩))
 (.nd 3 (.lf 2 ⟨1, 8, (.int .i64), (some [(.int .i64 0)])⟩)
 (.lf 3 ⟨1, 8, (.int .i64), (some [(.int .i64 0)])⟩)))
 (.nd 6 (.nd 5 (.lf 4 ⟨1, 1, .bool, (some [(.bool false)])⟩)
 (.lf 5 ⟨1, 1, (.int .u8), (some [(.int .u8 0)])⟩))
 (.nd 7 (.lf 6 ⟨1, 1, (.int .u8), (some [(.int .u8 0)])⟩)
 (.nd 8 (.lf 7 ⟨4, 24, (.st [(0, 2), (1, 3), (2, 4), (3, 6)]), (some [(.int .i64 0), (.int .i64 0), (.bool false), (.int .u8 0)])⟩)
 (.lf 8 ⟨4, 24, (.st [(0, 2), (1, 3), (2, 4), (3, 6)]), (some [(.int .i64 0), (.int .i64 0), (.bool false), (.int .u8 0)])⟩)))))
 (.nd 14 (.nd 11 (.nd 10 (.lf 9 ⟨1, 16, .str, (some [(.str [])])⟩)
 (.lf 10 ⟨1, 16, .str, (some [(.str [])])⟩))
 (.nd 12 (.lf 11 ⟨1, 16, .str, (some [(.str [])])⟩)
 (.nd 13 (.lf 12 ⟨1, 8, (.int .u64), (some [(.int .u64 0)])⟩)
 (.lf 13 ⟨2, 24, (.st [(0, 9), (1, 12)]), (some [(.str []), (.int .u64 0)])⟩))))
 (.nd 16 (.nd 15 (.lf 14 ⟨2, 24, (.st [(0, 9), (1, 12)]), (some [(.str []), (.int .u64 0)])⟩)
 (.lf 15 ⟨1, 8, (.ptr 293), (some [(.raw (.pointer none))])⟩))
 (.nd 17 (.lf 16 ⟨1, 8, (.ptr 296), (some [(.raw (.pointer none))])⟩)
 (.nd 18 (.lf 17 ⟨1, 8, (.ptr 303), (some [(.raw (.pointer none))])⟩)
 (.lf 18 ⟨1, 8, (.st [(0, 17)]), (some [(.raw (.pointer none))])⟩))))))
 (.nd 28 (.nd 23 (.nd 21 (.nd 20 (.lf 19 ⟨1, 8, (.st [(0, 17)]), (some [(.raw (.pointer none))])⟩)
 (.lf 20 ⟨1, 16, .other, (some [(.raw .nilIface)])⟩))
 (.nd 22 (.lf 21 ⟨1, 4, (.int .i32), (some [(.int .i32 0)])⟩)
 (.lf 22 ⟨9, 104, (.st [(0, 3), (1, 3), (2, 9), (3, 9), (4, 9), (5, 9), (6, 3), (7, 3), (8, 3)]), (some [(.int .i64 0), (.int .i64 0), (.str []), (.str []), (.str []), (.str []), (.int .i64 0), (.int .i64 0), (.int .i64 0)])⟩)))
 (.nd 25 (.nd 24 (.lf 23 ⟨9, 104, (.st [(0, 3), (1, 3), (2, 9), (3, 9), (4, 9), (5, 9), (6, 3), (7, 3), (8, 3)]), (some [(.int .i64 0), (.int .i64 0), (.str []), (.str []), (.str []), (.str []), (.int .i64 0), (.int .i64 0), (.int .i64 0)])⟩)
 (.lf 24 ⟨1, 8, .other, (some [(.raw .nilFunc)])⟩))
 (.nd 26 (.lf 25 ⟨1, 8, .other, (some [(.raw .nilFunc)])⟩)
 (.nd 27 (.lf 26 ⟨1, 8, (.int .i64), (some [(.int .i64 0)])⟩)
 (.lf 27 ⟨1, 0, .other, none⟩)))))
 (.nd 33 (.nd 30 (.nd 29 (.lf 28 ⟨1, 8, .other, (some [(.raw .nilFunc)])⟩)
 (.lf 29 ⟨1, 0, .other, none⟩))
 (.nd 31 (.lf 30 ⟨1, 8, .other, (some [(.raw .nilFunc)])⟩)
 (.nd 32 (.lf 31 ⟨1, 0, .other, none⟩)
 (.lf 32 ⟨1, 8, .other, (some [(.raw .nilFunc)])⟩))))
 (.nd 35 (.nd 34 (.lf 33 ⟨1, 0, .other, none⟩)
 (.lf 34 ⟨1, 8, .other, (some [(.raw .nilFunc)])⟩))
 (.nd 36 (.lf 35 ⟨1, 8, .other, (some [(.raw .nilFunc)])⟩)
 (.nd 37 (.lf 36 ⟨1, 8, .other, (some [(.raw .nilFunc)])⟩)
 (.lf 37 ⟨1, 8, .other, (some [(.raw .nilFunc)])⟩)))))))
 (.nd 57 (.nd 47 (.nd 42 (.nd 40 (.nd 39 (.lf 38 ⟨1, 8, .other, (some [(.raw .nilFunc)])⟩)
 (.lf 39 ⟨1, 24, (.sl 23), (some [.nil])⟩))
 (.nd 41 (.lf 40 ⟨1, 8, .other, (some [(.raw .nilFunc)])⟩)
 (.lf 41 ⟨1, 8, (.ptr 146), (some [(.raw (.pointer none))])⟩)))
 (.nd 44 (.nd 43 (.lf 42 ⟨1, 0, .other, none⟩)
 (.lf 43 ⟨1, 8, .other, (some [(.raw .nilFunc)])⟩))
 (.nd 45 (.lf 44 ⟨1, 0, .other, none⟩)
 (.nd 46 (.lf 45 ⟨1, 8, .other, (some [(.raw .nilFunc)])⟩)
 (.lf 46 ⟨1, 0, .other, none⟩)))))
 (.nd 52 (.nd 49 (.nd 48 (.lf 47 ⟨1, 8, .other, (some [(.raw .nilFunc)])⟩)
 (.lf 48 ⟨1, 8, .other, (some [(.raw .nilFunc)])⟩))
 (.nd 50 (.lf 49 ⟨1, 8, .other, (some [(.raw .nilFunc)])⟩)
 (.nd 51 (.lf 50 ⟨1, 8, .other, (some [(.raw .nilFunc)])⟩)
 (.lf 51 ⟨1, 8, .other, (some [(.raw .nilFunc)])⟩))))
 (.nd 54 (.nd 53 (.lf 52 ⟨1, 8, .other, (some [(.raw .nilFunc)])⟩)
 (.lf 53 ⟨1, 8, .other, (some [(.raw .nilFunc)])⟩))
 (.nd 55 (.lf 54 ⟨1, 24, (.sl 5), (some [.nil])⟩)
 (.nd 56 (.lf 55 ⟨1, 8, .other, (some [(.raw .nilFunc)])⟩)
 (.lf 56 ⟨1, 24, (.sl 149), (some [.nil])⟩))))))
 (.nd 66 (.nd 61 (.nd 59 (.nd 58 (.lf 57 ⟨1, 8, .other, (some [(.raw .nilFunc)])⟩)
 (.lf 58 ⟨1, 24, (.sl 9), (some [.nil])⟩))
 (.nd 60 (.lf 59 ⟨1, 0, .other, none⟩)
 (.lf 60 ⟨1, 8, .other, (some [(.raw .nilFunc)])⟩)))
 (.nd 63 (.nd 62 (.lf 61 ⟨1, 0, .other, none⟩)
 (.lf 62 ⟨1, 8, .other, (some [(.raw .nilFunc)])⟩))
 (.nd 64 (.lf 63 ⟨1, 8, .other, (some [(.raw .nilFunc)])⟩)
 (.nd 65 (.lf 64 ⟨1, 8, .other, (some [(.raw .nilFunc)])⟩)
 (.lf 65 ⟨1, 8, .other, (some [(.raw .nilFunc)])⟩)))))
 (.nd 71 (.nd 68 (.nd 67 (.lf 66 ⟨1, 8, .other, (some [(.raw .nilFunc)])⟩)
 (.lf 67 ⟨1, 8, .other, (some [(.raw .nilFunc)])⟩))
 (.nd 69 (.lf 68 ⟨1, 24, (.sl 56), (some [.nil])⟩)
 (.nd 70 (.lf 69 ⟨1, 0, .other, none⟩)
 (.lf 70 ⟨1, 8, .other, (some [(.raw .nilFunc)])⟩))))
 (.nd 73 (.nd 72 (.lf 71 ⟨1, 24, (.sl 159), (some [.nil])⟩)
 (.lf 72 ⟨1, 0, .other, none⟩))
 (.nd 74 (.lf 73 ⟨1, 8, .other, (some [(.raw .nilFunc)])⟩)
 (.nd 75 (.lf 74 ⟨1, 0, .other, none⟩)
 (.lf 75 ⟨1, 8, .other, (some [(.raw .nilFunc)])⟩))))))))
 (.nd 114 (.nd 95 (.nd 85 (.nd 80 (.nd 78 (.nd 77 (.lf 76 ⟨1, 0, .other, none⟩)
 (.lf 77 ⟨1, 8, .other, (some [(.raw .nilFunc)])⟩))
 (.nd 79 (.lf 78 ⟨1, 0, .other, none⟩)
 (.lf 79 ⟨1, 8, .other, (some [(.raw .nilFunc)])⟩)))
 (.nd 82 (.nd 81 (.lf 80 ⟨1, 8, .other, (some [(.raw .nilFunc)])⟩)
 (.lf 81 ⟨1, 8, .other, (some [(.raw .nilFunc)])⟩))
 (.nd 83 (.lf 82 ⟨1, 8, .other, (some [(.raw .nilFunc)])⟩)
 (.nd 84 (.lf 83 ⟨1, 8, (.ptr 162), (some [(.raw (.pointer none))])⟩)
 (.lf 84 ⟨1, 8, .other, (some [(.raw .nilFunc)])⟩)))))
 (.nd 90 (.nd 87 (.nd 86 (.lf 85 ⟨1, 8, .other, (some [(.raw .nilFunc)])⟩)
 (.lf 86 ⟨1, 0, .other, none⟩))
 (.nd 88 (.lf 87 ⟨1, 8, .other, (some [(.raw .nilFunc)])⟩)
 (.nd 89 (.lf 88 ⟨1, 8, .other, (some [(.raw .nilFunc)])⟩)
 (.lf 89 ⟨1, 0, .other, none⟩))))
 (.nd 92 (.nd 91 (.lf 90 ⟨1, 8, .other, (some [(.raw .nilFunc)])⟩)
 (.lf 91 ⟨1, 24, (.sl 185), (some [.nil])⟩))
 (.nd 93 (.lf 92 ⟨1, 0, .other, none⟩)
 (.nd 94 (.lf 93 ⟨1, 8, .other, (some [(.raw .nilFunc)])⟩)
 (.lf 94 ⟨1, 0, .other, none⟩))))))
 (.nd 104 (.nd 99 (.nd 97 (.nd 96 (.lf 95 ⟨1, 8, .other, (some [(.raw .nilFunc)])⟩)
 (.lf 96 ⟨1, 24, (.sl 3), (some [.nil])⟩))
 (.nd 98 (.lf 97 ⟨5, 72, (.st [(0, 3), (1, 3), (2, 96), (3, 96), (4, 3)]), (some [(.int .i64 0), (.int .i64 0), .nil, .nil, (.int .i64 0)])⟩)
 (.lf 98 ⟨5, 72, (.st [(0, 3), (1, 3), (2, 96), (3, 96), (4, 3)]), (some [(.int .i64 0), (.int .i64 0), .nil, .nil, (.int .i64 0)])⟩)))
 (.nd 101 (.nd 100 (.lf 99 ⟨1, 0, .other, none⟩)
 (.lf 100 ⟨1, 8, .other, (some [(.raw .nilFunc)])⟩))
 (.nd 102 (.lf 101 ⟨1, 8, .other, (some [(.raw .nilFunc)])⟩)
 (.nd 103 (.lf 102 ⟨1, 8, .other, (some [(.raw .nilFunc)])⟩)
 (.lf 103 ⟨1, 0, .other, none⟩)))))
 (.nd 109 (.nd 106 (.nd 105 (.lf 104 ⟨1, 8, .other, (some [(.raw .nilFunc)])⟩)
 (.lf 105 ⟨6, 48, (.st [(0, 3), (1, 3), (2, 3), (3, 3), (4, 3), (5, 3)]), (some [(.int .i64 0), (.int .i64 0), (.int .i64 0), (.int .i64 0), (.int .i64 0), (.int .i64 0)])⟩))
 (.nd 107 (.lf 106 ⟨6, 48, (.st [(0, 3), (1, 3), (2, 3), (3, 3), (4, 3), (5, 3)]), (some [(.int .i64 0), (.int .i64 0), (.int .i64 0), (.int .i64 0), (.int .i64 0), (.int .i64 0)])⟩)
 (.nd 108 (.lf 107 ⟨1, 0, .other, none⟩)
 (.lf 108 ⟨1, 8, .other, (some [(.raw .nilFunc)])⟩))))
 (.nd 111 (.nd 110 (.lf 109 ⟨1, 8, .other, (some [(.raw .nilFunc)])⟩)
 (.lf 110 ⟨1, 8, .other, (some [(.raw .nilFunc)])⟩))
 (.nd 112 (.lf 111 ⟨1, 8, .other, (some [(.raw .nilFunc)])⟩)
 (.nd 113 (.lf 112 ⟨1, 8, .other, (some [(.raw .nilFunc)])⟩)
 (.lf 113 ⟨1, 8, .other, (some [(.raw .nilFunc)])⟩)))))))
 (.nd 133 (.nd 123 (.nd 118 (.nd 116 (.nd 115 (.lf 114 ⟨1, 16, .other, (some [(.raw .nilIface)])⟩)
 (.lf 115 ⟨1, 16, .other, (some [(.raw .nilIface)])⟩))
 (.nd 117 (.lf 116 ⟨1, 0, .other, none⟩)
 (.lf 117 ⟨1, 8, .other, (some [(.raw .nilFunc)])⟩)))
 (.nd 120 (.nd 119 (.lf 118 ⟨1, 8, .other, (some [(.raw .nilFunc)])⟩)
 (.lf 119 ⟨1, 24, (.sl 125), (some [.nil])⟩))
 (.nd 121 (.lf 120 ⟨1, 8, .other, (some [(.raw .nilFunc)])⟩)
 (.nd 122 (.lf 121 ⟨1, 8, (.ptr 23), (some [(.raw (.pointer none))])⟩)
 (.lf 122 ⟨1, 8, (.ptr 9), (some [(.raw (.pointer none))])⟩)))))
 (.nd 128 (.nd 125 (.nd 124 (.lf 123 ⟨1, 8, (.ptr 3), (some [(.raw (.pointer none))])⟩)
 (.lf 124 ⟨4, 32, (.st [(0, 122), (1, 123), (2, 3), (3, 3)]), (some [(.raw (.pointer none)), (.raw (.pointer none)), (.int .i64 0), (.int .i64 0)])⟩))
 (.nd 126 (.lf 125 ⟨4, 32, (.st [(0, 122), (1, 123), (2, 3), (3, 3)]), (some [(.raw (.pointer none)), (.raw (.pointer none)), (.int .i64 0), (.int .i64 0)])⟩)
 (.nd 127 (.lf 126 ⟨1, 0, .other, none⟩)
 (.lf 127 ⟨1, 8, .other, (some [(.raw .nilFunc)])⟩))))
 (.nd 130 (.nd 129 (.lf 128 ⟨1, 8, .other, (some [(.raw .nilFunc)])⟩)
 (.lf 129 ⟨1, 8, .other, (some [(.raw .nilFunc)])⟩))
 (.nd 131 (.lf 130 ⟨1, 8, .other, (some [(.raw .nilFunc)])⟩)
 (.nd 132 (.lf 131 ⟨1, 8, .other, (some [(.raw .nilFunc)])⟩)
 (.lf 132 ⟨1, 8, .other, (some [(.raw .nilFunc)])⟩))))))
 (.nd 142 (.nd 137 (.nd 135 (.nd 134 (.lf 133 ⟨1, 8, .other, (some [(.raw .nilFunc)])⟩)
 (.lf 134 ⟨1, 8, .other, (some [(.raw .nilFunc)])⟩))
 (.nd 136 (.lf 135 ⟨1, 0, .other, none⟩)
 (.lf 136 ⟨1, 8, .other, (some [(.raw .nilFunc)])⟩)))
 (.nd 139 (.nd 138 (.lf 137 ⟨1, 8, .other, (some [(.raw .nilFunc)])⟩)
 (.lf 138 ⟨1, 8, .other, (some [(.raw .nilFunc)])⟩))
 (.nd 140 (.lf 139 ⟨1, 8, (.ptr 141), (some [(.raw (.pointer none))])⟩)
 (.nd 141 (.lf 140 ⟨2, 32, (.st [(0, 139), (1, 54)]), (some [(.raw (.pointer none)), .nil])⟩)
 (.lf 141 ⟨2, 32, (.st [(0, 139), (1, 54)]), (some [(.raw (.pointer none)), .nil])⟩)))))
 (.nd 147 (.nd 144 (.nd 143 (.lf 142 ⟨1, 8, (.map 9 3), (some [(.raw (.map none))])⟩)
 (.lf 143 ⟨1, 8, (.map 172 3), (some [(.raw (.map none))])⟩))
 (.nd 145 (.lf 144 ⟨1, 8, (.map 3 4), (some [(.raw (.map none))])⟩)
 (.nd 146 (.lf 145 ⟨4, 48, (.st [(0, 39), (1, 142), (2, 143), (3, 144)]), (some [.nil, (.raw (.map none)), (.raw (.map none)), (.raw (.map none))])⟩)
 (.lf 146 ⟨4, 48, (.st [(0, 39), (1, 142), (2, 143), (3, 144)]), (some [.nil, (.raw (.map none)), (.raw (.map none)), (.raw (.map none))])⟩))))
 (.nd 149 (.nd 148 (.lf 147 ⟨1, 8, .other, (some [(.raw .nilFunc)])⟩)
 (.lf 148 ⟨2, 32, (.st [(0, 9), (1, 9)]), (some [(.str []), (.str [])])⟩))
 (.nd 150 (.lf 149 ⟨2, 32, (.st [(0, 9), (1, 9)]), (some [(.str []), (.str [])])⟩)
 (.nd 151 (.lf 150 ⟨1, 8, .other, (some [(.raw .nilFunc)])⟩)
 (.lf 151 ⟨1, 8, (.map 9 156), (some [(.raw (.map none))])⟩)))))))))
 (.nd 228 (.nd 190 (.nd 171 (.nd 161 (.nd 156 (.nd 154 (.nd 153 (.lf 152 ⟨1, 8, (.map 9 156), (some [(.raw (.map none))])⟩)
 (.lf 153 ⟨1, 8, .other, (some [(.raw .nilFunc)])⟩))
 (.nd 155 (.lf 154 ⟨1, 8, .other, (some [(.raw .nilFunc)])⟩)
 (.lf 155 ⟨2, 24, (.st [(0, 9), (1, 4)]), (some [(.str []), (.bool false)])⟩)))
 (.nd 158 (.nd 157 (.lf 156 ⟨2, 24, (.st [(0, 9), (1, 4)]), (some [(.str []), (.bool false)])⟩)
 (.lf 157 ⟨1, 8, .other, (some [(.raw .nilFunc)])⟩))
 (.nd 159 (.lf 158 ⟨5, 56, (.st [(0, 9), (1, 9), (2, 9), (3, 4), (4, 4)]), (some [(.str []), (.str []), (.str []), (.bool false), (.bool false)])⟩)
 (.nd 160 (.lf 159 ⟨5, 56, (.st [(0, 9), (1, 9), (2, 9), (3, 4), (4, 4)]), (some [(.str []), (.str []), (.str []), (.bool false), (.bool false)])⟩)
 (.lf 160 ⟨1, 8, .other, (some [(.raw .nilFunc)])⟩)))))
 (.nd 166 (.nd 163 (.nd 162 (.lf 161 ⟨1, 8, (.st [(0, 41)]), (some [(.raw (.pointer none))])⟩)
 (.lf 162 ⟨1, 8, (.st [(0, 41)]), (some [(.raw (.pointer none))])⟩))
 (.nd 164 (.lf 163 ⟨1, 8, .other, (some [(.raw .nilFunc)])⟩)
 (.nd 165 (.lf 164 ⟨1, 8, .other, (some [(.raw .nilFunc)])⟩)
 (.lf 165 ⟨1, 0, .other, none⟩))))
 (.nd 168 (.nd 167 (.lf 166 ⟨1, 8, .other, (some [(.raw .nilFunc)])⟩)
 (.lf 167 ⟨1, 8, .other, (some [(.raw .nilFunc)])⟩))
 (.nd 169 (.lf 168 ⟨1, 0, .other, none⟩)
 (.nd 170 (.lf 169 ⟨1, 8, .other, (some [(.raw .nilFunc)])⟩)
 (.lf 170 ⟨1, 8, .other, (some [(.raw .nilFunc)])⟩))))))
 (.nd 180 (.nd 175 (.nd 173 (.nd 172 (.lf 171 ⟨2, 32, (.st [(0, 9), (1, 9)]), (some [(.str []), (.str [])])⟩)
 (.lf 172 ⟨2, 32, (.st [(0, 9), (1, 9)]), (some [(.str []), (.str [])])⟩))
 (.nd 174 (.lf 173 ⟨1, 8, .other, (some [(.raw .nilFunc)])⟩)
 (.lf 174 ⟨1, 8, .other, (some [(.raw .nilFunc)])⟩)))
 (.nd 177 (.nd 176 (.lf 175 ⟨1, 8, .other, (some [(.raw .nilFunc)])⟩)
 (.lf 176 ⟨1, 8, .other, (some [(.raw .nilFunc)])⟩))
 (.nd 178 (.lf 177 ⟨1, 8, .other, (some [(.raw .nilFunc)])⟩)
 (.nd 179 (.lf 178 ⟨1, 8, .other, (some [(.raw .nilFunc)])⟩)
 (.lf 179 ⟨1, 8, .other, (some [(.raw .nilFunc)])⟩)))))
 (.nd 185 (.nd 182 (.nd 181 (.lf 180 ⟨1, 8, (.map 3 3), (some [(.raw (.map none))])⟩)
 (.lf 181 ⟨1, 8, .other, (some [(.raw .nilFunc)])⟩))
 (.nd 183 (.lf 182 ⟨1, 8, .other, (some [(.raw .nilFunc)])⟩)
 (.nd 184 (.lf 183 ⟨1, 8, .other, (some [(.raw .nilFunc)])⟩)
 (.lf 184 ⟨7, 64, (.st [(0, 9), (1, 3), (2, 3), (3, 3), (4, 3), (5, 3), (6, 3)]), (some [(.str []), (.int .i64 0), (.int .i64 0), (.int .i64 0), (.int .i64 0), (.int .i64 0), (.int .i64 0)])⟩))))
 (.nd 187 (.nd 186 (.lf 185 ⟨7, 64, (.st [(0, 9), (1, 3), (2, 3), (3, 3), (4, 3), (5, 3), (6, 3)]), (some [(.str []), (.int .i64 0), (.int .i64 0), (.int .i64 0), (.int .i64 0), (.int .i64 0), (.int .i64 0)])⟩)
 (.lf 186 ⟨1, 8, .other, (some [(.raw .nilFunc)])⟩))
 (.nd 188 (.lf 187 ⟨1, 8, .other, (some [(.raw .nilFunc)])⟩)
 (.nd 189 (.lf 188 ⟨1, 8, .other, (some [(.raw .nilFunc)])⟩)
 (.lf 189 ⟨1, 8, .other, (some [(.raw .nilFunc)])⟩)))))))
 (.nd 209 (.nd 199 (.nd 194 (.nd 192 (.nd 191 (.lf 190 ⟨1, 8, .other, (some [(.raw .nilFunc)])⟩)
 (.lf 191 ⟨1, 8, .other, (some [(.raw .nilFunc)])⟩))
 (.nd 193 (.lf 192 ⟨1, 8, .other, (some [(.raw .nilFunc)])⟩)
 (.lf 193 ⟨1, 8, .other, (some [(.raw .nilFunc)])⟩)))
 (.nd 196 (.nd 195 (.lf 194 ⟨1, 8, .other, (some [(.raw .nilFunc)])⟩)
 (.lf 195 ⟨1, 8, .other, (some [(.raw .nilFunc)])⟩))
 (.nd 197 (.lf 196 ⟨1, 8, (.ptr 5), (some [(.raw (.pointer none))])⟩)
 (.nd 198 (.lf 197 ⟨1, 24, (.sl 152), (some [.nil])⟩)
 (.lf 198 ⟨1, 8, .other, (some [(.raw .nilFunc)])⟩)))))
 (.nd 204 (.nd 201 (.nd 200 (.lf 199 ⟨1, 8, .other, (some [(.raw .nilFunc)])⟩)
 (.lf 200 ⟨1, 8, .other, (some [(.raw .nilFunc)])⟩))
 (.nd 202 (.lf 201 ⟨1, 8, .other, (some [(.raw .nilFunc)])⟩)
 (.nd 203 (.lf 202 ⟨1, 8, .other, (some [(.raw .nilFunc)])⟩)
 (.lf 203 ⟨1, 8, .other, (some [(.raw .nilFunc)])⟩))))
 (.nd 206 (.nd 205 (.lf 204 ⟨1, 8, .other, (some [(.raw .nilFunc)])⟩)
 (.lf 205 ⟨1, 8, .other, (some [(.raw .nilFunc)])⟩))
 (.nd 207 (.lf 206 ⟨1, 0, .other, none⟩)
 (.nd 208 (.lf 207 ⟨1, 8, .other, (some [(.raw .nilFunc)])⟩)
 (.lf 208 ⟨1, 8, .other, (some [(.raw .nilFunc)])⟩))))))
 (.nd 218 (.nd 213 (.nd 211 (.nd 210 (.lf 209 ⟨1, 8, .other, (some [(.raw .nilFunc)])⟩)
 (.lf 210 ⟨1, 8, (.ptr 185), (some [(.raw (.pointer none))])⟩))
 (.nd 212 (.lf 211 ⟨1, 8, .other, (some [(.raw .nilFunc)])⟩)
 (.lf 212 ⟨1, 8, .other, (some [(.raw .nilFunc)])⟩)))
 (.nd 215 (.nd 214 (.lf 213 ⟨1, 8, .other, (some [(.raw .nilFunc)])⟩)
 (.lf 214 ⟨1, 8, .other, (some [(.raw .nilFunc)])⟩))
 (.nd 216 (.lf 215 ⟨1, 8, (.int .i64), (some [(.int .i64 0)])⟩)
 (.nd 217 (.lf 216 ⟨1, 0, .other, none⟩)
 (.lf 217 ⟨1, 8, .other, (some [(.raw .nilFunc)])⟩)))))
 (.nd 223 (.nd 220 (.nd 219 (.lf 218 ⟨1, 8, (.ptr 241), (some [(.raw (.pointer none))])⟩)
 (.lf 219 ⟨1, 8, .other, (some [(.raw .nilFunc)])⟩))
 (.nd 221 (.lf 220 ⟨1, 8, .other, (some [(.raw .nilFunc)])⟩)
 (.nd 222 (.lf 221 ⟨1, 0, .other, none⟩)
 (.lf 222 ⟨1, 8, .other, (some [(.raw .nilFunc)])⟩))))
 (.nd 225 (.nd 224 (.lf 223 ⟨1, 8, .other, (some [(.raw (.pointer none))])⟩)
 (.lf 224 ⟨1, 8, .other, (some [(.raw .nilFunc)])⟩))
 (.nd 226 (.lf 225 ⟨1, 8, .other, (some [(.raw .nilFunc)])⟩)
 (.nd 227 (.lf 226 ⟨1, 8, .other, (some [(.raw .nilFunc)])⟩)
 (.lf 227 ⟨1, 8, (.int .u64), (some [(.int .u64 0)])⟩))))))))
 (.nd 266 (.nd 247 (.nd 237 (.nd 232 (.nd 230 (.nd 229 (.lf 228 ⟨1, 8, .other, (some [(.raw .nilFunc)])⟩)
 (.lf 229 ⟨1, 8, .other, (some [(.raw .nilFunc)])⟩))
 (.nd 231 (.lf 230 ⟨1, 8, .other, (some [(.raw .nilFunc)])⟩)
 (.lf 231 ⟨1, 8, .other, (some [(.raw .nilFunc)])⟩)))
 (.nd 234 (.nd 233 (.lf 232 ⟨1, 8, .other, (some [(.raw .nilFunc)])⟩)
 (.lf 233 ⟨1, 8, .other, (some [(.raw .nilFunc)])⟩))
 (.nd 235 (.lf 234 ⟨1, 8, .other, (some [(.raw .nilFunc)])⟩)
 (.nd 236 (.lf 235 ⟨1, 8, .other, (some [(.raw .nilFunc)])⟩)
 (.lf 236 ⟨1, 8, .other, (some [(.raw .nilFunc)])⟩)))))
 (.nd 242 (.nd 239 (.nd 238 (.lf 237 ⟨1, 8, (.int .u64), (some [(.int .u64 0)])⟩)
 (.lf 238 ⟨1, 0, .other, none⟩))
 (.nd 240 (.lf 239 ⟨1, 8, .other, (some [(.raw .nilFunc)])⟩)
 (.nd 241 (.lf 240 ⟨3, 48, (.st [(0, 9), (1, 9), (2, 115)]), (some [(.str []), (.str []), (.raw .nilIface)])⟩)
 (.lf 241 ⟨3, 48, (.st [(0, 9), (1, 9), (2, 115)]), (some [(.str []), (.str []), (.raw .nilIface)])⟩))))
 (.nd 244 (.nd 243 (.lf 242 ⟨1, 8, .other, (some [(.raw .nilFunc)])⟩)
 (.lf 243 ⟨1, 8, .other, (some [(.raw .nilFunc)])⟩))
 (.nd 245 (.lf 244 ⟨1, 8, .other, (some [(.raw .nilFunc)])⟩)
 (.nd 246 (.lf 245 ⟨1, 8, (.int .i64), (some [(.int .i64 0)])⟩)
 (.lf 246 ⟨1, 0, .other, none⟩))))))
 (.nd 256 (.nd 251 (.nd 249 (.nd 248 (.lf 247 ⟨1, 8, .other, (some [(.raw .nilFunc)])⟩)
 (.lf 248 ⟨1, 8, .other, (some [(.raw .nilFunc)])⟩))
 (.nd 250 (.lf 249 ⟨1, 8, .other, (some [(.raw .nilFunc)])⟩)
 (.lf 250 ⟨1, 8, .other, (some [(.raw .nilFunc)])⟩)))
 (.nd 253 (.nd 252 (.lf 251 ⟨1, 8, .other, (some [(.raw .nilFunc)])⟩)
 (.lf 252 ⟨1, 4, (.int .u32), (some [(.int .u32 0)])⟩))
 (.nd 254 (.lf 253 ⟨1, 8, .other, (some [(.raw .nilFunc)])⟩)
 (.nd 255 (.lf 254 ⟨1, 8, .other, (some [(.raw .nilFunc)])⟩)
 (.lf 255 ⟨1, 8, .other, (some [(.raw .nilFunc)])⟩)))))
 (.nd 261 (.nd 258 (.nd 257 (.lf 256 ⟨1, 8, .other, (some [(.raw .nilFunc)])⟩)
 (.lf 257 ⟨1, 8, .other, (some [(.raw .nilFunc)])⟩))
 (.nd 259 (.lf 258 ⟨1, 8, .other, (some [(.raw .nilFunc)])⟩)
 (.nd 260 (.lf 259 ⟨24, 24, (.arr 24 5), (some [(.int .u8 0), (.int .u8 0), (.int .u8 0), (.int .u8 0), (.int .u8 0), (.int .u8 0), (.int .u8 0), (.int .u8 0), (.int .u8 0), (.int .u8 0), (.int .u8 0), (.int .u8 0), (.int .u8 0), (.int .u8 0), (.int .u8 0), (.int .u8 0), (.int .u8 0), (.int .u8 0), (.int .u8 0), (.int .u8 0), (.int .u8 0), (.int .u8 0), (.int .u8 0), (.int .u8 0)])⟩)
 (.lf 260 ⟨1, 8, .other, (some [(.raw .nilFunc)])⟩))))
 (.nd 263 (.nd 262 (.lf 261 ⟨1, 0, .other, none⟩)
 (.lf 262 ⟨1, 8, .other, (some [(.raw .nilFunc)])⟩))
 (.nd 264 (.lf 263 ⟨1, 8, .other, (some [(.raw .nilFunc)])⟩)
 (.nd 265 (.lf 264 ⟨1, 8, .other, (some [(.raw .nilFunc)])⟩)
 (.lf 265 ⟨1, 8, .other, (some [(.raw .nilFunc)])⟩)))))))
 (.nd 285 (.nd 275 (.nd 270 (.nd 268 (.nd 267 (.lf 266 ⟨1, 8, .other, (some [(.raw .nilFunc)])⟩)
 (.lf 267 ⟨1, 8, (.ptr 269), (some [(.raw (.pointer none))])⟩))
 (.nd 269 (.lf 268 ⟨1, 16, (.st [(0, 9)]), (some [(.str [])])⟩)
 (.lf 269 ⟨1, 16, (.st [(0, 9)]), (some [(.str [])])⟩)))
 (.nd 272 (.nd 271 (.lf 270 ⟨256, 256, (.arr 256 5), none⟩)
 (.lf 271 ⟨2, 2, (.st [(0, 5), (1, 5)]), (some [(.int .u8 0), (.int .u8 0)])⟩))
 (.nd 273 (.lf 272 ⟨2, 2, (.st [(0, 5), (1, 5)]), (some [(.int .u8 0), (.int .u8 0)])⟩)
 (.nd 274 (.lf 273 ⟨32, 32, (.arr 16 272), (some [(.int .u8 0), (.int .u8 0), (.int .u8 0), (.int .u8 0), (.int .u8 0), (.int .u8 0), (.int .u8 0), (.int .u8 0), (.int .u8 0), (.int .u8 0), (.int .u8 0), (.int .u8 0), (.int .u8 0), (.int .u8 0), (.int .u8 0), (.int .u8 0), (.int .u8 0), (.int .u8 0), (.int .u8 0), (.int .u8 0), (.int .u8 0), (.int .u8 0), (.int .u8 0), (.int .u8 0), (.int .u8 0), (.int .u8 0), (.int .u8 0), (.int .u8 0), (.int .u8 0), (.int .u8 0), (.int .u8 0), (.int .u8 0)])⟩)
 (.lf 274 ⟨1, 0, .other, none⟩)))))
 (.nd 280 (.nd 277 (.nd 276 (.lf 275 ⟨1, 8, .other, (some [(.raw .nilFunc)])⟩)
 (.lf 276 ⟨1, 8, (.int .u64), (some [(.int .u64 0)])⟩))
 (.nd 278 (.lf 277 ⟨1, 8, .other, (some [(.raw .nilFunc)])⟩)
 (.nd 279 (.lf 278 ⟨1, 8, .other, (some [(.raw .nilFunc)])⟩)
 (.lf 279 ⟨1, 8, .other, (some [(.raw .nilFunc)])⟩))))
 (.nd 282 (.nd 281 (.lf 280 ⟨1, 8, .other, (some [(.raw .nilFunc)])⟩)
 (.lf 281 ⟨1, 8, .other, (some [(.raw .nilFunc)])⟩))
 (.nd 283 (.lf 282 ⟨1, 8, .other, (some [(.raw .nilFunc)])⟩)
 (.nd 284 (.lf 283 ⟨1, 8, .other, (some [(.raw .nilFunc)])⟩)
 (.lf 284 ⟨20, 160, (.arr 20 237), (some [(.int .u64 0), (.int .u64 0), (.int .u64 0), (.int .u64 0), (.int .u64 0), (.int .u64 0), (.int .u64 0), (.int .u64 0), (.int .u64 0), (.int .u64 0), (.int .u64 0), (.int .u64 0), (.int .u64 0), (.int .u64 0), (.int .u64 0), (.int .u64 0), (.int .u64 0), (.int .u64 0), (.int .u64 0), (.int .u64 0)])⟩))))))
 (.nd 294 (.nd 289 (.nd 287 (.nd 286 (.lf 285 ⟨65, 65, (.arr 65 5), none⟩)
 (.lf 286 ⟨1, 8, (.ptr 276), (some [(.raw (.pointer none))])⟩))
 (.nd 288 (.lf 287 ⟨1, 0, .other, none⟩)
 (.lf 288 ⟨1, 8, .other, (some [(.raw .nilFunc)])⟩)))
 (.nd 291 (.nd 290 (.lf 289 ⟨1, 8, .other, (some [(.raw .nilFunc)])⟩)
 (.lf 290 ⟨32, 32, (.arr 32 5), (some [(.int .u8 0), (.int .u8 0), (.int .u8 0), (.int .u8 0), (.int .u8 0), (.int .u8 0), (.int .u8 0), (.int .u8 0), (.int .u8 0), (.int .u8 0), (.int .u8 0), (.int .u8 0), (.int .u8 0), (.int .u8 0), (.int .u8 0), (.int .u8 0), (.int .u8 0), (.int .u8 0), (.int .u8 0), (.int .u8 0), (.int .u8 0), (.int .u8 0), (.int .u8 0), (.int .u8 0), (.int .u8 0), (.int .u8 0), (.int .u8 0), (.int .u8 0), (.int .u8 0), (.int .u8 0), (.int .u8 0), (.int .u8 0)])⟩))
 (.nd 292 (.lf 291 ⟨64, 64, (.arr 64 5), (some [(.int .u8 0), (.int .u8 0), (.int .u8 0), (.int .u8 0), (.int .u8 0), (.int .u8 0), (.int .u8 0), (.int .u8 0), (.int .u8 0), (.int .u8 0), (.int .u8 0), (.int .u8 0), (.int .u8 0), (.int .u8 0), (.int .u8 0), (.int .u8 0), (.int .u8 0), (.int .u8 0), (.int .u8 0), (.int .u8 0), (.int .u8 0), (.int .u8 0), (.int .u8 0), (.int .u8 0), (.int .u8 0), (.int .u8 0), (.int .u8 0), (.int .u8 0), (.int .u8 0), (.int .u8 0), (.int .u8 0), (.int .u8 0), (.int .u8 0), (.int .u8 0), (.int .u8 0), (.int .u8 0), (.int .u8 0), (.int .u8 0), (.int .u8 0), (.int .u8 0), (.int .u8 0), (.int .u8 0), (.int .u8 0), (.int .u8 0), (.int .u8 0), (.int .u8 0), (.int .u8 0), (.int .u8 0), (.int .u8 0), (.int .u8 0), (.int .u8 0), (.int .u8 0), (.int .u8 0), (.int .u8 0), (.int .u8 0), (.int .u8 0), (.int .u8 0), (.int .u8 0), (.int .u8 0), (.int .u8 0), (.int .u8 0), (.int .u8 0), (.int .u8 0), (.int .u8 0)])⟩)
 (.nd 293 (.lf 292 ⟨4, 40, (.st [(0, 17), (1, 17), (2, 17), (3, 9)]), (some [(.raw (.pointer none)), (.raw (.pointer none)), (.raw (.pointer none)), (.str [])])⟩)
 (.lf 293 ⟨4, 40, (.st [(0, 17), (1, 17), (2, 17), (3, 9)]), (some [(.raw (.pointer none)), (.raw (.pointer none)), (.raw (.pointer none)), (.str [])])⟩)))))
 (.nd 299 (.nd 296 (.nd 295 (.lf 294 ⟨0, 0, (.arr 0 16), (some [])⟩)
 (.lf 295 ⟨0, 0, (.st [(0, 294)]), (some [])⟩))
 (.nd 297 (.lf 296 ⟨0, 0, (.st [(0, 294)]), (some [])⟩)
 (.nd 298 (.lf 297 ⟨1, 1, (.int .u8), (some [(.int .u8 0)])⟩)
 (.lf 298 ⟨1, 1, (.int .u8), (some [(.int .u8 0)])⟩))))
 (.nd 301 (.nd 300 (.lf 299 ⟨1, 8, .other, (some [(.raw .nilFunc)])⟩)
 (.lf 300 ⟨1, 4, (.int .i32), (some [(.int .i32 0)])⟩))
 (.nd 302 (.lf 301 ⟨1, 4, (.int .i32), (some [(.int .i32 0)])⟩)
 (.nd 303 (.lf 302 ⟨11, 48, (.st [(0, 12), (1, 12), (2, 252), (3, 297), (4, 5), (5, 5), (6, 298), (7, 299), (8, 196), (9, 300), (10, 301)]), (some [(.int .u64 0), (.int .u64 0), (.int .u32 0), (.int .u8 0), (.int .u8 0), (.int .u8 0), (.int .u8 0), (.raw .nilFunc), (.raw (.pointer none)), (.int .i32 0), (.int .i32 0)])⟩)
 (.lf 303 ⟨11, 48, (.st [(0, 12), (1, 12), (2, 252), (3, 297), (4, 5), (5, 5), (6, 298), (7, 299), (8, 196), (9, 300), (10, 301)]), (some [(.int .u64 0), (.int .u64 0), (.int .u32 0), (.int .u8 0), (.int .u8 0), (.int .u8 0), (.int .u8 0), (.raw .nilFunc), (.raw (.pointer none)), (.int .i32 0), (.int .i32 0)])⟩))))))))))
theorem lay_fits : lay.fits Tryz.prog = true := by kernel_rfl
theorem layOk : LOk Tryz.prog lay.get := Tr.ok lay_fits
theorem mixed : Tryz.prog.follows .mixedOrders = true := by kernel_rfl
theorem powNamed : ∃ g, Tryz.prog.globalNamed "internal/strconv.uint64pow10" = some g := by
  refine ⟨(Tryz.prog.globalNamed "internal/strconv.uint64pow10").getD 0, ?_⟩
  kernel_rfl
instance : Globs := ⟨fun w => Lib.TabIs Tryz.prog w "internal/strconv.uint64pow10" .u64 Lib.pow10Tab, fun _ _ h hb => by obtain ⟨g, hg⟩ := powNamed; exact Joins.tab_stays hg h hb (Nat.le_refl _)⟩
theorem pow_of {w : World} (h : Globs.glob w) : Lib.TabIs Tryz.prog w "internal/strconv.uint64pow10" .u64 Lib.pow10Tab := h
end Go.Pv

/- Steps, continued: the case split where a boolean comes to be, and the ends of functions. -/
namespace Go.Pv
open Go.RowKit
variable [Globs]

section
variable {P : Program} {L : Lay} {Q : Exit → St → Prop} {K : St → Prop} {s : St} {ops : Array Oper} {rest : List Oper} {o : Oper}
variable {d e j : Nat} {op : Op} {ty : TypeId} {pos : String} {af : Array Edge} {want : Bool} {g : Option (Nat × Bool)}

theorem op_case {b : Bool} {Cd : Prop} (hq : qv L s op = some (.bool b, Cd)) (hc : Cd) (h1 : b = true → K (s.putR d (.bool true))) (h0 : b = false → K (s.putR d (.bool false))) : POp P L s ⟨some d, op, ty, pos, af, g⟩ K := by
  cases b
  · exact op_v hq hc (h0 rfl)
  · exact op_v hq hc (h1 rfl)
theorem op_qcase {b : Bool} (hq : QOp P L s ⟨some d, op, ty, pos, af, g⟩ (.bool b)) (h1 : b = true → K (s.putR d (.bool true))) (h0 : b = false → K (s.putR d (.bool false))) : POp P L s ⟨some d, op, ty, pos, af, g⟩ K := by
  cases b
  · exact op_q hq (h0 rfl)
  · exact op_q hq (h1 rfl)
theorem ps_case {b : Bool} {Cd : Prop} (hq : qv L s op = some (.bool b, Cd)) (hc : Cd) (h1 : b = true → POps P L ops K rest (s.putR d (.bool true))) (h0 : b = false → POps P L ops K rest (s.putR d (.bool false))) : POps P L ops K (⟨some d, op, ty, pos, af, none⟩ :: rest) s := ps_run (op_case hq hc h1 h0)
theorem ps_qcase {b : Bool} (hq : QOp P L s ⟨some d, op, ty, pos, af, none⟩ (.bool b)) (h1 : b = true → POps P L ops K rest (s.putR d (.bool true))) (h0 : b = false → POps P L ops K rest (s.putR d (.bool false))) : POps P L ops K (⟨some d, op, ty, pos, af, none⟩ :: rest) s := ps_run (op_qcase hq h1 h0)
theorem pq_qcase {b : Bool} (hq : QOp P L s ⟨some d, op, ty, pos, af, none⟩ (.bool b)) (h1 : b = true → PQuiet P L ops K rest (s.putR d (.bool true))) (h0 : b = false → PQuiet P L ops K rest (s.putR d (.bool false))) : PQuiet P L ops K (⟨some d, op, ty, pos, af, none⟩ :: rest) s := by
  cases b
  · exact pq_q hq (h0 rfl)
  · exact pq_q hq (h1 rfl)
theorem pq_case {b : Bool} {Cd : Prop} (hq : qv L s op = some (.bool b, Cd)) (hc : Cd) (h1 : b = true → PQuiet P L ops K rest (s.putR d (.bool true))) (h0 : b = false → PQuiet P L ops K rest (s.putR d (.bool false))) : PQuiet P L ops K (⟨some d, op, ty, pos, af, none⟩ :: rest) s := pq_qcase (.v hq hc) h1 h0
theorem pq_yescase {b : Bool} (hd : (ops[j]?).bind (·.dst) = some e) (hr : s.reg e = .bool want) (hq : QOp P L s ⟨some d, op, ty, pos, af, some (j, want)⟩ (.bool b)) (h1 : b = true → PQuiet P L ops K rest (s.putR d (.bool true))) (h0 : b = false → PQuiet P L ops K rest (s.putR d (.bool false))) :
    PQuiet P L ops K (⟨some d, op, ty, pos, af, some (j, want)⟩ :: rest) s := by
  cases b
  · exact pq_yes hd hr hq (h0 rfl)
  · exact pq_yes hd hr hq (h1 rfl)
theorem ps_yesv {pv : PV} {Cd : Prop} (hd : (ops[j]?).bind (·.dst) = some e) (hr : s.reg e = .bool want) (hq : qv L s op = some (pv, Cd)) (hc : Cd) (h : POps P L ops K rest (s.putR d pv)) : POps P L ops K (⟨some d, op, ty, pos, af, some (j, want)⟩ :: rest) s :=
  ps_yes hd hr (op_v hq hc h)

theorem putR_same {b : Bool} (hr : s.reg e = .bool b) : s.putR e (.bool b) = s := by
  refine St.ext' ?_ rfl
  funext t
  show (bif Nat.beq t e then PV.bool b else s.reg t) = s.reg t
  by_cases ht : t = e
  · subst ht; simp [hr]
  · simp [nbeq_ne ht]
/-- The split at a guard. -/
theorem ps_split {b : Bool} (_hd : (ops[j]?).bind (·.dst) = some e) (hr : s.reg e = .bool b) (h1 : b = true → POps P L ops K (⟨some d, op, ty, pos, af, some (j, want)⟩ :: rest) (s.putR e (.bool true))) (h0 : b = false → POps P L ops K (⟨some d, op, ty, pos, af, some (j, want)⟩ :: rest) (s.putR e (.bool false))) :
    POps P L ops K (⟨some d, op, ty, pos, af, some (j, want)⟩ :: rest) s := by
  have := putR_same hr
  cases b
  · have h := h0 rfl; rwa [this] at h
  · have h := h1 rfl; rwa [this] at h
theorem pq_split {b : Bool} (_hd : (ops[j]?).bind (·.dst) = some e) (hr : s.reg e = .bool b) (h1 : b = true → PQuiet P L ops K (⟨some d, op, ty, pos, af, some (j, want)⟩ :: rest) (s.putR e (.bool true))) (h0 : b = false → PQuiet P L ops K (⟨some d, op, ty, pos, af, some (j, want)⟩ :: rest) (s.putR e (.bool false))) :
    PQuiet P L ops K (⟨some d, op, ty, pos, af, some (j, want)⟩ :: rest) s := by
  have := putR_same hr
  cases b
  · have h := h0 rfl; rwa [this] at h
  · have h := h1 rfl; rwa [this] at h
/-- A nil slice that is to be appended to: an empty site of its own. -/
theorem o_nilm {x : Operand} {gn : Nat} {oc : Option Cont} (T : TypeId) (sz kd : Nat) (hx : s.ev x = .nil) (hown : s.own d = (gn, oc)) (h : K ((s.setOwn d (gn + 1) (some ⟨T, sz, [], kd⟩)).putR d (.als d (gn + 1) 0 0))) : POp P L s ⟨some d, .move x, ty, pos, af, g⟩ K := by
  refine .inr (.inl ⟨_, .nils T sz kd (.inl rfl) rfl hx, ?_⟩)
  rw [St.fin, hown]; exact h
theorem o_nila {x : Operand} {gn : Nat} {oc : Option Cont} (T : TypeId) (sz kd : Nat) (hx : s.ev x = .nil) (hown : s.own d = (gn, oc)) (h : K ((s.setOwn d (gn + 1) (some ⟨T, sz, [], kd⟩)).putR d (.als d (gn + 1) 0 0))) : POp P L s ⟨some d, .assign x, ty, pos, af, g⟩ K := by
  refine .inr (.inl ⟨_, .nils T sz kd (.inr rfl) rfl hx, ?_⟩)
  rw [St.fin, hown]; exact h

/-- A slice literal of data that is only read. -/
theorem q_slit {T E : TypeId} {r re : LRow} {n : Nat} {ps : List (Nat × Operand)} {rows : List (List PV)} {Pr : Prop} (hr : L T = some r) (hs : r.sh = .sl E) (hre : L E = some re) (hz : re.zero.isSome = true) (hsz : Nat.blt 0 re.size = true) (hrows : litRows s 0 ps = some rows)
    (hn : ps.map (·.1) = nats 0 n) (hN : Nat.ble (n * re.size) 16777216 = true) (hcells : ps.all (fun p => Nat.beq (s.ev p.2).cells.length re.size) = true) (h1 : oneL s (ps.flatMap fun p => (s.ev p.2).cells) = some Pr) (h2 : Pr) (hkd : (ps.flatMap fun p => (s.ev p.2).cells).all (kOk 0) = true) :
    QOp P L s ⟨some d, .buildSlice T n ps.toArray, ty, pos, af, g⟩ (.fsl rows) := by
  have := QOp.slit (P := P) (L := L) (s := s) (o := ⟨some d, .buildSlice T n ps.toArray, ty, pos, af, g⟩) rfl hr hs hre hz (by simpa using hsz) (by rw [nats_range] at hn; simpa using hn) (by simpa using hN) (fun p hp => by
    have := List.all_eq_true.1 hcells p (by simpa using hp)
    simpa using this) h1 h2 hkd
  rw [litRows_eq 0 ps rows hrows]
  exact this

/-- Made slices that are only read. -/
theorem q_mks {T E : TypeId} {r re : LRow} {l c : Operand} {kl kc : IntKind} {n : Int} {z : List PV} (hr : L T = some r) (hs : r.sh = .sl E) (hre : L E = some re) (hz : re.zero = some z) (hsz : Nat.blt 0 re.size = true) (hl : s.ev l = .int kl n) (hc : s.ev c = .int kc n)
    (h0 : 0 ≤ n) (hb : (re.bytes : Int) * n ≤ 140737488355328) (h63 : n ≤ 9223372036854775807) : QOp P L s ⟨some d, .makeSlice T l c, ty, pos, af, g⟩ (.fsl (List.replicate n.toNat z)) :=
  .mks rfl hr hs hre hz (by simpa using hsz) hl hc h0 hb h63

/-! ### The end of a function -/
variable {fn : Func} {r : PV}
theorem end1 {t : Nat} {v d : PV} {Cd : Prop} {fl : Fl} (h : fn.results.toList = [.tmp t]) (hv : (s.reg t).fz = some v) (hres : res s 5 v = some (d, Cd, fl)) (hc : Cd) (hd : d = r) : RetPost L fn .shared r .ret s := by
  rw [PV.fz_eq] at hv
  have hv := Option.some.inj hv
  subst hv
  exact ⟨[s.reg t], True ∧ True, d, Cd, fl, by rw [h]; rfl, ⟨trivial, trivial⟩, hres, hc, trivial, hd⟩
theorem end1b {t : Nat} {b : Bool} (h : fn.results.toList = [.tmp t]) (hv : s.reg t = .bool b) (hd : PV.bool b = r) : RetPost L fn .shared r .ret s :=
  end1 h (v := .bool b) (by rw [hv]; rfl) rfl trivial hd
theorem end1i {t : Nat} {k : IntKind} {n : Int} (h : fn.results.toList = [.tmp t]) (hv : s.reg t = .int k n) (hd : PV.int k n = r) : RetPost L fn .shared r .ret s :=
  end1 h (v := .int k n) (by rw [hv]; rfl) rfl trivial hd
/-- Two results. -/
theorem end2 {t1 t2 : Nat} {v1 v2 d1 d2 : PV} {C1 C2 : Prop} {f1 f2 : Fl} (h : fn.results.toList = [.tmp t1, .tmp t2]) (h1 : (s.reg t1).fz = some v1) (h2 : (s.reg t2).fz = some v2) (r1 : res s 4 v1 = some (d1, C1, f1)) (r2 : res s 4 v2 = some (d2, C2, f2)) (c1 : C1) (c2 : C2)
    (hd : PV.tup [d1, d2] = r) : RetPost L fn .shared r .ret s := by
  rw [PV.fz_eq] at h1 h2
  have h1 := Option.some.inj h1
  have h2 := Option.some.inj h2
  subst h1 h2
  refine ⟨[s.reg t1, s.reg t2], True ∧ True ∧ True, .tup [d1, d2], C1 ∧ C2 ∧ True, f1.and (f2.and ⟨true, true⟩), by rw [h]; rfl, ⟨trivial, trivial, trivial⟩, ?_, ⟨c1, c2, trivial⟩, trivial, hd⟩
  show (match resL (res s 4) [s.reg t1, s.reg t2] with | some (ds, C1, b) => some (PV.tup ds, C1, b) | none => none) = _
  simp only [resL, r1, r2]
/-- What comes back lies in new memory alone. -/
theorem end1f {t : Nat} {v d : PV} {Cd : Prop} {c : Bool} (h : fn.results.toList = [.tmp t]) (hv : (s.reg t).fz = some v) (hres : res s 5 v = some (d, Cd, ⟨c, true⟩)) (hc : Cd) (hd : d = r) : RetPost L fn .fresh r .ret s := by
  rw [PV.fz_eq] at hv
  have hv := Option.some.inj hv
  subst hv
  exact ⟨[s.reg t], True ∧ True, d, Cd, ⟨c, true⟩, by rw [h]; rfl, ⟨trivial, trivial⟩, hres, hc, rfl, hd⟩
theorem end2f {t1 t2 : Nat} {v1 v2 d1 d2 : PV} {C1 C2 : Prop} {b1 b2 : Bool} (h : fn.results.toList = [.tmp t1, .tmp t2]) (h1 : (s.reg t1).fz = some v1) (h2 : (s.reg t2).fz = some v2) (r1 : res s 4 v1 = some (d1, C1, ⟨b1, true⟩)) (r2 : res s 4 v2 = some (d2, C2, ⟨b2, true⟩)) (c1 : C1) (c2 : C2)
    (hd : PV.tup [d1, d2] = r) : RetPost L fn .fresh r .ret s := by
  rw [PV.fz_eq] at h1 h2
  have h1 := Option.some.inj h1
  have h2 := Option.some.inj h2
  subst h1 h2
  refine ⟨[s.reg t1, s.reg t2], True ∧ True ∧ True, .tup [d1, d2], C1 ∧ C2 ∧ True, (⟨b1, true⟩ : Fl).and ((⟨b2, true⟩ : Fl).and ⟨true, true⟩), by rw [h]; rfl, ⟨trivial, trivial, trivial⟩, ?_, ⟨c1, c2, trivial⟩, rfl, hd⟩
  show (match resL (res s 4) [s.reg t1, s.reg t2] with | some (ds, C1, b) => some (PV.tup ds, C1, b) | none => none) = _
  simp only [resL, r1, r2]
end

/-! ### Cuts: what is known in the middle -/
section
variable {P : Program} {L : Lay} {Q : Exit → St → Prop} {K : St → Prop} {s : St} {ops : Array Oper}
theorem POps.app {K : St → Prop} : ∀ (l1 l2 : List Oper) (s : St), POps P L ops (fun s' => POps P L ops K l2 s') l1 s → POps P L ops K (l1 ++ l2) s
  | [], _, _, h => h
  | _ :: l1, l2, _, h => h.imp (fun x => ⟨x.1, x.2.mono fun s' h' => POps.app l1 l2 s' h'⟩) fun x => ⟨x.1, POps.app l1 l2 _ x.2⟩
theorem PQuiet.app {K : St → Prop} : ∀ (l1 l2 : List Oper) (s : St), PQuiet P L ops (fun s' => PQuiet P L ops K l2 s') l1 s → PQuiet P L ops K (l1 ++ l2) s
  | [], _, _, h => h
  | _ :: l1, l2, _, h => h.imp (fun ⟨x, pv, y, z⟩ => ⟨x, pv, y, PQuiet.app l1 l2 _ z⟩) fun x => ⟨x.1, PQuiet.app l1 l2 _ x.2⟩
theorem ps_cut {l : List Oper} (n : Nat) (regs : List (Nat × PV)) (owns : List (Nat × Nat × Cont)) (h1 : POps P L ops (fun s' => Fit s' regs owns) (l.take n) s) (h2 : ∀ s : St, POps P L ops K (l.drop n) (s.over regs owns)) : POps P L ops K l s := by
  have := POps.app (K := K) (l.take n) (l.drop n) s (h1.mono (fun s' hf => by have := h2 s'; rwa [hf.over] at this) _ _)
  rwa [List.take_append_drop] at this
theorem pq_cut {l : List Oper} (n : Nat) (regs : List (Nat × PV)) (owns : List (Nat × Nat × Cont)) (h1 : PQuiet P L ops (fun s' => Fit s' regs owns) (l.take n) s) (h2 : ∀ s : St, PQuiet P L ops K (l.drop n) (s.over regs owns)) : PQuiet P L ops K l s := by
  have := PQuiet.app (K := K) (l.take n) (l.drop n) s (h1.mono (fun s' hf => by have := h2 s'; rwa [hf.over] at this) _ _)
  rwa [List.take_append_drop] at this
theorem ps_cutP {l : List Oper} (X : Prop) (n : Nat) (regs : List (Nat × PV)) (owns : List (Nat × Nat × Cont)) (h1 : POps P L ops (fun s' => X ∧ Fit s' regs owns) (l.take n) s) (h2 : X → ∀ s : St, POps P L ops K (l.drop n) (s.over regs owns)) : POps P L ops K l s := by
  have := POps.app (K := K) (l.take n) (l.drop n) s (h1.mono (fun s' hf => by have := h2 hf.1 s'; rwa [hf.2.over] at this) _ _)
  rwa [List.take_append_drop] at this
theorem pq_cutP {l : List Oper} (X : Prop) (n : Nat) (regs : List (Nat × PV)) (owns : List (Nat × Nat × Cont)) (h1 : PQuiet P L ops (fun s' => X ∧ Fit s' regs owns) (l.take n) s) (h2 : X → ∀ s : St, PQuiet P L ops K (l.drop n) (s.over regs owns)) : PQuiet P L ops K l s := by
  have := PQuiet.app (K := K) (l.take n) (l.drop n) s (h1.mono (fun s' hf => by have := h2 hf.1 s'; rwa [hf.2.over] at this) _ _)
  rwa [List.take_append_drop] at this
theorem pw_cutP {x y : Code} (X : Prop) (regs : List (Nat × PV)) (owns : List (Nat × Nat × Cont)) (h1 : PWP P L x (XThen (fun s' => X ∧ Fit s' regs owns) Q) s) (h2 : X → ∀ s : St, PWP P L y Q (s.over regs owns)) : PWP P L (.seq x y) Q s := by
  refine pw_seq (PWP.mono ?_ _ h1)
  intro e s' h
  cases e
  case normal =>
    have := h2 h.1 s'
    rwa [Fit.over h.2] at this
  all_goals exact h
/-- Between two pieces of code. -/
theorem pw_cut {x y : Code} (regs : List (Nat × PV)) (owns : List (Nat × Nat × Cont)) (h1 : PWP P L x (XThen (fun s' => Fit s' regs owns) Q) s) (h2 : ∀ s : St, PWP P L y Q (s.over regs owns)) : PWP P L (.seq x y) Q s := by
  refine pw_seq (PWP.mono ?_ _ h1)
  intro e s' h
  cases e
  case normal =>
    have := h2 s'
    rwa [Fit.over h] at this
  all_goals exact h
end

/-! ### Reckoning with 64 bits -/
theorem wrap_i64 {n : Int} (h1 : -9223372036854775808 ≤ n) (h2 : n ≤ 9223372036854775807) : IntKind.i64.wrap n = n := by
  rw [IntKind.wrap_i64]; omega
theorem i64_next {n : Int} (h1 : -9223372036854775808 ≤ n) (h2 : n < 9223372036854775807) : PV.int .i64 (IntKind.i64.wrap (n + 1)) = .int .i64 (n + 1) := by rw [wrap_i64 (by omega) (by omega)]
theorem get_lt {α : Type} {l : List α} {k : Nat} (h : k < l.length) : ∃ x, l[k]? = some x := ⟨l[k], List.getElem?_eq_getElem h⟩
end Go.Pv

/- Steps that the machine does not take: lists within lists. -/
namespace Go.Pv
open Go.RowKit
variable [Globs]

section
variable {C : Ctx} {γ : Nat → Option Nat} {s : St} {a : Act} {w : World}

theorem envOf_recell {k0 g0 : Nat} {c0 c1 : Cont} (ho : s.own k0 = (g0, some c0)) (ht : c1.ty = c0.ty) (hs : c1.sz = c0.sz) (hl : c1.rows.length = c0.rows.length) :
    envOf C γ (s.setOwn k0 g0 (some c1)) w = envOf C γ s w := by
  have hown : ∀ k, ((s.setOwn k0 g0 (some c1)).own k).1 = (s.own k).1 ∧ (((s.setOwn k0 g0 (some c1)).own k).2.map fun c => (⟨γ k, c.ty, c.sz, c.rows.length⟩ : SLoc)) = (s.own k).2.map fun c => (⟨γ k, c.ty, c.sz, c.rows.length⟩ : SLoc) := by
    intro k
    by_cases hk : k = k0
    · subst hk; rw [setOwn_same, ho]; simp [ht, hs, hl]
    · rw [setOwn_ne hk]; exact ⟨rfl, rfl⟩
  have hok : ∀ b, okOf C γ (s.setOwn k0 g0 (some c1)) w b = okOf C γ s w b := by
    intro b
    refine propext ⟨fun h => ⟨h.1, h.2.1, fun k c hc => ?_⟩, fun h => ⟨h.1, h.2.1, fun k c hc => ?_⟩⟩
    · by_cases hk : k = k0
      · subst hk; exact h.2.2 k c1 (by rw [setOwn_same])
      · exact h.2.2 k c (by rw [setOwn_ne hk]; exact hc)
    · by_cases hk : k = k0
      · subst hk; exact h.2.2 k c0 (by rw [ho])
      · rw [setOwn_ne hk] at hc; exact h.2.2 k c hc
  unfold envOf
  congr 1
  · funext b; exact hok b
  · funext b; rw [hok b]
  · funext k; exact (hown k).1
  · funext k; exact (hown k).2

theorem SiteOk.rowlen {E : Env} {blk : Option Nat} {c : Cont} (h : SiteOk E blk c) (hz : 0 < c.sz) : ∀ r ∈ c.rows, r.length = c.sz := by
  intro r hr
  cases blk with
  | none => rw [h.emp rfl] at hr; cases hr
  | some b => obtain ⟨cur, _, _, _, f4, _⟩ := h.at_ b rfl hz; exact f4 r hr
/-- Other words for the cells of a site. -/
theorem Sim.recell (h : Sim C γ s a w) {k0 g0 : Nat} {c0 c1 : Cont} (ho : s.own k0 = (g0, some c0)) (ht : c1.ty = c0.ty) (hs : c1.sz = c0.sz) (hz0 : 0 < c0.sz) (hl : c1.rows.length = c0.rows.length) (hrl : ∀ row ∈ c1.rows, row.length = c1.sz)
    (hcell : ∀ (i j : Nat) (row1 : List PV) (pv1 : PV), c1.rows[i]? = some row1 → row1[j]? = some pv1 → ∃ row0 pv0, c0.rows[i]? = some row0 ∧ row0[j]? = some pv0 ∧ ∀ v, KRep (envOf C γ s w) c0.kind pv0 v → KRep (envOf C γ s w) c1.kind pv1 v) :
    Sim C γ (s.setOwn k0 g0 (some c1)) a w := by
  have he := envOf_recell (C := C) (γ := γ) (w := w) ho ht hs hl
  have hsome : ∀ k c, ((s.setOwn k0 g0 (some c1)).own k).2 = some c → ∃ c', (s.own k).2 = some c' := by
    intro k c hc
    by_cases hk : k = k0
    · subst hk; exact ⟨c0, by rw [ho]⟩
    · rw [setOwn_ne hk] at hc; exact ⟨c, hc⟩
  refine ⟨h.defers, h.size, fun r => by rw [he]; exact h.regs r, fun k c hc => ?_, fun k k' c c' b e1 e2 e3 e4 => ?_, fun k c b e1 e2 => ?_, h.below, h.top, fun c v hk => by rw [he]; exact h.kept c v hk⟩
  · rw [he]
    by_cases hk : k = k0
    · subst hk
      rw [setOwn_same] at hc
      have hc : c1 = c := Option.some.inj hc
      subst hc
      have hsite := h.sites k c0 (by rw [ho])
      refine ⟨fun hb => ?_, (fun b _ hz => by omega), (fun b _ hz => by omega), fun b hb _ => ?_⟩
      · have := hsite.emp hb
        exact List.eq_nil_of_length_eq_zero (by rw [hl, this]; rfl)
      · obtain ⟨cur, f1, f2, f3, f4, f5⟩ := hsite.at_ b hb hz0
        refine ⟨cur, by rw [ht]; exact f1, by rw [hs]; exact f2, by rw [hl, hs]; exact f3, hrl, fun i j row pv e1 e2 => ?_⟩
        obtain ⟨row0, pv0, g1, g2, g3⟩ := hcell i j row pv e1 e2
        obtain ⟨v, u1, u2, u3⟩ := f5 i j row0 pv0 g1 g2
        exact ⟨v, by rw [hs]; exact u1, u2, g3 v u3⟩
    · rw [setOwn_ne hk] at hc
      exact h.sites k c hc
  · obtain ⟨d, hd⟩ := hsome k c e1
    obtain ⟨d', hd'⟩ := hsome k' c' e2
    exact h.inj k k' d d' b hd hd' e3 e4
  · obtain ⟨d, hd⟩ := hsome k c e1
    exact h.base k d b hd e2

/-- A site given up: its memory may be read as data from now on. -/
theorem Sim.drop (hX : ∀ b, C.X b → b < C.B) (h : Sim C γ s a w) {k g : Nat} {c : Cont} (ho : s.own k = (g, some c)) :
    Sim C γ (s.setOwn k (g + 1) none) a w ∧ (envOf C γ s w).Le (envOf C γ (s.setOwn k (g + 1) none) w) ∧
      (c.kind = 0 → ∀ v, Rep (envOf C γ s w) (.als k g 0 c.rows.length) v → DRep w (envOf C γ (s.setOwn k (g + 1) none) w).okf (.sl c.rows) v) := by
  have hok : ∀ b, okOf C γ s w b → okOf C γ (s.setOwn k (g + 1) none) w b := fun b hb => ⟨hb.1, hb.2.1, fun k' c' hc' => by
    by_cases hk : k' = k
    · subst hk; rw [setOwn_same] at hc'; cases hc'
    · rw [setOwn_ne hk] at hc'; exact hb.2.2 k' c' hc'⟩
  have hle : (envOf C γ s w).Le (envOf C γ (s.setOwn k (g + 1) none) w) := by
    refine ⟨hok, fun b hb => ⟨hb.1, hok b hb.2⟩, fun b hb => hb.2, fun b o v _ hc => hc, fun b es n _ hc => hc, fun k' => ?_, fun k' l' hg hl => ?_, fun k' l' b cur hg hl hb hh => ⟨cur, hh, rfl⟩⟩
    · show (s.own k').1 ≤ ((s.setOwn k (g + 1) none).own k').1
      by_cases hk : k' = k
      · subst hk; rw [setOwn_same, ho]; simp
      · rw [setOwn_ne hk]; exact Nat.le_refl _
    · by_cases hk : k' = k
      · subst hk
        simp only [envOf, setOwn_same, Option.map_none] at hl
        cases hl
      · refine ⟨l', ?_, rfl, rfl, rfl, Nat.le_refl _⟩
        simp only [envOf, setOwn_ne hk] at hl ⊢
        exact hl
  refine ⟨⟨h.defers, h.size, fun r => (h.regs r).mono hle, fun k' c' hc' => ?_, fun k1 k2 c1 c2 b e1 e2 e3 e4 => ?_, fun k' c' b e1 e2 => ?_, h.below, h.top, fun c v hk => (h.kept c v hk).mono hle⟩, hle, fun hk v hv => ?_⟩
  · by_cases hk : k' = k
    · subst hk; rw [setOwn_same] at hc'; cases hc'
    · rw [setOwn_ne hk] at hc'
      exact (h.sites k' c' hc').mono hle fun b hb => rfl
  · have hne : ∀ {k' c'}, ((s.setOwn k (g + 1) none).own k').2 = some c' → (s.own k').2 = some c' := by
      intro k' c' hc'
      by_cases hk : k' = k
      · subst hk; rw [setOwn_same] at hc'; cases hc'
      · rwa [setOwn_ne hk] at hc'
    exact h.inj k1 k2 c1 c2 b (hne e1) (hne e2) e3 e4
  · by_cases hk : k' = k
    · subst hk; rw [setOwn_same] at e1; cases e1
    · rw [setOwn_ne hk] at e1; exact h.base k' c' b e1 e2
  · rcases h.als_at hv ho with ⟨h1, _, h3, rfl⟩ | ⟨b, cap, cur, h1, rfl, h3, h4, h5, h6, h7⟩
    · have : c.rows = [] := (h.sites k c (by rw [ho])).emp h1
      rw [this]
      exact .sl0 _ _
    · obtain ⟨cur', g1, g2, g3, g4, g5⟩ := h.site_at ho h1 (h.cells_sz ho h1 h3)
      have hb : (envOf C γ (s.setOwn k (g + 1) none) w).okf b := by
        have hbase := h.base k c b (by rw [ho]) h1
        refine ⟨hbase.1, hbase.2, fun hx => ?_, fun k' c' hc' hb' => ?_⟩
        · have := hX b hx; omega
        · by_cases hk' : k' = k
          · subst hk'; rw [setOwn_same] at hc'; cases hc'
          · rw [setOwn_ne hk'] at hc'
            exact hk' (h.inj k' k c' c b hc' (by rw [ho]) hb' h1)
      simp only [Nat.zero_mul]
      refine .sl c.rows b 0 cap c.sz (fun i j => cur'.getD (i * c.sz + j) undef) hb g2 h4 g4 (fun i j row pv e1 e2 => ?_) (fun i j row pv e1 e2 => ?_)
      · obtain ⟨u, f1, f2, _⟩ := g5 i j row pv e1 e2
        rw [cell_of_cells g1, Nat.zero_add, f1]
        simp [f1, f2]
      · obtain ⟨u, f1, _, f3⟩ := g5 i j row pv e1 e2
        have : cur'.getD (i * c.sz + j) undef = u := by simp [f1]
        simp only [this]
        rw [hk] at f3
        exact hle.drepf f3
end

section
variable {s : St}

/-- A site given up, whatever it held. -/
theorem Ghost.drop {k g : Nat} {oc : Option Cont} (ho : s.own k = (g, oc)) : Ghost s (s.setOwn k (g + 2) none) := by
  intro C a w hX ⟨γ, h⟩
  have ht : Turn C γ s w w k none := ⟨rfl, rfl, rfl, Nat.le_refl _, fun b _ => .inl rfl, fun b hb => by cases hb⟩
  have h1 := ht.sim h (c := ⟨0, 0, [], 0⟩) (.none_ rfl)
  have hfin : s.fin k ⟨0, 0, [], 0⟩ = s.setOwn k (g + 1) (some ⟨0, 0, [], 0⟩) := by rw [St.fin, ho]
  rw [hfin] at h1
  have h2 := (h1.drop hX (setOwn_same _ _ _ _)).1
  have he : (s.setOwn k (g + 1) (some ⟨0, 0, [], 0⟩)).setOwn k (g + 1 + 1) none = s.setOwn k (g + 2) none := by
    refine St.ext' rfl (funext fun r => ?_)
    show (bif Nat.beq r k then _ else (bif Nat.beq r k then _ else _)) = (bif Nat.beq r k then _ else _)
    cases Nat.beq r k <;> rfl
  rw [he] at h2
  exact ⟨_, h2⟩

/-- A site under another key; pointers of old no longer count, but that in one register. -/
theorem Ghost.move {k g k' g' t i j : Nat} {c : Cont} {oc' : Option Cont} (hk : Nat.beq k k' = false) (ho : s.own k = (g, some c)) (ho' : s.own k' = (g', oc')) (hr : s.reg t = .ptr k g i j) :
    Ghost s (((s.setOwn k (g + 1) none).setOwn k' (g' + 1) (some c)).putR t (.ptr k' (g' + 1) i j)) := by
  intro C a w hX ⟨γ, h⟩
  have hne : k ≠ k' := fun e => by subst e; simp at hk
  have o1 : ((s.setOwn k (g + 1) none).setOwn k' (g' + 1) (some c)).own k = (g + 1, none) := by rw [setOwn_ne hne, setOwn_same]
  have o2 : ((s.setOwn k (g + 1) none).setOwn k' (g' + 1) (some c)).own k' = (g' + 1, some c) := setOwn_same _ _ _ _
  have o3 : ∀ q, q ≠ k → q ≠ k' → ((s.setOwn k (g + 1) none).setOwn k' (g' + 1) (some c)).own q = s.own q := fun q h1 h2 => by rw [setOwn_ne h2, setOwn_ne h1]
  have hregs : ((s.setOwn k (g + 1) none).setOwn k' (g' + 1) (some c)).reg = s.reg := rfl
  generalize (s.setOwn k (g + 1) none).setOwn k' (g' + 1) (some c) = s1 at *
  have hval : ∀ {q : Nat} {d : Cont}, (s1.own q).2 = some d → ∃ q0, (s.own q0).2 = some d ∧ γ q0 = upg γ k' (γ k) q ∧ ((q = k' ∧ q0 = k) ∨ (q ≠ k' ∧ q ≠ k ∧ q0 = q)) := by
    intro q d hd
    by_cases h2 : q = k'
    · subst h2
      rw [o2] at hd
      exact ⟨k, by rw [ho]; exact hd, by rw [upg_same], .inl ⟨rfl, rfl⟩⟩
    · by_cases h1 : q = k
      · subst h1; rw [o1] at hd; cases hd
      · rw [o3 q h1 h2] at hd
        exact ⟨q, hd, by rw [upg_ne h2], .inr ⟨h2, h1, rfl⟩⟩
  have hok : ∀ b, okOf C γ s w b → okOf C (upg γ k' (γ k)) s1 w b := fun b hb => ⟨hb.1, hb.2.1, fun q d hd => by
    obtain ⟨q0, e1, e2, _⟩ := hval hd
    rw [← e2]; exact hb.2.2 q0 d e1⟩
  have hle : (envOf C γ s w).Le (envOf C (upg γ k' (γ k)) s1 w) := by
    refine ⟨hok, fun b hb => ⟨hb.1, hok b hb.2⟩, fun b hb => hb.2, fun b o v _ hc => hc, fun b es n _ hc => hc, fun q => ?_, fun q l' hg hl => ?_, fun q l' b cur hg hl hb hh => ⟨cur, hh, rfl⟩⟩
    · show (s.own q).1 ≤ (s1.own q).1
      by_cases h2 : q = k'
      · subst h2; rw [o2, ho']; simp
      · by_cases h1 : q = k
        · subst h1; rw [o1, ho]; simp
        · rw [o3 q h1 h2]; exact Nat.le_refl _
    · have hgg : (s1.own q).1 = (s.own q).1 := hg
      by_cases h2 : q = k'
      · subst h2; rw [o2, ho'] at hgg; simp at hgg
      · by_cases h1 : q = k
        · subst h1; rw [o1, ho] at hgg; simp at hgg
        · refine ⟨l', ?_, rfl, rfl, rfl, Nat.le_refl _⟩
          simp only [envOf, o3 q h1 h2, upg_ne h2] at hl ⊢
          exact hl
  refine ⟨upg γ k' (γ k), h.defers, h.size, fun r => ?_, fun q d hd => ?_, fun q1 q2 d1 d2 b e1 e2 e3 e4 => ?_, fun q d b e1 e2 => ?_, h.below, h.top, fun d v hd => (h.kept d v hd).mono hle⟩
  · show Rep (envOf C (upg γ k' (γ k)) s1 w) (bif Nat.beq r t then _ else s1.reg r) _
    by_cases hrt : r = t
    · subst hrt
      have hp := h.regs r
      rw [hr] at hp
      simp only [Nat.beq_refl, cond_true]
      have hp' := h.ptr_at hp ho
      refine .ptr ?_ fun _ l hl => ?_
      · show g' + 1 ≤ (s1.own k').1
        rw [o2]; exact Nat.le_refl _
      · simp only [envOf, o2, upg_same, Option.map_some, Option.some.injEq] at hl
        subst hl
        exact hp'
    · rw [nbeq_ne hrt, hregs]; exact (h.regs r).mono hle
  · obtain ⟨q0, e1, e2, _⟩ := hval hd
    have := (h.sites q0 d e1).mono hle fun b _ => rfl
    rwa [e2] at this
  · obtain ⟨p1, f1, f2, f3⟩ := hval e1
    obtain ⟨p2, f4, f5, f6⟩ := hval e2
    have := h.inj p1 p2 d1 d2 b f1 f4 (by rw [f2]; exact e3) (by rw [f5]; exact e4)
    rcases f3 with ⟨a1, a2⟩ | ⟨a1, a2, a3⟩ <;> rcases f6 with ⟨b1, b2⟩ | ⟨b1, b2, b3⟩
    · rw [a1, b1]
    · exact absurd (by rw [← b3, ← this, a2]) b2
    · exact absurd (by rw [← a3, this, b2]) a2
    · rw [← a3, ← b3, this]
  · obtain ⟨q0, f1, f2, _⟩ := hval e1
    exact h.base q0 d b f1 (by rw [f2]; exact e2)

/-- A site under another key; pointers of old no longer count. -/
theorem Sim.moveS {C : Ctx} {γ : Nat → Option Nat} {a : Act} {w : World} {k g k' g' : Nat} {c : Cont} {oc' : Option Cont} (h : Sim C γ s a w) (hk : Nat.beq k k' = false) (ho : s.own k = (g, some c)) (ho' : s.own k' = (g', oc')) :
    Sim C (upg γ k' (γ k)) ((s.setOwn k (g + 1) none).setOwn k' (g' + 1) (some c)) a w := by
  have hne : k ≠ k' := fun e => by subst e; simp at hk
  have o1 : ((s.setOwn k (g + 1) none).setOwn k' (g' + 1) (some c)).own k = (g + 1, none) := by rw [setOwn_ne hne, setOwn_same]
  have o2 : ((s.setOwn k (g + 1) none).setOwn k' (g' + 1) (some c)).own k' = (g' + 1, some c) := setOwn_same _ _ _ _
  have o3 : ∀ q, q ≠ k → q ≠ k' → ((s.setOwn k (g + 1) none).setOwn k' (g' + 1) (some c)).own q = s.own q := fun q h1 h2 => by rw [setOwn_ne h2, setOwn_ne h1]
  have hregs : ((s.setOwn k (g + 1) none).setOwn k' (g' + 1) (some c)).reg = s.reg := rfl
  generalize (s.setOwn k (g + 1) none).setOwn k' (g' + 1) (some c) = s1 at *
  have hval : ∀ {q : Nat} {d : Cont}, (s1.own q).2 = some d → ∃ q0, (s.own q0).2 = some d ∧ γ q0 = upg γ k' (γ k) q ∧ ((q = k' ∧ q0 = k) ∨ (q ≠ k' ∧ q ≠ k ∧ q0 = q)) := by
    intro q d hd
    by_cases h2 : q = k'
    · subst h2
      rw [o2] at hd
      exact ⟨k, by rw [ho]; exact hd, by rw [upg_same], .inl ⟨rfl, rfl⟩⟩
    · by_cases h1 : q = k
      · subst h1; rw [o1] at hd; cases hd
      · rw [o3 q h1 h2] at hd
        exact ⟨q, hd, by rw [upg_ne h2], .inr ⟨h2, h1, rfl⟩⟩
  have hok : ∀ b, okOf C γ s w b → okOf C (upg γ k' (γ k)) s1 w b := fun b hb => ⟨hb.1, hb.2.1, fun q d hd => by
    obtain ⟨q0, e1, e2, _⟩ := hval hd
    rw [← e2]; exact hb.2.2 q0 d e1⟩
  have hle : (envOf C γ s w).Le (envOf C (upg γ k' (γ k)) s1 w) := by
    refine ⟨hok, fun b hb => ⟨hb.1, hok b hb.2⟩, fun b hb => hb.2, fun b o v _ hc => hc, fun b es n _ hc => hc, fun q => ?_, fun q l' hg hl => ?_, fun q l' b cur hg hl hb hh => ⟨cur, hh, rfl⟩⟩
    · show (s.own q).1 ≤ (s1.own q).1
      by_cases h2 : q = k'
      · subst h2; rw [o2, ho']; simp
      · by_cases h1 : q = k
        · subst h1; rw [o1, ho]; simp
        · rw [o3 q h1 h2]; exact Nat.le_refl _
    · have hgg : (s1.own q).1 = (s.own q).1 := hg
      by_cases h2 : q = k'
      · subst h2; rw [o2, ho'] at hgg; simp at hgg
      · by_cases h1 : q = k
        · subst h1; rw [o1, ho] at hgg; simp at hgg
        · refine ⟨l', ?_, rfl, rfl, rfl, Nat.le_refl _⟩
          simp only [envOf, o3 q h1 h2, upg_ne h2] at hl ⊢
          exact hl
  refine ⟨h.defers, h.size, fun r => ?_, fun q d hd => ?_, fun q1 q2 d1 d2 b e1 e2 e3 e4 => ?_, fun q d b e1 e2 => ?_, h.below, h.top, fun d v hd => (h.kept d v hd).mono hle⟩
  · rw [hregs]; exact (h.regs r).mono hle
  · obtain ⟨q0, e1, e2, _⟩ := hval hd
    have := (h.sites q0 d e1).mono hle fun b _ => rfl
    rwa [e2] at this
  · obtain ⟨p1, f1, f2, f3⟩ := hval e1
    obtain ⟨p2, f4, f5, f6⟩ := hval e2
    have := h.inj p1 p2 d1 d2 b f1 f4 (by rw [f2]; exact e3) (by rw [f5]; exact e4)
    rcases f3 with ⟨a1, a2⟩ | ⟨a1, a2, a3⟩ <;> rcases f6 with ⟨b1, b2⟩ | ⟨b1, b2, b3⟩
    · rw [a1, b1]
    · exact absurd (by rw [← b3, ← this, a2]) b2
    · exact absurd (by rw [← a3, this, b2]) a2
    · rw [← a3, ← b3, this]
  · obtain ⟨q0, f1, f2, _⟩ := hval e1
    exact h.base q0 d b f1 (by rw [f2]; exact e2)

/-- A map in a cell, its site under another key. -/
theorem Ghost.moveC {k g k' g' k0 g0 i j : Nat} {c c0 : Cont} {oc' : Option Cont} {row : List PV} (hk : Nat.beq k k' = false) (hk0 : Nat.beq k0 k = false) (hk0' : Nat.beq k0 k' = false) (ho : s.own k = (g, some c)) (ho' : s.own k' = (g', oc')) (h0 : s.own k0 = (g0, some c0)) (hkind : c0.kind = 2)
    (hrow : c0.rows[i]? = some row) (hj : row[j]? = some (.mp k g)) (hz0 : Nat.blt 0 c0.sz = true) :
    Ghost s (((s.setOwn k (g + 1) none).setOwn k' (g' + 1) (some c)).setOwn k0 g0 (some ⟨c0.ty, c0.sz, c0.rows.set i (row.set j (.mp k' (g' + 1))), 2⟩)) := by
  intro C a w hX ⟨γ, h⟩
  have n0 : k0 ≠ k := fun e => by subst e; simp at hk0
  have n0' : k0 ≠ k' := fun e => by subst e; simp at hk0'
  have nk : k ≠ k' := fun e => by subst e; simp at hk
  have hzz : 0 < c0.sz := by simpa using hz0
  have hlt := (List.getElem?_eq_some_iff.1 hrow).1
  have hlt2 := (List.getElem?_eq_some_iff.1 hj).1
  have hrl := (h.sites k0 c0 (by rw [h0])).rowlen hzz
  obtain ⟨cty, csz, crows, ckind⟩ := c0
  simp only at hkind hrow hzz hlt hrl
  subst hkind
  -- the cell's value
  cases hb0 : γ k0 with
  | none =>
    have := (h.sites k0 _ (by rw [h0])).emp hb0
    simp only at this
    rw [this] at hlt; simp at hlt
  | some b0 =>
  obtain ⟨cur, q1, _, _, _, q5⟩ := h.site_at h0 hb0 hzz
  obtain ⟨u, u1, u2, u3⟩ := q5 i j row _ hrow hj
  obtain ⟨hsz, b, hb, hu⟩ := h.mp_at u3 ho
  have s1 : Sim C γ (s.setOwn k0 g0 (some ⟨cty, csz, crows.set i (row.set j (.raw (.map (some b)))), 2⟩)) a w := by
    refine h.recell h0 rfl rfl hzz (by simp) (fun r hr => ?_) fun i' j' row1 pv1 e1 e2 => ?_
    · rcases List.mem_or_eq_of_mem_set hr with hr | rfl
      · exact hrl r hr
      · simpa using hrl row (List.mem_of_getElem? hrow)
    · by_cases hi : i' = i
      · subst hi
        rw [List.getElem?_set_self hlt] at e1
        have e1 := Option.some.inj e1
        subst e1
        by_cases hjj : j' = j
        · subst hjj
          rw [List.getElem?_set_self hlt2] at e2
          have e2 := Option.some.inj e2
          subst e2
          refine ⟨row, _, hrow, hj, fun v hv => ?_⟩
          obtain ⟨_, b', hb', hv'⟩ := h.mp_at hv ho
          rw [hb] at hb'
          cases hb'
          rw [hv']
          exact .d (.raw _)
        · rw [List.getElem?_set_ne (Ne.symm hjj)] at e2
          exact ⟨row, pv1, hrow, e2, fun v hv => hv⟩
      · rw [List.getElem?_set_ne (Ne.symm hi)] at e1
        exact ⟨row1, pv1, e1, e2, fun v hv => hv⟩
  have o0 : (s.setOwn k0 g0 (some ⟨cty, csz, crows.set i (row.set j (.raw (.map (some b)))), 2⟩)).own k = (g, some c) := by rw [setOwn_ne (fun e => n0 e.symm)]; exact ho
  have o0' : (s.setOwn k0 g0 (some ⟨cty, csz, crows.set i (row.set j (.raw (.map (some b)))), 2⟩)).own k' = (g', oc') := by rw [setOwn_ne (fun e => n0' e.symm)]; exact ho'
  have s2 := s1.moveS hk o0 o0'
  have o2 : (((s.setOwn k0 g0 (some ⟨cty, csz, crows.set i (row.set j (.raw (.map (some b)))), 2⟩)).setOwn k (g + 1) none).setOwn k' (g' + 1) (some c)).own k0 = (g0, some ⟨cty, csz, crows.set i (row.set j (.raw (.map (some b)))), 2⟩) := by rw [setOwn_ne n0', setOwn_ne n0, setOwn_same]
  have o3 : (((s.setOwn k0 g0 (some ⟨cty, csz, crows.set i (row.set j (.raw (.map (some b)))), 2⟩)).setOwn k (g + 1) none).setOwn k' (g' + 1) (some c)).own k' = (g' + 1, some c) := setOwn_same _ _ _ _
  have s3 := s2.recell (c1 := ⟨cty, csz, crows.set i (row.set j (.mp k' (g' + 1))), 2⟩) o2 rfl rfl hzz (by simp) (fun r hr => ?_) fun i' j' row1 pv1 e1 e2 => ?_
  · refine ⟨upg γ k' (γ k), ?_⟩
    have he : ((((s.setOwn k0 g0 (some ⟨cty, csz, crows.set i (row.set j (.raw (.map (some b)))), 2⟩)).setOwn k (g + 1) none).setOwn k' (g' + 1) (some c)).setOwn k0 g0 (some ⟨cty, csz, crows.set i (row.set j (.mp k' (g' + 1))), 2⟩)) =
        (((s.setOwn k (g + 1) none).setOwn k' (g' + 1) (some c)).setOwn k0 g0 (some ⟨cty, csz, crows.set i (row.set j (.mp k' (g' + 1))), 2⟩)) := by
      refine St.ext' rfl (funext fun r => ?_)
      show (bif Nat.beq r k0 then _ else (bif Nat.beq r k' then _ else (bif Nat.beq r k then _ else (bif Nat.beq r k0 then _ else _)))) = (bif Nat.beq r k0 then _ else (bif Nat.beq r k' then _ else (bif Nat.beq r k then _ else _)))
      cases Nat.beq r k0 <;> rfl
    rw [he] at s3
    exact s3
  · rcases List.mem_or_eq_of_mem_set hr with hr | rfl
    · exact hrl r hr
    · simpa using hrl row (List.mem_of_getElem? hrow)
  · have hlt' : i < (crows.set i (row.set j (.raw (.map (some b))))).length := by simpa using hlt
    by_cases hi : i' = i
    · subst hi
      rw [List.getElem?_set_self hlt] at e1
      have e1 := Option.some.inj e1
      subst e1
      by_cases hjj : j' = j
      · subst hjj
        rw [List.getElem?_set_self hlt2] at e2
        have e2 := Option.some.inj e2
        subst e2
        refine ⟨row.set j' (.raw (.map (some b))), .raw (.map (some b)), List.getElem?_set_self hlt, List.getElem?_set_self hlt2, fun v hv => ?_⟩
        have hv : Rep _ _ v := hv
        rw [hv.raw_inv]
        refine .mp ?_ fun _ l hl => ?_
        · show _ ≤ (_ : Nat × Option Cont).1
          rw [o3]; exact Nat.le_refl _
        · simp only [envOf, o3, upg_same, Option.map_some, Option.some.injEq] at hl
          subst hl
          exact ⟨hsz, b, hb, rfl⟩
      · rw [List.getElem?_set_ne (Ne.symm hjj)] at e2
        exact ⟨row.set j (.raw (.map (some b))), pv1, List.getElem?_set_self hlt, by rw [List.getElem?_set_ne (Ne.symm hjj)]; exact e2, fun v hv => hv⟩
    · rw [List.getElem?_set_ne (Ne.symm hi)] at e1
      exact ⟨row1, pv1, by rw [List.getElem?_set_ne (Ne.symm hi)]; exact e1, e2, fun v hv => hv⟩

/-- A variable that is not written any more, read as data through one register. -/
theorem Ghost.data {k g t kd : Nat} {T : TypeId} {row : List PV} (ho : s.own k = (g, some ⟨T, row.length, [row], kd⟩)) (hr : s.reg t = .ptr k g 0 0) (hall : row.all (kOk 1) = true) (hz0 : Nat.blt 0 row.length = true) :
    Ghost s ((s.setOwn k (g + 1) none).putR t (.dref (row.map (nrm 1)) 0)) := by
  intro C a w hX ⟨γ, h⟩
  obtain ⟨h1, hle, _⟩ := h.drop hX ho
  have hz0 : 0 < row.length := by simpa using hz0
  have hp := h.regs t
  rw [hr] at hp
  obtain ⟨b, hb, hv, hi, hj⟩ := h.ptr_at hp ho
  obtain ⟨cur, f1, f2, f3, f4, f5⟩ := h.site_at ho hb hz0
  have hokb : okOf C γ (s.setOwn k (g + 1) none) w b := by
    have hbase := h.base k _ b (by rw [ho]) hb
    refine ⟨hbase.2, fun hx => ?_, fun k' c' hc' hb' => ?_⟩
    · have := hX b hx; omega
    · by_cases hk' : k' = k
      · subst hk'; rw [setOwn_same] at hc'; cases hc'
      · rw [setOwn_ne hk'] at hc'
        exact hk' (h.inj k' k c' _ b hc' (by rw [ho]) hb' hb)
  have hd : Rep (envOf C γ (s.setOwn k (g + 1) none) w) (.dref (row.map (nrm 1)) 0) (a.tmps.getD t undef) := by
    rw [hv]
    simp only [Nat.zero_mul, Nat.zero_add]
    have key : ∀ (i : Nat) (c : PV), (row.map (nrm 1))[i]? = some c → ∃ c0 u, row[i]? = some c0 ∧ c = nrm 1 c0 ∧ cur[i]? = some u ∧ u.oneCell' = true ∧ KRep (envOf C γ s w) kd c0 u := by
      intro i c hc
      rw [List.getElem?_map] at hc
      cases hq : row[i]? with
      | none => rw [hq] at hc; simp at hc
      | some c0 =>
        rw [hq] at hc; simp at hc
        obtain ⟨u, e1, e2, e3⟩ := f5 0 i row c0 rfl hq
        exact ⟨c0, u, rfl, hc.symm, by simpa using e1, e2, e3⟩
    have := DRep.dref (w := w) (ok := (envOf C γ (s.setOwn k (g + 1) none) w).ok) (row.map (nrm 1)) 0 b 0 (fun i => cur.getD i undef) hokb (fun i c hc => by
      obtain ⟨c0, u, e1, e2, e3, e4, e5⟩ := key i c hc
      rw [cell_of_cells f1, Nat.zero_add, e3]
      simp [e3, e4]) (fun i c hc => by
      obtain ⟨c0, u, e1, rfl, e3, e4, e5⟩ := key i c hc
      have hu : cur.getD i undef = u := by simp [e3]
      rw [hu]
      exact hle.drep (kOk_spec (k := 1) envOf_okfok (List.all_eq_true.1 hall c0 (List.mem_of_getElem? e1)) (e5.rep envOf_okfok)))
    exact .d this
  refine ⟨γ, h1.defers, h1.size, fun r => ?_, h1.sites, h1.inj, h1.base, h1.below, h1.top, h1.kept⟩
  show Rep (envOf C γ (s.setOwn k (g + 1) none) w) (bif Nat.beq r t then _ else s.reg r) _
  by_cases hrt : r = t
  · subst hrt; simpa using hd
  · rw [nbeq_ne hrt]; exact h1.regs r

/-- A nil cell, as an empty list of its own. -/
theorem Ghost.nilcell {k gk k0 g0 i j : Nat} {oc : Option Cont} {c0 : Cont} {row : List PV} (T : TypeId) (sz kd : Nat) (hk : Nat.beq k0 k = false) (ho : s.own k = (gk, oc)) (h0 : s.own k0 = (g0, some c0)) (hkind : c0.kind = 2) (hrow : c0.rows[i]? = some row) (hj : row[j]? = some .nil) (hz0 : Nat.blt 0 c0.sz = true) :
    Ghost s ((s.setOwn k (gk + 1) (some ⟨T, sz, [], kd⟩)).setOwn k0 g0 (some ⟨c0.ty, c0.sz, c0.rows.set i (row.set j (.als k (gk + 1) 0 0)), 2⟩)) := by
  intro C a w hX ⟨γ, h⟩
  have hne : k0 ≠ k := fun e => by subst e; simp at hk
  have ht : Turn C γ s w w k none := ⟨rfl, rfl, rfl, Nat.le_refl _, fun b _ => .inl rfl, fun b hb => by cases hb⟩
  have h1 := ht.sim h (c := ⟨T, sz, [], kd⟩) (.none_ rfl)
  have hfin : s.fin k ⟨T, sz, [], kd⟩ = s.setOwn k (gk + 1) (some ⟨T, sz, [], kd⟩) := by rw [St.fin, ho]
  rw [hfin] at h1
  have ho1 : (s.setOwn k (gk + 1) (some ⟨T, sz, [], kd⟩)).own k0 = (g0, some c0) := by rw [setOwn_ne hne]; exact h0
  have hz0 : 0 < c0.sz := by simpa using hz0
  refine ⟨_, h1.recell ho1 rfl rfl hz0 (by simp) (fun r hr => ?_) fun i' j' row1 pv1 e1 e2 => ?_⟩
  · rcases List.mem_or_eq_of_mem_set hr with hr | rfl
    · exact (h.sites k0 c0 (by rw [h0])).rowlen hz0 r hr
    · simpa using (h.sites k0 c0 (by rw [h0])).rowlen hz0 row (List.mem_of_getElem? hrow)
  · by_cases hi : i' = i
    · subst hi
      have hlt := (List.getElem?_eq_some_iff.1 hrow).1
      rw [List.getElem?_set_self hlt] at e1
      have e1 := Option.some.inj e1
      subst e1
      by_cases hjj : j' = j
      · subst hjj
        have hlt2 := (List.getElem?_eq_some_iff.1 hj).1
        rw [List.getElem?_set_self hlt2] at e2
        have e2 := Option.some.inj e2
        subst e2
        refine ⟨row, .nil, hrow, hj, fun v hv => ?_⟩
        rw [hkind] at hv
        have hv : Rep _ PV.nil v := hv
        rw [hv.nil_inv]
        refine Rep.als ?_ fun _ l hl => ?_
        · show _ ≤ ((s.setOwn k (gk + 1) (some ⟨T, sz, [], kd⟩)).own k).1
          rw [setOwn_same]; exact Nat.le_refl _
        · simp only [envOf, setOwn_same, upg_same, Option.map_some, Option.some.injEq] at hl
          subst hl
          exact .inl ⟨rfl, rfl, rfl, rfl⟩
      · rw [List.getElem?_set_ne (Ne.symm hjj)] at e2
        exact ⟨row, pv1, hrow, e2, fun v hv => by rw [hkind] at hv; exact hv⟩
    · rw [List.getElem?_set_ne (Ne.symm hi)] at e1
      exact ⟨row1, pv1, e1, e2, fun v hv => by rw [hkind] at hv; exact hv⟩

/-- A list in a cell, given up: data from now on. -/
theorem Ghost.freeze {k gk k0 g0 i j n : Nat} {c c0 : Cont} {row : List PV} (hk : Nat.beq k0 k = false) (ho : s.own k = (gk, some c)) (hc : c.kind = 0) (h0 : s.own k0 = (g0, some c0)) (hkind : c0.kind = 2) (hrow : c0.rows[i]? = some row) (hj : row[j]? = some (.als k gk 0 n)) (hz0 : Nat.blt 0 c0.sz = true) (hn : n = c.rows.length) :
    Ghost s ((s.setOwn k (gk + 1) none).setOwn k0 g0 (some ⟨c0.ty, c0.sz, c0.rows.set i (row.set j (.fsl c.rows)), 2⟩)) := by
  intro C a w hX ⟨γ, h⟩
  subst hn
  have hne : k0 ≠ k := fun e => by subst e; simp at hk
  obtain ⟨h1, hle, hfr⟩ := h.drop hX ho
  have ho1 : (s.setOwn k (gk + 1) none).own k0 = (g0, some c0) := by rw [setOwn_ne hne]; exact h0
  have hsite := h.sites k0 c0 (by rw [h0])
  have hlt := (List.getElem?_eq_some_iff.1 hrow).1
  have hlt2 := (List.getElem?_eq_some_iff.1 hj).1
  have he := envOf_recell (C := C) (γ := γ) (w := w) (c1 := ⟨c0.ty, c0.sz, c0.rows.set i (row.set j (.fsl c.rows)), 2⟩) ho1 rfl rfl (by simp)
  have hother : ∀ k', k' ≠ k0 → ((s.setOwn k (gk + 1) none).setOwn k0 g0 (some ⟨c0.ty, c0.sz, c0.rows.set i (row.set j (.fsl c.rows)), 2⟩)).own k' = (s.setOwn k (gk + 1) none).own k' := fun k' hk' => setOwn_ne hk'
  have hsome : ∀ k' c', (((s.setOwn k (gk + 1) none).setOwn k0 g0 (some ⟨c0.ty, c0.sz, c0.rows.set i (row.set j (.fsl c.rows)), 2⟩)).own k').2 = some c' → ∃ c'', ((s.setOwn k (gk + 1) none).own k').2 = some c'' := by
    intro k' c' hc'
    by_cases hk' : k' = k0
    · subst hk'; exact ⟨c0, by rw [ho1]⟩
    · rw [hother k' hk'] at hc'; exact ⟨c', hc'⟩
  refine ⟨γ, h1.defers, h1.size, fun r => by rw [he]; exact h1.regs r, fun k' c' hc' => ?_, fun k1 k2 c1 c2 b e1 e2 e3 e4 => ?_, fun k' c' b e1 e2 => ?_, h1.below, h1.top, fun c v hk => by rw [he]; exact h1.kept c v hk⟩
  · rw [he]
    by_cases hk' : k' = k0
    · subst hk'
      rw [setOwn_same] at hc'
      have hc' := Option.some.inj hc'
      subst hc'
      have hz0 : 0 < c0.sz := by simpa using hz0
      refine ⟨fun hb => ?_, (fun b _ hz => by simp only at hz; omega), (fun b _ hz => by simp only at hz; omega), fun b hb _ => ?_⟩
      · have := hsite.emp hb
        rw [this] at hrow; simp at hrow
      · obtain ⟨cur, f1, f2, f3, f4, f5⟩ := hsite.at_ b hb hz0
        refine ⟨cur, f1, f2, by simpa using f3, fun r hr => ?_, fun i' j' row1 pv1 e1 e2 => ?_⟩
        · rcases List.mem_or_eq_of_mem_set hr with hr | rfl
          · exact f4 r hr
          · simpa using f4 row (List.mem_of_getElem? hrow)
        · by_cases hi : i' = i
          · subst hi
            rw [List.getElem?_set_self hlt] at e1
            have e1 := Option.some.inj e1
            subst e1
            by_cases hjj : j' = j
            · subst hjj
              rw [List.getElem?_set_self hlt2] at e2
              have e2 := Option.some.inj e2
              subst e2
              obtain ⟨v, u1, u2, u3⟩ := f5 i' j' row _ hrow hj
              rw [hkind] at u3
              exact ⟨v, u1, u2, Rep.fsl (hfr hc v u3)⟩
            · rw [List.getElem?_set_ne (Ne.symm hjj)] at e2
              obtain ⟨v, u1, u2, u3⟩ := f5 i' j' row pv1 hrow e2
              rw [hkind] at u3
              exact ⟨v, u1, u2, Rep.mono hle u3⟩
          · rw [List.getElem?_set_ne (Ne.symm hi)] at e1
            obtain ⟨v, u1, u2, u3⟩ := f5 i' j' row1 pv1 e1 e2
            rw [hkind] at u3
            exact ⟨v, u1, u2, Rep.mono hle u3⟩
    · rw [hother k' hk'] at hc'
      exact h1.sites k' c' hc'
  · obtain ⟨d, hd⟩ := hsome k1 c1 e1
    obtain ⟨d', hd'⟩ := hsome k2 c2 e2
    exact h1.inj k1 k2 d d' b hd hd' e3 e4
  · obtain ⟨d, hd⟩ := hsome k' c' e1
    exact h1.base k' d b hd e2

/-- Data of the call's own, as they may stand beside lists that are still written. -/
def up0 : PV → PV
  | .sl rows => .fsl rows
  | c => c
theorem up0_spec {E : Env} (hf : ∀ b, E.okf b → E.ok b) {c : PV} {v : Value} (h : DRep E.w E.okf c v) : Rep E (up0 c) v := by
  unfold up0
  split
  · exact .fsl h
  · exact .d (h.weaken hf)
theorem map_at {α β : Type} {f : α → β} {l : List (List α)} {i j : Nat} {row1 : List β} {b : β} (h1 : (l.map (·.map f))[i]? = some row1) (h2 : row1[j]? = some b) : ∃ row0 a, l[i]? = some row0 ∧ row0[j]? = some a ∧ f a = b := by
  rw [List.getElem?_map] at h1
  cases h : l[i]? with
  | none => rw [h] at h1; simp at h1
  | some row0 =>
    rw [h] at h1
    simp at h1
    subst h1
    rw [List.getElem?_map] at h2
    cases h' : row0[j]? with
    | none => rw [h'] at h2; simp at h2
    | some a => rw [h'] at h2; simp at h2; exact ⟨row0, a, rfl, h', h2⟩
theorem Ghost.raise {k0 g0 : Nat} {c0 : Cont} (h0 : s.own k0 = (g0, some c0)) (hk : c0.kind = 0) (hz0 : Nat.blt 0 c0.sz = true) : Ghost s (s.setOwn k0 g0 (some ⟨c0.ty, c0.sz, c0.rows.map (·.map up0), 2⟩)) := by
  intro C a w hX ⟨γ, h⟩
  have hz0 : 0 < c0.sz := by simpa using hz0
  refine ⟨γ, h.recell h0 rfl rfl hz0 (by simp) (fun r hr => ?_) fun i j row1 pv1 e1 e2 => ?_⟩
  · obtain ⟨r0, hr0, rfl⟩ := List.mem_map.1 hr
    simpa using (h.sites k0 c0 (by rw [h0])).rowlen hz0 r0 hr0
  · obtain ⟨row0, pv0, f1, f2, rfl⟩ := map_at e1 e2
    exact ⟨row0, pv0, f1, f2, fun v hv => by rw [hk] at hv; exact up0_spec envOf_okfok hv⟩
theorem Ghost.lower {k0 g0 : Nat} {c0 : Cont} (kd : Nat) (h0 : s.own k0 = (g0, some c0)) (hk : c0.kind = 2) (hz0 : Nat.blt 0 c0.sz = true) (hall : ∀ row ∈ c0.rows, row.all (kOk kd) = true) : Ghost s (s.setOwn k0 g0 (some ⟨c0.ty, c0.sz, c0.rows.map (·.map (nrm kd)), kd⟩)) := by
  intro C a w hX ⟨γ, h⟩
  have hz0 : 0 < c0.sz := by simpa using hz0
  refine ⟨γ, h.recell h0 rfl rfl hz0 (by simp) (fun r hr => ?_) fun i j row1 pv1 e1 e2 => ?_⟩
  · obtain ⟨r0, hr0, rfl⟩ := List.mem_map.1 hr
    simpa using (h.sites k0 c0 (by rw [h0])).rowlen hz0 r0 hr0
  · obtain ⟨row0, pv0, f1, f2, rfl⟩ := map_at e1 e2
    refine ⟨row0, pv0, f1, f2, fun v hv => ?_⟩
    rw [hk] at hv
    exact kOk_spec envOf_okfok (List.all_eq_true.1 (hall row0 (List.mem_of_getElem? f1)) pv0 (List.mem_of_getElem? f2)) hv
end
/-- A nil slice in a register, as an empty site of its own. -/
theorem Ghost.nilreg {s : St} {k gk t : Nat} {oc : Option Cont} (T : TypeId) (sz kd : Nat) (ho : s.own k = (gk, oc)) (hr : s.reg t = .nil) : Ghost s ((s.setOwn k (gk + 1) (some ⟨T, sz, [], kd⟩)).putR t (.als k (gk + 1) 0 0)) := by
  intro C a w hX ⟨γ, h⟩
  have ht : Turn C γ s w w k none := ⟨rfl, rfl, rfl, Nat.le_refl _, fun b _ => .inl rfl, fun b hb => by cases hb⟩
  have h1 := ht.sim h (c := ⟨T, sz, [], kd⟩) (.none_ rfl)
  have hfin : s.fin k ⟨T, sz, [], kd⟩ = s.setOwn k (gk + 1) (some ⟨T, sz, [], kd⟩) := by rw [St.fin, ho]
  rw [hfin] at h1
  refine ⟨_, h1.defers, h1.size, fun r => ?_, h1.sites, h1.inj, h1.base, h1.below, h1.top, h1.kept⟩
  show Rep _ (bif Nat.beq r t then _ else s.reg r) _
  by_cases hrt : r = t
  · subst hrt
    have hv := h.regs r
    rw [hr] at hv
    rw [hv.nil_inv]
    simp only [Nat.beq_refl, cond_true]
    refine .als ?_ fun _ l hl => ?_
    · show _ ≤ ((s.setOwn k (gk + 1) (some ⟨T, sz, [], kd⟩)).own k).1
      rw [setOwn_same]; exact Nat.le_refl _
    · have hl : (((s.setOwn k (gk + 1) (some ⟨T, sz, [], kd⟩)).own k).2.map fun c => (⟨upg γ k none k, c.ty, c.sz, c.rows.length⟩ : SLoc)) = some l := hl
      rw [setOwn_same, upg_same] at hl
      have hl := Option.some.inj hl
      subst hl
      exact .inl ⟨rfl, rfl, rfl, rfl⟩
  · rw [nbeq_ne hrt]; exact h1.regs r
theorem Ghost.nilsl {s : St} {t : Nat} (hr : s.reg t = .nil) : Ghost s (s.putR t (.sl [])) := by
  intro C a w hX ⟨γ, h⟩
  refine ⟨_, h.defers, h.size, fun r => ?_, h.sites, h.inj, h.base, h.below, h.top, h.kept⟩
  show Rep _ (bif Nat.beq r t then _ else s.reg r) _
  by_cases hrt : r = t
  · subst hrt
    have hv := h.regs r
    rw [hr] at hv
    rw [hv.nil_inv]
    simp only [Nat.beq_refl, cond_true]
    exact .d (.sl0 _ _)
  · rw [nbeq_ne hrt]; exact h.regs r
end Go.Pv

/- Callees that hand back memory of their own, to be written on. -/
namespace Go.Pv
open Go.RowKit
variable [Globs]

/-- 'v' is a slice over all of a new block. -/
def OwnV (w w' : World) (T : TypeId) (sz : Nat) (rows : List (List PV)) (v : Value) : Prop :=
  (rows = [] ∧ v = .slice none 0 0) ∨
  ∃ (b cap : Nat) (cur : Array Value), w.heap.size ≤ b ∧ v = .slice (some ⟨b, 0, none⟩) rows.length cap ∧ w'.heap[b]? = some (.cells cur T (0, 0)) ∧ rows.length ≤ cap ∧ cap ≤ maxLen ∧ cur.size = cap * sz ∧ 0 < sz ∧ rows.length * sz ≤ cur.size ∧ (∀ row ∈ rows, row.length = sz) ∧
    ∀ (i j : Nat) (row : List PV) (c : PV), rows[i]? = some row → row[j]? = some c → ∃ u, cur[i * sz + j]? = some u ∧ u.oneCell' = true ∧ ∀ (w : World) (ok : Nat → Prop), DRep w ok c u

/-- Called with values that read as 'pargs', the function returns a slice over new memory of its own that reads as 'rows'. -/
def RetO (P : Program) (f : FuncId) (pargs : List PV) (T : TypeId) (sz : Nat) (rows : List (List PV)) : Prop :=
  callable P f ∧ ∀ (w : World) (X : Nat → Prop) (args : List Value), Globs.glob w → (∀ b, X b → b < w.heap.size) → pargs.length = args.length →
    (∀ (i : Nat) (c : PV) (v : Value), pargs[i]? = some c → args[i]? = some v → DRep w (fun b => b < w.heap.size ∧ ¬ X b) c v) →
    Calls P f args.toArray w (fun e w' => ∃ v, e = .returned v ∧ Below w.heap.size w w' ∧ OwnV w w' T sz rows v)

def PostO (fn : Func) (T : TypeId) (sz : Nat) (rows : List (List PV)) (s : St) : Prop :=
  ∃ t k g m kd, fn.results.toList = [.tmp t] ∧ s.reg t = .als k g 0 m ∧ s.own k = (g, some ⟨T, sz, rows, kd⟩) ∧ m = rows.length ∧ rows.all (·.all PV.flat1) = true
def RetPostO (fn : Func) (T : TypeId) (sz : Nat) (rows : List (List PV)) : Exit → St → Prop
  | .normal, s | .ret, s => PostO fn T sz rows s
  | _, _ => False

theorem flat1_any {E : Env} {k : Nat} {c : PV} {v : Value} (hf : c.flat1 = true) (h : KRep E k c v) (hE : ∀ b, E.okf b → E.ok b) (w : World) (ok : Nat → Prop) : DRep w ok c v := by
  have hr := h.rep hE
  cases c with
  | bool b => rw [hr.bool_inv]; exact .bool _
  | int k n => rw [hr.int_inv]; exact .int _ _
  | str s => rw [hr.str_inv]; exact .str _
  | raw u => rw [hr.raw_inv]; exact .raw _
  | nil => rw [hr.nil_inv]; exact .nil
  | _ => simp [PV.flat1] at hf

section
variable {P : Program} {L : Lay} {s : St}

theorem RetO.of_pwp {f : FuncId} {fn : Func} {body : Code} {pargs : List PV} {T : TypeId} {sz : Nat} {rows : List (List PV)} (hL : LOk P L) (hm : P.follows .mixedOrders = true) (hf : P.funcs[f]? = some fn) (hb : fn.body = some body) (hn : (fn.name == "runtime.NumGoroutine") = false)
    (hlen : Nat.ble pargs.length fn.ntmps = true) (hc : codeOk fn.ntmps body = true) (h : PWP P L body (RetPostO fn T sz rows) (initSt pargs)) : RetO P f pargs T sz rows := by
  refine ⟨⟨fn, hf, hn, by simp [hb]⟩, fun w X args hg hX hl hargs => ?_⟩
  let C : Ctx := ⟨w.heap.size, X, w, fn.ntmps, fun _ _ => False⟩
  have hG : Good P L C := ⟨hL, hX, hm, fun w' hb => Globs.keep w w' hg hb⟩
  have hle : args.length ≤ fn.ntmps := by rw [← hl]; simpa using hlen
  have hsim : SimE C (initSt pargs) { tmps := args.toArray ++ Array.replicate (fn.ntmps - args.toArray.size) undef, defers := [] } w := by
    refine ⟨fun _ => none, rfl, by simp [C]; omega, fun t => ?_, fun k c hk => by simp [initSt] at hk, fun k k' c c' b hk => by simp [initSt] at hk, fun k c b hk => by simp [initSt] at hk, Below.refl _ _, Nat.le_refl _, fun c v hk => hk.elim⟩
    show Rep _ (pargs.getD t (.raw undef)) _
    rcases Nat.lt_or_ge t args.length with hlt | hge
    · have hlt' : t < pargs.length := by omega
      have e1 : pargs.getD t (.raw undef) = pargs[t] := by simp [hlt']
      have e2 : (args.toArray ++ Array.replicate (fn.ntmps - args.toArray.size) undef).getD t undef = args[t] := by
        rw [Array.getD_eq_getD_getElem?, Array.getElem?_append_left (by simpa using hlt)]
        simp [hlt]
      rw [e1, e2]
      refine .d ((hargs t pargs[t] args[t] (List.getElem?_eq_getElem hlt') (List.getElem?_eq_getElem hlt)).weaken fun b hb => ⟨hb.1, hb.2, fun k c hk => by simp [initSt] at hk⟩)
    · have e1 : pargs.getD t (.raw undef) = .raw undef := by simp [List.getElem?_eq_none (by omega : pargs.length ≤ t)]
      have e2 : (args.toArray ++ Array.replicate (fn.ntmps - args.toArray.size) undef).getD t undef = undef := by
        rw [Array.getD_eq_getD_getElem?, Array.getElem?_append_right (by simpa using hge)]
        rcases Nat.lt_or_ge (t - args.toArray.size) (fn.ntmps - args.toArray.size) with h1 | h1
        · rw [Array.getElem?_replicate, if_pos h1]; rfl
        · rw [Array.getElem?_eq_none (by simpa using h1)]; rfl
      rw [e1, e2]
      exact .d (.raw _)
  refine calls_of_wp hf hb (wp_mono (PWP.sound hG body _ _ _ w hc hsim h) ?_)
  have fin : ∀ {s : St} {a : Act} {w' : World}, SimE C s a w' → PostO fn T sz rows s → a.defers = [] ∧ ∃ v, (results fn a.tmps).run P w' = .ok v w' ∧ ∃ u, Ending.returned v = .returned u ∧ Below w.heap.size w w' ∧ OwnV w w' T sz rows u := by
    rintro s a w' ⟨γ, hs⟩ ⟨t, k, g, m, kd, h1, h2, h3, h4, h5⟩
    refine ⟨hs.defers, a.tmps.getD t undef, ?_, _, rfl, hs.below, ?_⟩
    · unfold results
      rw [← Array.toArray_toList (xs := fn.results), h1]
      simp
    · have hr := hs.regs t
      rw [h2] at hr
      subst h4
      rcases hs.als_at hr h3 with ⟨e1, _, _, e4⟩ | ⟨b, cap, cur, e1, e2, e3, e4, e5, e6, e7⟩
      · exact .inl ⟨(hs.sites k _ (by rw [h3])).emp e1, e4⟩
      · obtain ⟨cur', g1, g2, g3, g4, g5⟩ := hs.site_at h3 e1 (hs.cells_sz h3 e1 e3)
        have hcc : cur' = cur := by
          have e3 : w'.heap[b]? = some (.cells cur T (0, 0)) := e3
          have g1 : w'.heap[b]? = some (.cells cur' T (0, 0)) := g1
          rw [g1] at e3
          simpa using e3
        subst hcc
        refine .inr ⟨b, cap, cur', (hs.base k _ b (by rw [h3]) e1).1, by simpa using e2, e3, e4, e5, by simpa using e6, g2, g3, g4, fun i j row c r1 r2 => ?_⟩
        obtain ⟨u, u1, u2, u3⟩ := g5 i j row c r1 r2
        have hfl : c.flat1 = true := List.all_eq_true.1 (List.all_eq_true.1 h5 row (List.mem_of_getElem? r1)) c (List.mem_of_getElem? r2)
        exact ⟨u, u1, u2, fun w ok => flat1_any hfl u3 envOf_okfok w ok⟩
  rintro e a w' ⟨s, hs, hq⟩
  cases e
  case normal => exact fin hs hq
  case ret => exact fin hs hq
  all_goals exact hq.elim

/-- The end of such a function. -/
theorem endO {fn : Func} {T : TypeId} {sz : Nat} {rows rows' : List (List PV)} {t k g m kd : Nat} (h : fn.results.toList = [.tmp t]) (hv : s.reg t = .als k g 0 m) (ho : s.own k = (g, some ⟨T, sz, rows, kd⟩)) (hm : m = rows.length) (hf : rows.all (·.all PV.flat1) = true) (hr : rows = rows') : RetPostO fn T sz rows' .ret s := by
  subst hr
  exact ⟨t, k, g, m, kd, h, hv, ho, hm, hf⟩

theorem sm_callO {d : Nat} {ty : TypeId} {pos : String} {af : Array Edge} {fop : Operand} {args : Array Operand} {tys : Array TypeId} {f : FuncId} {caps pargs : List PV} {Cd : Prop} {b : Fl} {T : TypeId} {sz gn : Nat} {oc : Option Cont} {rows : List (List PV)} {K : St → Prop}
    (hf : s.ev fop = .clo f caps) (hret : RetO P f pargs T sz rows) (hres : resL (res s 4) (args.toList.map s.ev ++ caps) = some (pargs, Cd, b)) (hc : Cd) (hown : s.own d = (gn, oc))
    (h : K ((s.setOwn d (gn + 1) (some ⟨T, sz, rows, 0⟩)).putR d (.als d (gn + 1) 0 rows.length))) : Sm P L s ⟨some d, .call ⟨.value fop, args, tys⟩, ty, pos, af, none⟩ K := by
  intro C a w Q hG hs hN
  obtain ⟨γ, hs⟩ := hs
  have hfv := hs.ev fop
  rw [hf] at hfv
  obtain ⟨vs, hv, hl, hd⟩ := hfv.clo_inv
  have hspec := resL_spec (S := Rep (envOf C γ s w)) (R := fun b => DRep w (okArg C γ s w b)) (fun b1 b2 c v => ⟨fun hd => hd.weaken fun k => okArg_and.1, fun hd => hd.weaken fun k => okArg_and.2⟩) (fun c d Cd b v e1 e2 e3 => res_spec hG.x hs 4 c d Cd b v e1 e2 e3) _ _ _ _ (args.toList.map a.eval ++ vs) hres hc
    (by simp [hl]) (fun i c v e1 e2 => by
      rw [List.getElem?_append] at e1 e2
      simp only [List.length_map] at e1 e2
      split at e1
      · rename_i hlt
        rw [if_pos hlt] at e2
        rw [List.getElem?_map] at e1 e2
        cases hx : args.toList[i]? with
        | none => rw [hx] at e1; simp at e1
        | some x => rw [hx] at e1 e2; simp at e1 e2; subst e1; subst e2; exact hs.ev x
      · rename_i hlt
        rw [if_neg hlt] at e2
        exact hd _ c v e1 e2)
  unfold Oper.wp
  rw [run_call (f := f) rfl hv hret.1, Oper.upon_enter]
  refine (hret.2 w (fun k => k < w.heap.size ∧ ¬ okArg C γ s w b k) _ (hG.glob _ hs.below) (fun _ hb => hb.1) hspec.1 (fun i c v e1 e2 => (hspec.2 i c v e1 e2).weaken fun k hk => ⟨hk.1, fun hn => hn.2 hk⟩)).mono ?_
  rintro e w' ⟨v, rfl, hbel, hov⟩
  have main : ∀ (blk : Option Nat), (∀ b, blk = some b → b < w'.heap.size ∧ w.heap.size ≤ b) → SiteOk (envOf C (upg γ d blk) (s.fin d ⟨T, sz, rows, 0⟩) w') blk ⟨T, sz, rows, 0⟩ → AlsAt w' ⟨blk, T, sz, rows.length⟩ 0 rows.length v → ∃ s', SimE C s' (a.put (some d) v) w' ∧ K s' := by
    intro blk hblk hsite hals
    have ht : Turn C γ s w w' d blk := ⟨hbel.os, hbel.tape, hbel.output, hbel.size, fun b hb => .inl (hbel.block b hb), fun b hb => ⟨(hblk b hb).1, .inl (hblk b hb).2⟩⟩
    have hsim := ht.sim hs hsite
    have hfin : s.fin d ⟨T, sz, rows, 0⟩ = s.setOwn d (gn + 1) (some ⟨T, sz, rows, 0⟩) := by rw [St.fin, hown]
    rw [hfin] at hsim
    refine ⟨_, ⟨_, hsim.put (d := some d) hN (.als ?_ fun _ l hl => ?_)⟩, h⟩
    · show _ ≤ ((s.setOwn d (gn + 1) (some ⟨T, sz, rows, 0⟩)).own d).1
      rw [setOwn_same]; exact Nat.le_refl _
    · simp only [envOf, setOwn_same, upg_same, Option.map_some, Option.some.injEq] at hl
      subst hl
      exact hals
  rcases hov with ⟨rfl, rfl⟩ | ⟨b, cap, cur, h1, rfl, h3, h4, h5, h6, h7, h8, h9, h10⟩
  · exact main none (fun b hb => by cases hb) (.none_ rfl) (.inl ⟨rfl, rfl, rfl, rfl⟩)
  · have hb : b < w'.heap.size := (Array.getElem?_eq_some_iff.1 h3).1
    refine main (some b) (fun b' hb' => by simp at hb'; subst hb'; exact ⟨hb, h1⟩) ⟨(fun e => by cases e), (fun b' _ hz => by simp only at hz; omega), (fun b' _ hz => by simp only at hz; omega), fun b' hb' _ => ?_⟩ (.inr ⟨b, cap, cur, rfl, by simp, h3, h4, h5, by simpa using h6, by simp⟩)
    simp at hb'; subst hb'
    refine ⟨cur, h3, h7, h8, h9, fun i j row pv e1 e2 => ?_⟩
    obtain ⟨u, u1, u2, u3⟩ := h10 i j row pv e1 e2
    exact ⟨u, u1, u2, u3 _ _⟩

/-! ### A callee that makes pointers out of the one that it is given -/
/-- A cell that is a pointer so many cells behind the given one, or a plain value. -/
inductive TC where
  | p (o : Nat)
  | c (v : PV)
def TC.inst (mk : Nat → PV) : TC → PV
  | .p o => mk o
  | .c v => v
def TC.ok (sz : Nat) : TC → Bool
  | .p o => Nat.blt o sz
  | .c v => v.flat1
def rawP (b off o : Nat) : PV := .raw (.pointer (some ⟨b, off + o, none⟩))
/-- .. and that a cell holds this value. -/
@[reducible] def globAt (G : Globs) (b off : Nat) (u : Value) : Globs := ⟨fun w => G.glob w ∧ b < w.heap.size ∧ w.cell? ⟨b, off, none⟩ = some u, fun w w' h hb => ⟨G.keep w w' h.1 hb, Nat.lt_of_lt_of_le h.2.1 hb.size, by rw [cell_ext hb h.2.1]; exact h.2.2⟩⟩

theorem sm_callP {d : Nat} {ty : TypeId} {pos : String} {af : Array Edge} {fop x : Operand} {tys : Array TypeId} {f : FuncId} {T : TypeId} {sz gn k g i : Nat} {ki : IntKind} {op : Int} {oc : Option Cont} {c : Cont} {row : List PV} {K : St → Prop} (tm : List (List TC))
    (hret : ∀ b off, @RetO (globAt ‹Globs› b off (.int ki op)) P f [rawP b off 0] T sz (tm.map fun r => r.map (TC.inst (rawP b off))))
    (hf : s.ev fop = .clo f []) (hx : s.ev x = .ptr k g i 0) (hk : s.own k = (g, some c)) (hrow : c.rows[i]? = some row) (h0 : row[0]? = some (.int ki op)) (hne : Nat.beq d k = false) (htm : tm.all (fun r => r.all (TC.ok c.sz)) = true)
    (hown : s.own d = (gn, oc)) (h : K ((s.setOwn d (gn + 1) (some ⟨T, sz, tm.map fun r => r.map (TC.inst fun o => .ptr k g i o), 2⟩)).putR d (.als d (gn + 1) 0 tm.length))) : Sm P L s ⟨some d, .call ⟨.value fop, #[x], tys⟩, ty, pos, af, none⟩ K := by
  intro C a w Q hG hs hN
  obtain ⟨γ, hs⟩ := hs
  have hdk : d ≠ k := fun e => by subst e; simp at hne
  have hfv := hs.ev fop
  rw [hf] at hfv
  obtain ⟨vs, hv, hl, _⟩ := hfv.clo_inv
  have hvs : vs = [] := List.eq_nil_of_length_eq_zero (by simpa using hl.symm)
  subst hvs
  have hxr := hs.ev x
  rw [hx] at hxr
  obtain ⟨b, hb, hxv, hi, hj⟩ := hs.ptr_at hxr hk
  have hz : 0 < c.sz := by omega
  obtain ⟨cur, hh, _, hle, hrows, hcell⟩ := hs.site_at hk hb hz
  obtain ⟨u, u1, u2, u3⟩ := hcell i 0 row _ hrow h0
  have hu : u = .int ki op := (u3.rep envOf_okfok).int_inv
  subst hu
  have hbb : b < w.heap.size := (hs.base k c b (by rw [hk]) hb).2
  have hglob : (globAt ‹Globs› b (i * c.sz) (.int ki op)).glob w := ⟨hG.glob _ hs.below, hbb, by rw [cell_of_cells hh]; exact u1⟩
  have hr := hret b (i * c.sz)
  unfold Oper.wp
  rw [run_call (f := f) rfl hv hr.1, Oper.upon_enter]
  refine (hr.2 w (fun _ => False) _ hglob (fun _ hb => hb.elim) (by simp) (fun j p v e1 e2 => by
    match j with
    | 0 =>
      simp at e1 e2
      subst e1; subst e2
      rw [hxv]
      exact .raw _
    | j + 1 => simp at e1)).mono ?_
  rintro e w' ⟨v, rfl, hbel, hov⟩
  have hblkk : ∀ blk, upg γ d blk k = γ k := fun blk => upg_ne (fun e => hdk e.symm)
  have hptr : ∀ (blk : Option Nat) (o : Nat), o < c.sz → Rep (envOf C (upg γ d blk) (s.fin d ⟨T, sz, tm.map fun r => r.map (TC.inst fun o => .ptr k g i o), 2⟩) w') (.ptr k g i o) (.pointer (some ⟨b, i * c.sz + o, none⟩)) := by
    intro blk o ho
    have hok : (s.fin d ⟨T, sz, tm.map fun r => r.map (TC.inst fun o => .ptr k g i o), 2⟩).own k = (g, some c) := by rw [St.fin, setOwn_ne (fun e => hdk e.symm)]; exact hk
    refine .ptr (by simp [envOf, hok]) fun _ l hl => ?_
    simp only [envOf, hok, Option.map_some, Option.some.injEq] at hl
    subst hl
    exact ⟨b, by rw [hblkk]; exact hb, rfl, hi, ho⟩
  have main : ∀ (blk : Option Nat), (∀ b, blk = some b → b < w'.heap.size ∧ w.heap.size ≤ b) → SiteOk (envOf C (upg γ d blk) (s.fin d ⟨T, sz, tm.map fun r => r.map (TC.inst fun o => .ptr k g i o), 2⟩) w') blk ⟨T, sz, tm.map fun r => r.map (TC.inst fun o => .ptr k g i o), 2⟩ → AlsAt w' ⟨blk, T, sz, tm.length⟩ 0 tm.length v → ∃ s', SimE C s' (a.put (some d) v) w' ∧ K s' := by
    intro blk hblk hsite hals
    have ht : Turn C γ s w w' d blk := ⟨hbel.os, hbel.tape, hbel.output, hbel.size, fun b hb => .inl (hbel.block b hb), fun b hb => ⟨(hblk b hb).1, .inl (hblk b hb).2⟩⟩
    have hsim := ht.sim hs hsite
    have hfin : s.fin d ⟨T, sz, tm.map fun r => r.map (TC.inst fun o => .ptr k g i o), 2⟩ = s.setOwn d (gn + 1) (some ⟨T, sz, tm.map fun r => r.map (TC.inst fun o => .ptr k g i o), 2⟩) := by rw [St.fin, hown]
    rw [hfin] at hsim
    refine ⟨_, ⟨_, hsim.put (d := some d) hN (.als ?_ fun _ l hl => ?_)⟩, h⟩
    · show _ ≤ ((s.setOwn d (gn + 1) (some ⟨T, sz, tm.map fun r => r.map (TC.inst fun o => .ptr k g i o), 2⟩)).own d).1
      rw [setOwn_same]; exact Nat.le_refl _
    · simp only [envOf, setOwn_same, upg_same, Option.map_some, Option.some.injEq, List.length_map] at hl
      subst hl
      exact hals
  rcases hov with ⟨hnil, hvv⟩ | ⟨b', cap, cur', h1, hvv, h3, h4, h5, h6, h7, h8, h9, h10⟩
  · have : tm = [] := by simpa using hnil
    subst this
    exact main none (fun b hb => by cases hb) (.none_ rfl) (.inl ⟨rfl, rfl, rfl, hvv⟩)
  · rw [List.length_map] at h4 h8 hvv
    have hb' : b' < w'.heap.size := (Array.getElem?_eq_some_iff.1 h3).1
    refine main (some b') (fun b'' hb'' => by simp at hb''; subst hb''; exact ⟨hb', h1⟩) ⟨(fun e => by cases e), (fun b' _ hz => by simp only at hz; omega), (fun b' _ hz => by simp only at hz; omega), fun b'' hb'' _ => ?_⟩ (.inr ⟨b', cap, cur', rfl, by simpa using hvv, h3, h4, h5, by simpa using h6, by simp⟩)
    simp at hb''; subst hb''
    refine ⟨cur', h3, h7, by simpa using h8, fun r hr => ?_, fun i' j' r' pv e1 e2 => ?_⟩
    · simp only [List.mem_map] at hr
      obtain ⟨r0, hr0, rfl⟩ := hr
      have := h9 _ (List.mem_map.2 ⟨r0, hr0, rfl⟩)
      simpa using this
    · simp only [List.getElem?_map, Option.map_eq_some_iff] at e1
      obtain ⟨r0, hr0, rfl⟩ := e1
      simp only [List.getElem?_map, Option.map_eq_some_iff] at e2
      obtain ⟨t, ht, rfl⟩ := e2
      obtain ⟨q, q1, q2, q3⟩ := h10 i' j' (r0.map (TC.inst (rawP b (i * c.sz)))) (TC.inst (rawP b (i * c.sz)) t) (by rw [List.getElem?_map, hr0]; rfl) (by rw [List.getElem?_map, ht]; rfl)
      refine ⟨q, q1, q2, ?_⟩
      have htok : TC.ok c.sz t = true := List.all_eq_true.1 (List.all_eq_true.1 htm r0 (List.mem_of_getElem? hr0)) t (List.mem_of_getElem? ht)
      cases t with
      | p o =>
        have hq := (Rep.d (E := envOf C γ s w) (q3 _ _)).raw_inv
        subst hq
        exact hptr (some b') o (by simpa [TC.ok] using htok)
      | c v => exact .d (q3 _ _)
end
end Go.Pv
