/- Texts of one hand, gathered: LcN, LfE, LcO, LfF, PvEnd, PvTk, LfG, LfH, LfI, LfJ, LdL, LfK, LfM, LcE, LdM, LfL. -/
import Derived.Test.YtakfiahnhjnndaaGreatDoorCu5
import Derived.Test.YtakfiahnhjnndaaGreatDoorRows
import Derived.WalkKit
import Derived.ProofKit
import Derived.Handy
import Derived.Lay
import Derived.OpenShut
import Derived.Stop.Joined
import Derived.MakeChecks
import Derived.Stop.LaidErr
import Derived.Stop.Texts
import Derived.Lib.LaidTab
import Derived.Shelf.Vars
import Derived.SizedLaws
set_option linter.unusedSectionVars false
set_option linter.unusedSimpArgs false
set_option linter.unusedVariables false
set_option linter.unnecessarySimpa false
set_option maxHeartbeats 2000000
namespace Go.Pv
attribute [local irreducible] PWP POps PQuiet PSem XThen XBlock RetPost InlPost
open Go.Proofs
def bkX (q0 q1 q2 q3 q4 q5 q6 : Nat) (x0 x1 x2 x3 x4 x5 x6 : Cont) (g1 g2 g3 g5 g62 : Nat) (l : List SPost) : List (Nat × Nat × Cont) :=
  [(1, g1, ⟨142, 0, ordR l, 0⟩), (2, g2, ⟨143, 0, itmR l, 0⟩), (1005, g5, ⟨146, 4, [bkRow g1 g2 g3 g62 l], 2⟩), (62, g62 + l.length, ⟨23, 9, l.map ePost, 0⟩), (1003, g3, ⟨144, 0, gonR l, 0⟩), (2000, q0, x0), (2001, q1, x1), (2002, q2, x2), (2003, q3, x3), (2004, q4, x4), (2005, q5, x5), (2006, q6, x6)]
set_option maxRecDepth 20000 in
theorem post_inlX {K : St → Prop} {s : St} {d g1 g2 g3 g5 g62 : Nat} {q0 q1 q2 q3 q4 q5 q6 : Nat} {x0 x1 x2 x3 x4 x5 x6 : Cont} {x y : Operand} {tys : Array TypeId} {ty : TypeId} {pos : String} {af : Array Edge} (l : List SPost) (hW : Wf l) (p : SPost) (hx : s.ev x = .ptr 1005 g5 0 0) (hy : s.ev y = .agg (ePost p)) (ho : FitO s (bkX q0 q1 q2 q3 q4 q5 q6 x0 x1 x2 x3 x4 x5 x6 g1 g2 g3 g5 g62 l))
    (hno : ∀ s1 : St, refusalR l p ≠ 0 → K (({ reg := s.reg, own := (s1.over [] (bkX q0 q1 q2 q3 q4 q5 q6 x0 x1 x2 x3 x4 x5 x6 g1 g2 g3 g5 g62 l)).own } : St).putR d (.tup [I 0, I (refusalR l p)])))
    (hyes : ∀ s1 : St, refusalR l p = 0 → K (({ reg := s.reg, own := (s1.over [] (bkX q0 q1 q2 q3 q4 q5 q6 x0 x1 x2 x3 x4 x5 x6 g1 g2 g3 g5 g62 (l ++ [cleanP p]))).own } : St).putR d (.tup [I (l.length + 1), I 0]))) :
    Sm Tryz.prog lay.get s ⟨some d, .call ⟨.value (.func 46), #[x, y], tys⟩, ty, pos, af, none⟩ K := by
  have hl := hW.len
  have hll : ((l.map ePost).length : Int) = l.length := by simp
  have h36 := checkPost_ret p
  have h37 := refused_ret l hW p
  have h38 := cleared_ret p
  refine sm_inline layOk rfl rfl Tryz.func46 rfl (by decide) rfl rfl ?_
  show PWP _ _ _ _ (callSt s (([x, y] : List Operand).map s.ev ++ []))
  rw [show (([x, y] : List Operand).map s.ev ++ ([] : List PV)) = [.ptr 1005 g5 0 0, .agg (ePost p)] by simp [hx, hy]]
  rw [show callSt s [.ptr 1005 g5 0 0, .agg (ePost p)] = callSt (s.over [] (bkX q0 q1 q2 q3 q4 q5 q6 x0 x1 x2 x3 x4 x5 x6 g1 g2 g3 g5 g62 l)) [.ptr 1005 g5 0 0, .agg (ePost p)] by rw [Fit.over (l := []) ho]]
  have nope : refusalR l p ≠ 0 → ∀ (st : St) (e : Exit), (e = .ret ∨ e = .normal) → st.reg 4 = I 0 → st.reg 5 = I (refusalR l p) → FitO st (bkX q0 q1 q2 q3 q4 q5 q6 x0 x1 x2 x3 x4 x5 x6 g1 g2 g3 g5 g62 l) → InlPost lay.get Tryz.f46 (fun s' r => K (({ reg := s.reg, own := s'.own } : St).putR d r)) e st := fun hr st e he h1 h2 h3 =>
    inl_end2O (K := fun o r => K (({ reg := s.reg, own := o } : St).putR d r)) _ he rfl h1 h2 h3 fun s1 => hno s1 hr
  clear ho hx hy
  ((repeat (first | refine ps_nil ?_ | refine pq_nil ?_ | refine x_norm ?_ | refine pw_seq ?_)); refine pw_region ?_)
  refine ps_run (o_box rfl rfl rfl (by repeat' constructor) rfl ?_)
  generalize (s.own 3).1 + 1 = gg
  repeat (refine stp rfl ?_ ?_;·repeat' constructor)
  apply qst;exact rfl;exact rfl;exact q_callP rfl (h36) rfl (by repeat' constructor) rfl rfl
  repeat (refine stp rfl ?_ ?_;·repeat' constructor)
  refine pw_cond rfl (fun h => ?_) (fun h => ?_)
  · have hne : ¬ checkE p = 0 := by simpa using h
    have hr : refusalR l p = checkE p := by rw [refusalR, if_neg hne]
    repeat (refine stp rfl ?_ ?_;·repeat' constructor)
    exact nope (by rw [hr]; exact hne) _ _ (.inl rfl) rfl (by rw [hr]; rfl) ⟨rfl, rfl, rfl, rfl, rfl, rfl, rfl, rfl, rfl, rfl, rfl, rfl, trivial⟩
  have hc0 : checkE p = 0 := by simpa using h
  rw [refusalR, if_pos hc0] at nope hno hyes
  clear h h36
  refine pw_skip ?_
  refine x_norm ?_
  refine pw_cutP (¬ 400 ≤ l.length ∧ ¬ (0 < l.length ∧ p.day < (entL l l.length).day)) [(0, .ptr 1005 g5 0 0), (3, .ptr 3 gg 0 0)] ((3, gg, ⟨23, 9, [ePost p], 2⟩) :: bkX q0 q1 q2 q3 q4 q5 q6 x0 x1 x2 x3 x4 x5 x6 g1 g2 g3 g5 g62 l) ?_ ?_
  · repeat (refine stp rfl ?_ ?_;·repeat' constructor)
    rw [hll]
    by_cases h4 : 400 ≤ l.length
    · rw [if_pos h4] at nope
      refine pw_cond rfl (fun h => ?_) (fun h => ?_)
      · repeat (refine stp rfl ?_ ?_;·repeat' constructor)
        exact nope (by decide) _ _ (.inl rfl) rfl rfl ⟨rfl, rfl, rfl, rfl, rfl, rfl, rfl, rfl, rfl, rfl, rfl, rfl, trivial⟩
      · exact absurd (of_decide_eq_false h) (by omega)
    rw [if_neg h4] at nope
    refine pw_cond rfl (fun h => ?_) (fun h => ?_)
    · exact absurd (of_decide_eq_true h) (by omega)
    clear h
    have hwl : 0 < l.length → IntKind.wrap .i64 ((l.length : Int) - 1) = (l.length : Int) - 1 := fun h => wrap_i64 (by omega) (by omega)
    repeat (refine stp rfl ?_ ?_;·repeat' constructor)
    refine pw_draw 25 [24, 25, 26, 27, 28, 29, 30, 31, 32, 33, 34, 35, 36, 37, 38, 39, 40, 41, 42, 43, 44, 45, 46, 47, 23] (by decide +kernel) ?_
    repeat (refine stp rfl ?_ ?_;·repeat' constructor)
    rw [hll]
    (first | refine ps_split rfl rfl (fun h => ?_) (fun h => ?_) | refine pq_split rfl rfl (fun h => ?_) (fun h => ?_) | refine p3_split rfl rfl (fun h => ?_) (fun h => ?_))
    · have hlp := of_decide_eq_true h
      have he := entL_at (l := l) (n := l.length) (by omega) (by omega)
      have hwl := hwl (by omega)
      have hrow : (l.map ePost)[0 + ((l.length : Int) - 1).toNat]? = some (ePost (entL l l.length)) := by rw [List.getElem?_map, Nat.zero_add, he]; rfl
      repeat (refine stp rfl ?_ ?_;·repeat' constructor)
      rw [hll, hwl]
      apply qst;exact rfl;exact rfl;exact q_idxA rfl rfl rfl rfl rfl rfl rfl (by omega) (by omega)
      repeat (refine stp rfl ?_ ?_;·repeat' constructor)
      apply qst;exact rfl;exact rfl;exact q_ldp rfl rfl rfl hrow rfl
      repeat (refine stp rfl ?_ ?_;·repeat' constructor)
      refine pw_cond rfl (fun h => ?_) (fun h => ?_)
      · have hd := of_decide_eq_true h
        rw [if_pos ⟨by omega, hd⟩] at nope
        repeat (refine stp rfl ?_ ?_;·repeat' constructor)
        exact nope (by decide) _ _ (.inl rfl) rfl rfl ⟨rfl, rfl, rfl, rfl, rfl, rfl, rfl, rfl, rfl, rfl, rfl, rfl, trivial⟩
      · have hd := of_decide_eq_false h
        repeat (refine stp rfl ?_ ?_;·repeat' constructor)
        exact ⟨⟨h4, fun hc => hd hc.2⟩, rfl, rfl, rfl, rfl, rfl, rfl, rfl, rfl, rfl, rfl, rfl, rfl, rfl, rfl, rfl, trivial⟩
    · have hlp := of_decide_eq_false h
      repeat (refine stp rfl ?_ ?_;·repeat' constructor)
      exact ⟨⟨h4, fun hc => hlp (by omega)⟩, rfl, rfl, rfl, rfl, rfl, rfl, rfl, rfl, rfl, rfl, rfl, rfl, rfl, rfl, rfl, trivial⟩
  rintro ⟨h4, hday⟩ s1
  rw [if_neg h4, if_neg hday] at nope hno hyes
  repeat (refine stp rfl ?_ ?_;·repeat' constructor)
  apply qst;exact rfl;exact rfl;exact q_callP rfl (h37) rfl (by repeat' constructor) rfl rfl
  repeat (refine stp rfl ?_ ?_;·repeat' constructor)
  refine pw_cond rfl (fun h => ?_) (fun h => ?_)
  · have hne : ¬ refE l p = 0 := by simpa using h
    repeat (refine stp rfl ?_ ?_;·repeat' constructor)
    exact nope hne _ _ (.inl rfl) rfl rfl ⟨rfl, rfl, rfl, rfl, rfl, rfl, rfl, rfl, rfl, rfl, rfl, rfl, trivial⟩
  have hr0 : refE l p = 0 := by simpa using h
  clear h nope hno
  replace hyes := fun s1 => hyes s1 hr0
  have hsn := bk_snoc l (cleanP p)
  have hqo := clean_op p
  generalize hq : cleanP p = q at *
  refine pw_skip ?_
  refine x_norm ?_
  refine pw_cut [(0, .ptr 1005 g5 0 0), (3, .ptr 3 gg 0 0)] [(1, g1, ⟨142, 0, ordR l, 0⟩), (2, g2, ⟨143, 0, itmR l, 0⟩), (3, gg, ⟨23, 9, [ePost p], 2⟩), (1005, g5, ⟨146, 4, [bkRow g1 g2 g3 g62 (l ++ [q])], 2⟩), (62, g62 + (l ++ [q]).length, ⟨23, 9, (l ++ [q]).map ePost, 0⟩), (1003, g3, ⟨144, 0, gonR l, 0⟩), (2000, q0, x0), (2001, q1, x1), (2002, q2, x2), (2003, q3, x3), (2004, q4, x4), (2005, q5, x5), (2006, q6, x6)] ?_ ?_
  · refine pw_draw3 [1005, 62] [2, 3, 4, 8, 9, 10, 11] (by decide +kernel) ?_
    repeat (refine stp rfl ?_ ?_;·repeat' constructor)
    apply qst;exact rfl;exact rfl;exact q_call rfl (h38) rfl (by repeat' constructor) rfl
    repeat (refine stp rfl ?_ ?_;·repeat' constructor)
    apply qst;exact rfl;exact rfl;exact q_slit rfl rfl rfl rfl rfl rfl rfl rfl rfl rfl (by repeat' constructor) rfl
    repeat (refine stp rfl ?_ ?_;·repeat' constructor)
    refine z3e rfl rfl rfl (o_app 0 rfl rfl rfl rfl rfl rfl rfl rfl rfl rfl rfl (by repeat' constructor) (by intro row hr; first | (simp at hr; subst hr; rfl) | (simp at hr; obtain ⟨_, _, rfl⟩ := hr; rfl) | simp at hr) rfl rfl (by simp; omega) (by simp; omega) ⟨offz rfl, ?_⟩)
    repeat (refine stp rfl ?_ ?_;·repeat' constructor)
    refine ⟨rfl, rfl, rfl, rfl, rfl, ?_, ?_, rfl, rfl, rfl, rfl, rfl, rfl, rfl, rfl, trivial⟩
    · refine Eq.trans (b := (g5, some (Cont.mk 146 4 [[.als 62 (g62 + l.length + 1) 0 (l.map ePost ++ [ePost q]).length, .mp 1 g1, .mp 2 g2, .mp 1003 g3]] 2))) rfl ?_
      rw [als_snoc ePost 62 g62 l q]; rfl
    · exact cont_snoc ePost g62 23 9 0 l q
  intro s2
  have hl2 : (((l ++ [q]).map ePost).length : Int) = l.length + 1 := by simp
  have fin : ∀ (st : St), st.reg 4 = I (l.length + 1) → st.reg 5 = I 0 → FitO st (bkX q0 q1 q2 q3 q4 q5 q6 x0 x1 x2 x3 x4 x5 x6 g1 g2 g3 g5 g62 (l ++ [q])) → InlPost lay.get Tryz.f46 (fun s' r => K (({ reg := s.reg, own := s'.own } : St).putR d r)) .ret st := fun st h1 h2 h3 =>
    inl_end2O (K := fun o r => K (({ reg := s.reg, own := o } : St).putR d r)) _ (.inl rfl) rfl h1 h2 h3 fun s1 => hyes s1
  rw [refE] at hr0
  by_cases h0 : p.op = 0
  · rw [if_pos h0] at hr0
    have hz : ¬ 0 < ordNo l p.order := by intro hc; rw [if_pos hc] at hr0; omega
    have hqq : q.order = p.order := by rw [← hq, cleanP, h0]; rfl
    have hput := mput_new (v := I (l.length + 1)) (ord_none hz)
    have e1 : ordR (l ++ [q]) = ordR l ++ [[.str p.order, I (l.length + 1)]] := by rw [hsn.1, ordK, hqo.1, if_pos h0, hqq]; simp [numV]
    have e2 : itmR (l ++ [q]) = itmR l := by rw [hsn.2.1, itmK, hqo.1, if_neg (by omega)]; simp
    have e3 : gonR (l ++ [q]) = gonR l := by rw [hsn.2.2, gonK, hqo.1, if_neg (by omega)]; simp
    rw [← e1] at hput
    rw [bkX, e2, e3] at fin
    repeat (refine stp rfl ?_ ?_;·repeat' constructor)
    rw [hl2]
    repeat (first|(refine stp rfl ?_ ?_;·repeat' constructor)|(refine pw_cond rfl (fun hA => absurd hA (by intro hA; simp only [decide_eq_true_eq, decide_eq_false_iff_not, Bool.not_eq_true', Bool.not_eq_false'] at hA; omega)) (fun _ => ?_))|(refine pw_cond rfl (fun _ => ?_) (fun hA => absurd hA (by intro hA; simp only [decide_eq_true_eq, decide_eq_false_iff_not, Bool.not_eq_true', Bool.not_eq_false'] at hA; omega))))
    refine pw_draw 7 [74, 75, 76, 77, 78, 79, 80] (by decide +kernel) ?_
    repeat (refine stp rfl ?_ ?_;·repeat' constructor)
    refine ps_run0 (o_msetG none 0 rfl rfl rfl rfl rfl rfl rfl rfl rfl rfl (ordR_keyed l) rfl rfl ?_)
    rw [show nrm 0 (I (l.length + 1)) = I (l.length + 1) from rfl, hput]
    repeat (refine stp rfl ?_ ?_;·repeat' constructor)
    exact fin _ rfl rfl ⟨rfl, rfl, rfl, rfl, rfl, rfl, rfl, rfl, rfl, rfl, rfl, rfl, trivial⟩
  rw [if_neg h0] at hr0
  by_cases h1 : p.op = 1
  · rw [if_pos h1] at hr0
    have hz : ¬ 0 < itmNo l p.order p.item := by
      intro hc; rw [if_pos hc] at hr0; split at hr0 <;> omega
    have hqq : q.order = p.order ∧ q.item = p.item := by rw [← hq, cleanP, h1]; exact ⟨rfl, rfl⟩
    have hput := mput_new (v := I (l.length + 1)) (itm_none hz)
    have e1 : ordR (l ++ [q]) = ordR l := by rw [hsn.1, ordK, hqo.1, if_neg h0]; simp
    have e2 : itmR (l ++ [q]) = itmR l ++ [[.agg [.str p.order, .str p.item], I (l.length + 1)]] := by rw [hsn.2.1, itmK, hqo.1, if_pos h1, hqq.1, hqq.2]; simp [numV]
    have e3 : gonR (l ++ [q]) = gonR l := by rw [hsn.2.2, gonK, hqo.1, if_neg (by omega)]; simp
    rw [← e2] at hput
    rw [bkX, e1, e3] at fin
    clear h0
    repeat (refine stp rfl ?_ ?_;·repeat' constructor)
    rw [hl2]
    repeat (first|(refine stp rfl ?_ ?_;·repeat' constructor)|(refine pw_cond rfl (fun hA => absurd hA (by intro hA; simp only [decide_eq_true_eq, decide_eq_false_iff_not, Bool.not_eq_true', Bool.not_eq_false'] at hA; omega)) (fun _ => ?_))|(refine pw_cond rfl (fun _ => ?_) (fun hA => absurd hA (by intro hA; simp only [decide_eq_true_eq, decide_eq_false_iff_not, Bool.not_eq_true', Bool.not_eq_false'] at hA; omega))))
    refine pw_draw 10 [83, 84, 85, 86, 87, 88, 89, 90, 91, 92] (by decide +kernel) ?_
    repeat (refine stp rfl ?_ ?_;·repeat' constructor)
    refine ps_run0 (o_msetG (some [.str, .str]) 0 rfl rfl rfl good72 rfl rfl rfl rfl rfl rfl (itmR_keyed l _) rfl rfl ?_)
    rw [show nrm 0 (I (l.length + 1)) = I (l.length + 1) from rfl]
    refine Eq.mp (congrArg (fun r => POps _ _ _ _ _ (St.setOwn _ 2 g2 (some ⟨143, 0, r, 0⟩))) hput.symm) ?_
    repeat (refine stp rfl ?_ ?_;·repeat' constructor)
    exact fin _ rfl rfl ⟨rfl, rfl, rfl, rfl, rfl, rfl, rfl, rfl, rfl, rfl, rfl, rfl, trivial⟩
  rw [if_neg h1] at hr0
  by_cases h8 : p.op = 8
  · rw [if_neg (by omega), if_neg (by omega), if_pos h8] at hr0
    have hqq : q.ref = p.ref := by rw [← hq, cleanP, h8]; rfl
    have hput := mput_new (v := .bool true) (gon_none hW hr0)
    have e1 : ordR (l ++ [q]) = ordR l := by rw [hsn.1, ordK, hqo.1, if_neg h0]; simp
    have e2 : itmR (l ++ [q]) = itmR l := by rw [hsn.2.1, itmK, hqo.1, if_neg h1]; simp
    have e3 : gonR (l ++ [q]) = gonR l ++ [[I p.ref, .bool true]] := by rw [hsn.2.2, gonK, hqo.1, if_pos h8, hqq]
    rw [← e3] at hput
    rw [bkX, e1, e2] at fin
    clear h0 h1
    repeat (refine stp rfl ?_ ?_;·repeat' constructor)
    rw [hl2]
    repeat (first|(refine stp rfl ?_ ?_;·repeat' constructor)|(refine pw_cond rfl (fun hA => absurd hA (by intro hA; simp only [decide_eq_true_eq, decide_eq_false_iff_not, Bool.not_eq_true', Bool.not_eq_false'] at hA; omega)) (fun _ => ?_))|(refine pw_cond rfl (fun _ => ?_) (fun hA => absurd hA (by intro hA; simp only [decide_eq_true_eq, decide_eq_false_iff_not, Bool.not_eq_true', Bool.not_eq_false'] at hA; omega))))
    refine pw_draw 6 [95, 96, 97, 98, 99, 100] (by decide +kernel) ?_
    repeat (refine stp rfl ?_ ?_;·repeat' constructor)
    refine ps_run0 (o_msetG none 0 rfl rfl rfl rfl rfl rfl rfl rfl rfl rfl (gonR_keyed l) rfl rfl ?_)
    rw [show nrm 0 (.bool true) = .bool true from rfl, hput]
    repeat (refine stp rfl ?_ ?_;·repeat' constructor)
    exact fin _ rfl rfl ⟨rfl, rfl, rfl, rfl, rfl, rfl, rfl, rfl, rfl, rfl, rfl, rfl, trivial⟩
  have e1 : ordR (l ++ [q]) = ordR l := by rw [hsn.1, ordK, hqo.1, if_neg h0]; simp
  have e2 : itmR (l ++ [q]) = itmR l := by rw [hsn.2.1, itmK, hqo.1, if_neg h1]; simp
  have e3 : gonR (l ++ [q]) = gonR l := by rw [hsn.2.2, gonK, hqo.1, if_neg h8]; simp
  rw [bkX, e1, e2, e3] at fin
  repeat (refine stp rfl ?_ ?_;·repeat' constructor)
  rw [hl2]
  repeat (first|(refine stp rfl ?_ ?_;·repeat' constructor)|(refine pw_cond rfl (fun hA => absurd hA (by intro hA; simp only [decide_eq_true_eq, decide_eq_false_iff_not, Bool.not_eq_true', Bool.not_eq_false'] at hA; omega)) (fun _ => ?_))|(refine pw_cond rfl (fun _ => ?_) (fun hA => absurd hA (by intro hA; simp only [decide_eq_true_eq, decide_eq_false_iff_not, Bool.not_eq_true', Bool.not_eq_false'] at hA; omega))))
  exact fin _ rfl rfl ⟨rfl, rfl, rfl, rfl, rfl, rfl, rfl, rfl, rfl, rfl, rfl, rfl, trivial⟩
end Go.Pv


set_option maxHeartbeats 2000000
namespace Go.Pv
attribute [local irreducible] PWP POps PQuiet PSem XThen XBlock RetPost InlPost
open Go.Proofs
def recS (l : List SPost) (n : Int) (s : Str) : Option (SPost × Int) :=
  match progC (Lib.cut s [32, 35]).1 with
  | none => none
  | some c => if s = lineT n (textP c) then (if refusalR l c = 0 then some (cleanP c, sumF n (textP c)) else none) else none
theorem prog_fine {s : Str} {c : SPost} (h : progC s = some c) : checkE c = 0 ∧ textP c = s := by
  rw [progC, progC1] at h
  split at h
  · cases h
  split at h
  · cases h
  rw [progC2] at h
  split at h
  · cases h
  split at h
  · cases h
  unfold progF at h
  split at h
  · cases h
  · split at h
    · rename_i hc
      cases h; exact hc
    · cases h
theorem cut_le (s t : Str) : (Lib.cut s t).1.length ≤ s.length := by
  unfold Lib.cut
  split <;> simp <;> omega
def findR : Code → Option (Array Tmp × Code × Code)
  | .rangeFunc _ ps a b => some (ps, a, b)
  | .seq x y => match findR x with | some r => some r | none => findR y
  | .block _ c => findR c
  | .loop c => findR c
  | .cond _ x y => match findR x with | some r => some r | none => findR y
  | _ => none
noncomputable def rcR : Array Tmp × Code × Code := (findR ((Tryz.f21.body).getD .skip)).getD (#[], .skip, .skip)
noncomputable abbrev rcRec (st : LoopState) (pend : Option Code) (regs : Nat → PV) : Cont := rndC #[20] rcR.2.1 rcR.2.2 st pend regs
noncomputable def rcO (q0 q1 q2 q3 q4 q5 q6 : Nat) (st : LoopState) (regs : Nat → PV) (x4 x5 x6 : Cont) (g1 g2 g3 g5 g62 : Nat) (l : List SPost) (n a : Int) : List (Nat × Nat × Cont) :=
  bkX q0 q1 q2 q3 q4 q5 q6 (rcRec st none regs) ⟨41, 1, [[.ptr 1005 g5 0 0]], 2⟩ ⟨3, 1, [[I a]], 2⟩ ⟨3, 1, [[I n]], 2⟩ x4 x5 x6 g1 g2 g3 g5 g62 l
def rcG (q1 q2 q3 : Nat) : List (Nat × PV) := [(4, .ptr 2001 q1 0 0), (5, .ptr 2002 q2 0 0), (6, .ptr 2003 q3 0 0)]
set_option maxRecDepth 20000 in
theorem rec_round {Post : Exit → St → Prop} {q0 q1 q2 q3 q4 q5 q6 g1 g2 g3 g5 g62 : Nat} {x4 x5 x6 : Cont} (s0 s1 : St) (l : List SPost) (hA : Acc l) (n a : Int) (s : Str) (hs : s.length ≤ 100000) (h0 : 0 ≤ n) (h1 : n < 65521) (ha0 : 0 ≤ a) (ha1 : a ≤ 100000)
    (hno : ∀ s2, recS l n s = none → FitO s2 (rcO q0 q1 q2 q3 q4 q5 q6 .busy (s0.over (rcG q1 q2 q3) []).reg x4 x5 x6 g1 g2 g3 g5 g62 l n a) → Post (.exit 0) s2)
    (hyes : ∀ s2 c m, recS l n s = some (c, m) → FitO s2 (rcO q0 q1 q2 q3 q4 q5 q6 .busy (s0.over (rcG q1 q2 q3) []).reg x4 x5 x6 g1 g2 g3 g5 g62 (l ++ [c]) m (a + s.length)) → Post .normal s2) :
    PWP Tryz.prog lay.get rcR.2.1 (XThen (fun s2 => s2.own 2000 = (q0, some (rcRec .ready none (s0.over (rcG q1 q2 q3) []).reg)) ∧ PWP Tryz.prog lay.get rcR.2.2 Post { reg := s2.reg, own := (s2.setOwn 2000 q0 (some (rcRec .busy none (s0.over (rcG q1 q2 q3) []).reg))).own }) (fun _ _ => False))
      { reg := bindP [(20, .str s)] (s0.over (rcG q1 q2 q3) []).reg, own := (s1.over [] (rcO q0 q1 q2 q3 q4 q5 q6 .ready (s0.over (rcG q1 q2 q3) []).reg x4 x5 x6 g1 g2 g3 g5 g62 l n a)).own } := by
  have hW := hA.ok.wf
  refine pw_region ?_
  repeat (refine stp rfl ?_ ?_;·repeat' constructor)
  refine ⟨rfl, ?_⟩
  have hcut := cut_mark s [32, 35] (by omega)
  have hcl : (Lib.cut s [32, 35]).1.length ≤ 100000 := Nat.le_trans (cut_le s [32, 35]) hs
  have hpar := parse_ret (Lib.cut s [32, 35]).1 (by omega)
  rw [recS] at hno hyes
  generalize Lib.cut s [32, 35] = ct at *
  repeat (refine stp rfl ?_ ?_;·repeat' constructor)
  apply qst;exact rfl;exact rfl;exact q_callP rfl (hcut) rfl (by repeat' constructor) rfl rfl
  repeat (refine stp rfl ?_ ?_;·repeat' constructor)
  rcases hpc : progC ct.1 with _ | c
  · rw [hpc] at hpar hno
    replace hno := fun s2 => hno s2 rfl
    clear hyes
    repeat (refine stp rfl ?_ ?_;·repeat' constructor)
    apply qst;exact rfl;exact rfl;exact q_callF rfl (hpar) rfl (by repeat' constructor) rfl
    repeat (refine stp rfl ?_ ?_;·repeat' constructor)
    exact hno _ ⟨rfl, rfl, rfl, rfl, rfl, rfl, rfl, rfl, rfl, rfl, rfl, rfl, trivial⟩
  rw [hpc] at hpar hno hyes
  obtain ⟨hc0, hct⟩ := prog_fine hpc
  have hln := line_ret c n hc0 h0 h1
  simp only at hno hyes
  repeat (refine stp rfl ?_ ?_;·repeat' constructor)
  apply qst;exact rfl;exact rfl;exact q_callF rfl (hpar) rfl (by repeat' constructor) rfl
  repeat (refine stp rfl ?_ ?_;·repeat' constructor)
  apply qst;exact rfl;exact rfl;exact q_callP rfl (hln) rfl (by repeat' constructor) rfl rfl
  repeat (refine stp rfl ?_ ?_;·repeat' constructor)
  refine pw_cond rfl (fun h => ?_) (fun h => ?_)
  · have hne : ¬ s = lineT n (textP c) := by simpa using h
    rw [if_neg hne] at hno
    repeat (refine stp rfl ?_ ?_;·repeat' constructor)
    exact hno _ rfl ⟨rfl, rfl, rfl, rfl, rfl, rfl, rfl, rfl, rfl, rfl, rfl, rfl, trivial⟩
  have heq : s = lineT n (textP c) := by simpa using h
  clear h
  rw [if_pos heq] at hno hyes
  ((repeat ((fail_if_success (with_reducible refine pw_at 10 ?_)); (refine stp rfl ?_ ?_;·repeat' (first|exact True.intro|exact rfl|refine And.intro ?_ ?_)))); refine pw_regionS 2 ?_)
  repeat (refine stp rfl ?_ ?_;·repeat' constructor)
  refine psem_sm rfl (post_inlX (g1 := g1) (g2 := g2) (g3 := g3) (g5 := g5) (g62 := g62) l hW c rfl rfl ⟨rfl, rfl, rfl, rfl, rfl, rfl, rfl, rfl, rfl, rfl, rfl, rfl, trivial⟩ (fun s2 hne => ?_) (fun s2 hz => ?_))
  · rw [if_neg hne] at hno
    refine psem_ops ?_
    repeat (refine stp rfl ?_ ?_;·repeat' constructor)
    refine pw_cond rfl (fun h => ?_) (fun h => ?_)
    · repeat (refine stp rfl ?_ ?_;·repeat' constructor)
      exact hno _ rfl ⟨rfl, rfl, rfl, rfl, rfl, rfl, rfl, rfl, rfl, rfl, rfl, rfl, trivial⟩
    · exact absurd (by simpa using h) hne
  · rw [if_pos hz] at hyes
    refine psem_ops ?_
    repeat (refine stp rfl ?_ ?_;·repeat' constructor)
    refine hyes _ _ _ rfl ⟨rfl, rfl, rfl, rfl, rfl, rfl, rfl, ?_, rfl, rfl, rfl, rfl, trivial⟩
    refine Eq.trans (b := (q2, some (Cont.mk 3 1 [[I (IntKind.wrap .i64 (a + ((s.length : Nat) : Int)))]] 2))) rfl ?_
    rw [wrap_i64 (by omega) (by omega)]
end Go.Pv


set_option maxHeartbeats 2000000
namespace Go.Pv
attribute [local irreducible] PWP POps PQuiet PSem XThen XBlock RetPost InlPost
open Go.Proofs
set_option maxRecDepth 20000 in
theorem new_inlX {K : St → Prop} {s : St} {d : Nat} {ty : TypeId} {pos : String} {af : Array Edge}
    (hK : ∀ (s1 : St) (g1 g2 g3 g5 g62 : Nat), K (({ reg := s.reg, own := (s1.over [] [(1, g1, ⟨142, 0, [], 0⟩), (2, g2, ⟨143, 0, [], 0⟩), (1005, g5, ⟨146, 4, [[.als 62 g62 0 0, .mp 1 g1, .mp 2 g2, .mp 1003 g3]], 2⟩), (62, g62, ⟨23, 9, [], 0⟩), (1003, g3, ⟨144, 0, [], 0⟩)]).own } : St).putR d (.ptr 1005 g5 0 0))) :
    Sm Tryz.prog lay.get s ⟨some d, .call ⟨.value (.func 73), #[], #[]⟩, ty, pos, af, none⟩ K := by
  refine sm_inline layOk rfl rfl Tryz.func73 rfl (by decide) rfl rfl ?_
  show PWP _ _ _ _ (callSt s [])
  repeat (refine stp rfl ?_ ?_;·repeat' constructor)
  refine ps_run (o_mkmap rfl ?_)
  refine ps_run (o_mkmap rfl ?_)
  refine ps_run (o_mkmap rfl ?_)
  iterate 5 (refine stp rfl ?_ ?_;·repeat' constructor)
  refine pw_ghost (Ghost.move (k := 5) (k' := 1005) (t := 0) rfl rfl rfl rfl) ?_
  refine pw_ghost (Ghost.moveC (k := 3) (k' := 1003) (k0 := 1005) (i := 0) (j := 3) rfl rfl rfl rfl rfl rfl rfl rfl rfl rfl) ?_
  refine pw_ghost (Ghost.nilcell (k := 62) (k0 := 1005) (i := 0) (j := 0) 23 9 0 rfl rfl rfl rfl rfl rfl rfl) ?_
  repeat (refine stp rfl ?_ ?_;·repeat' constructor)
  refine inl_end1O (t := 0) (v := .ptr 1005 ((s.own 1005).1 + 1) 0 0) (K := fun o r => K (({ reg := s.reg, own := o } : St).putR d r)) [(1, (s.own 1).1 + 1, ⟨142, 0, [], 0⟩), (2, (s.own 2).1 + 1, ⟨143, 0, [], 0⟩), (1005, (s.own 1005).1 + 1, ⟨146, 4, [[.als 62 ((s.own 62).1 + 1) 0 0, .mp 1 ((s.own 1).1 + 1), .mp 2 ((s.own 2).1 + 1), .mp 1003 ((s.own 1003).1 + 1)]], 2⟩), (62, (s.own 62).1 + 1, ⟨23, 9, [], 0⟩), (1003, (s.own 1003).1 + 1, ⟨144, 0, [], 0⟩)] (.inl rfl) ?_ ?_ ?_ fun s1 => hK s1 _ _ _ _ _
  · rfl
  · rfl
  · exact ⟨rfl, rfl, rfl, rfl, rfl, trivial⟩
end Go.Pv


set_option maxHeartbeats 2000000
namespace Go.Pv
attribute [local irreducible] PWP POps PQuiet PSem XThen XBlock RetPost InlPost
open Go.Proofs
def recG : Nat → Str → List SPost → Int → Int → List SPost × Int
  | 0, _, l, _, a => (l, a)
  | f + 1, r, l, n, a =>
    if Lib.indexByte r 10 < 0 then (match recS l n r with
      | none => (l, a)
      | some (c, m) => (l ++ [c], a + r.length))
    else (match recS l n (r.take ((Lib.indexByte r 10).toNat + 1)) with
      | none => (l, a)
      | some (c, m) => recG f (r.drop ((Lib.indexByte r 10).toNat + 1)) (l ++ [c]) m (a + ((Lib.indexByte r 10).toNat + 1 : Nat)))
def recP (t : Str) : List SPost × Int := recG (t.length + 1) t [] 1 0
theorem index_one (s : Str) (c : UInt8) : Ret Tryz.prog .shared 155 [.str s, .str [c]] (I (Lib.indexByte s c)) := by
  refine ⟨⟨_, Go.Proofs.Tryz.func155, by decide, rfl⟩, fun w X args hg hX hl hargs => ?_⟩
  match args, hl with
  | [v, u], _ =>
    have hv := hargs 0 _ v rfl rfl
    have hu := hargs 1 _ u rfl rfl
    cases hv
    cases hu
    refine (Go.Proofs.Tryz.strings_Index_one ⟨s.toArray⟩ c w).mono ?_
    rintro e w' ⟨rfl, rfl⟩
    exact ⟨_, rfl, ⟨rfl, rfl, rfl, Nat.le_refl _, fun _ _ => rfl⟩, .int _ _⟩
theorem recS_some {l : List SPost} {n m : Int} {s : Str} {c : SPost} (h : recS l n s = some (c, m)) : ∃ c0, progC (Lib.cut s [32, 35]).1 = some c0 ∧ s = lineT n (textP c0) ∧ refusalR l c0 = 0 ∧ c = cleanP c0 ∧ m = sumF n (textP c0) := by
  rw [recS] at h
  split at h
  · cases h
  · rename_i c0 hp
    split at h
    · rename_i hs
      split at h
      · rename_i hr
        cases h
        exact ⟨c0, hp, hs, hr, rfl, rfl⟩
      · cases h
    · cases h
theorem pw_lp {P : Program} {L : Lay} {x : Code} {Q : Exit → St → Prop} {s : St} (h : PWP P L (.loop x) Q s) : PWP P L (.loop x) Q s := h
def RecI (t : Str) (k : Nat × Str × List SPost × Int × Int) : Prop :=
  recG k.1 k.2.1 k.2.2.1 k.2.2.2.1 k.2.2.2.2 = recP t ∧ Acc k.2.2.1 ∧ 0 ≤ k.2.2.2.1 ∧ k.2.2.2.1 < 65521 ∧ 0 ≤ k.2.2.2.2 ∧ k.2.2.2.2 + k.2.1.length = t.length ∧ k.2.1.length < k.1
theorem inl_one {L : Lay} {fn : Func} {K : St → PV → Prop} {s : St} {t : Nat} {v : PV} (h : fn.results.toList = [.tmp t]) (h1 : s.reg t = v) (hk : K s v) : InlPost L fn K .ret s := by
  unfold InlPost
  refine ⟨[s.reg t], True ∧ True, by rw [h]; rfl, ⟨trivial, trivial⟩, ?_⟩
  rw [h1]; exact hk
theorem pw_norm {P : Program} {L : Lay} {x : Code} {Q : Exit → St → Prop} {s : St} (R : List (Nat × PV)) (O : List (Nat × Nat × Cont)) (hf : Fit s R O) (h : ∀ s1 : St, PWP P L x Q (s1.over R O)) : PWP P L x Q s := by
  have := h s
  rwa [Fit.over hf] at this
set_option maxRecDepth 20000 in
theorem recover_ret (t : Str) (ht : t.length ≤ 100000) : Ret Tryz.prog .fresh 21 [.str t] (.tup [.dref (eBook (recP t).1) 0, I (recP t).2]) := by
  refine Ret.of_pwpR layOk mixed Go.Proofs.Tryz.func21 rfl (by decide) rfl rfl rfl ?_
  ((repeat ((fail_if_success (with_reducible refine pw_at 1 ?_)); (refine stp rfl ?_ ?_;·repeat' (first|exact True.intro|exact rfl|refine And.intro ?_ ?_)))); refine pw_regionS 0 ?_)
  refine ps_nil ?_
  refine psem_sm rfl (new_inlX fun s1 g1 g2 g3 g5 g62 => ?_)
  refine psem_ops ?_
  (repeat ((fail_if_success (with_reducible refine pw_at 3 ?_)); (refine stp rfl ?_ ?_;·repeat' (first|exact True.intro|exact rfl|refine And.intro ?_ ?_))))
  refine pw_ghost (Ghost.move (k := 4) (k' := 2001) (t := 4) rfl rfl rfl rfl) ?_
  refine pw_ghost (Ghost.move (k := 5) (k' := 2002) (t := 5) rfl rfl rfl rfl) ?_
  refine pw_ghost (Ghost.move (k := 6) (k' := 2003) (t := 6) rfl rfl rfl rfl) ?_
  refine pw_norm [(0, .str t), (4, .ptr 2001 ((s1.own 2001).1 + 1) 0 0), (5, .ptr 2002 ((s1.own 2002).1 + 1) 0 0), (6, .ptr 2003 ((s1.own 2003).1 + 1) 0 0)]
    [(1, g1, ⟨142, 0, [], 0⟩), (2, g2, ⟨143, 0, [], 0⟩), (1005, g5, ⟨146, 4, [[.als 62 g62 0 0, .mp 1 g1, .mp 2 g2, .mp 1003 g3]], 2⟩), (62, g62, ⟨23, 9, [], 0⟩), (1003, g3, ⟨144, 0, [], 0⟩), (2001, (s1.own 2001).1 + 1, ⟨41, 1, [[.ptr 1005 g5 0 0]], 2⟩), (2002, (s1.own 2002).1 + 1, ⟨3, 1, [[I 0]], 2⟩), (2003, (s1.own 2003).1 + 1, ⟨3, 1, [[I 1]], 2⟩)]
    ⟨rfl, rfl, rfl, rfl, rfl, rfl, rfl, rfl, rfl, rfl, rfl, rfl, trivial⟩ ?_
  generalize (s1.own 2001).1 + 1 = q1
  generalize (s1.own 2002).1 + 1 = q2
  generalize (s1.own 2003).1 + 1 = q3
  intro s2
  ((repeat ((fail_if_success (with_reducible refine pw_at 3 ?_)); (refine stp rfl ?_ ?_;·repeat' (first|exact True.intro|exact rfl|refine And.intro ?_ ?_)))); refine pw_regionS 1 ?_)
  iterate 1 (refine stp rfl ?_ ?_;·repeat' constructor)
  refine ps_nil ?_
  refine psem_sm rfl (sm_inline layOk rfl rfl Go.Proofs.Tryz.func74 rfl (by decide) rfl rfl ?_)
  ((repeat ((fail_if_success (with_reducible refine pw_at 1 ?_)); (refine stp rfl ?_ ?_;·repeat' (first|exact True.intro|exact rfl|refine And.intro ?_ ?_)))); refine pw_regionS 4 ?_)
  iterate 4 (refine stp rfl ?_ ?_;·repeat' constructor)
  refine ps_nil ?_
  refine psem_sm rfl (sm_inline layOk rfl rfl Go.Proofs.Tryz.func125 rfl (by decide) rfl rfl ?_)
  (repeat ((fail_if_success (with_reducible refine pw_at 1 ?_)); (refine stp rfl ?_ ?_;·repeat' (first|exact True.intro|exact rfl|refine And.intro ?_ ?_))))
  refine pw_ghost (Ghost.move (k := 3) (k' := 2005) (t := 3) rfl rfl rfl rfl) ?_
  refine pw_ghost (Ghost.move (k := 4) (k' := 2004) (t := 4) rfl rfl rfl rfl) ?_
  refine pw_ghost (Ghost.move (k := 5) (k' := 2006) (t := 5) rfl rfl rfl rfl) ?_
  repeat (refine stp rfl ?_ ?_;·repeat' constructor)
  refine inl_one rfl rfl ?_
  refine psem_ops ?_
  repeat (refine stp rfl ?_ ?_;·repeat' constructor)
  refine inl_one rfl rfl ?_
  refine psem_ops ?_
  repeat (refine stp rfl ?_ ?_;·repeat' constructor)
  refine pw_norm [(4, .ptr 2001 q1 0 0), (5, .ptr 2002 q2 0 0), (6, .ptr 2003 q3 0 0), (19, .clo 161 [.ptr 2004 ((s2.own 2004).1 + 1) 0 0, .ptr 2005 ((s2.own 2005).1 + 1) 0 0, .ptr 2006 ((s2.own 2006).1 + 1) 0 0])]
    [(1, g1, ⟨142, 0, [], 0⟩), (2, g2, ⟨143, 0, [], 0⟩), (1005, g5, ⟨146, 4, [[.als 62 g62 0 0, .mp 1 g1, .mp 2 g2, .mp 1003 g3]], 2⟩), (62, g62, ⟨23, 9, [], 0⟩), (1003, g3, ⟨144, 0, [], 0⟩), (2001, q1, ⟨41, 1, [[.ptr 1005 g5 0 0]], 2⟩), (2002, q2, ⟨3, 1, [[I 0]], 2⟩), (2003, q3, ⟨3, 1, [[I 1]], 2⟩),
      (2004, (s2.own 2004).1 + 1, ⟨9, 1, [[.str [10]]], 2⟩), (2005, (s2.own 2005).1 + 1, ⟨9, 1, [[.str t]], 2⟩), (2006, (s2.own 2006).1 + 1, ⟨3, 1, [[I 1]], 2⟩)]
    ⟨rfl, rfl, rfl, rfl, rfl, rfl, rfl, rfl, rfl, rfl, rfl, rfl, rfl, rfl, rfl, trivial⟩ ?_
  generalize (s2.own 2004).1 + 1 = q4
  generalize (s2.own 2005).1 + 1 = q5
  generalize (s2.own 2006).1 + 1 = q6
  intro s3
  refine pw_range (range_inl 2000 rfl Go.Proofs.Tryz.func161 rfl rfl rfl rfl rfl rfl ?_)
  generalize hq0 : (s3.own 2000).1 + 1 = q0
  (repeat ((fail_if_success (with_reducible refine pw_lp ?_)); (refine stp rfl ?_ ?_;·repeat' (first|exact True.intro|exact rfl|refine And.intro ?_ ?_))))
  refine pw_loop (RecI t) (fun _ => [(0, .yl 2000 q0), (1, .ptr 2004 q4 0 0), (2, .ptr 2005 q5 0 0), (3, .ptr 2006 q6 0 0)])
    (fun k => rcO q0 q1 q2 q3 q4 q5 q6 .ready ((s3.over [(19, .clo 161 [.ptr 2004 q4 0 0, .ptr 2005 q5 0 0, .ptr 2006 q6 0 0])] []).over (rcG q1 q2 q3) []).reg ⟨9, 1, [[.str [10]]], 2⟩ ⟨9, 1, [[.str k.2.1]], 2⟩ ⟨3, 1, [[I 1]], 2⟩ g1 g2 g3 g5 g62 k.2.2.1 k.2.2.2.1 k.2.2.2.2)
    (fun k => k.1) (t.length + 1, t, [], 1, 0) ⟨rfl, .nil, (show (0 : Int) ≤ 1 by decide), (show (1 : Int) < 65521 by decide), (show (0 : Int) ≤ 0 by decide), by simp, Nat.lt_succ_self _⟩ ⟨rfl, rfl, rfl, rfl, rfl, rfl, rfl, rfl, rfl, by rw [← hq0]; rfl, rfl, rfl, rfl, rfl, rfl, rfl, trivial⟩ ?_
  rintro ⟨f, r, l, n, a⟩ st ⟨hG, hA, hn0, hn1, ha0, har, hf⟩
  simp only at hG hA hn0 hn1 ha0 har hf
  dsimp only
  have hix := index_one r 10
  repeat (refine stp rfl ?_ ?_;·repeat' constructor)
  apply qst;exact rfl;exact rfl;exact q_callP rfl (hix) rfl (by repeat' constructor) rfl rfl
  repeat (refine stp rfl ?_ ?_;·repeat' constructor)
  refine pw_cond rfl (fun h => ?_) (fun h => ?_)
  · have hi : Lib.indexByte r 10 < 0 := of_decide_eq_true h
    clear h
    (repeat ((fail_if_success (with_reducible refine pw_at 10 ?_)); (refine stp rfl ?_ ?_;·repeat' (first|exact True.intro|exact rfl|refine And.intro ?_ ?_))))
    refine pw_regionI 2 ?_
    iterate 2 (refine stp rfl ?_ ?_;·repeat' constructor)
    refine ps_nil ?_
    refine psemi_sm rfl (sm_yield rfl rfl rfl rfl rfl ?_)
    refine rec_round (s3.over [(19, .clo 161 [.ptr 2004 q4 0 0, .ptr 2005 q5 0 0, .ptr 2006 q6 0 0])] []) st l hA n a r (by omega) hn0 hn1 ha0 (by omega) (fun s4 hr hfit => ?_) (fun s4 c m hr hfit => ?_)
    · rw [← Fit.over (l := []) hfit]
      refine ⟨rfl, ?_⟩
      refine psemi_ops ?_
      repeat (refine stp rfl ?_ ?_;·repeat' constructor)
      refine .inr (.inl ⟨0, rfl, ?_⟩)
      repeat (refine stp rfl ?_ ?_;·repeat' constructor)
      refine pw_draw 4 [56, 57, 2, 3] (by decide +kernel) ?_
      repeat (refine stp rfl ?_ ?_;·repeat' constructor)
      refine end2f rfl rfl rfl rfl rfl (by repeat' constructor) trivial ?_
      have he : recP t = (l, a) := by
        rw [← hG]
        cases f with
        | zero => omega
        | succ f => rw [recG, if_pos hi, hr]
      rw [he]
      rfl
    · rw [← Fit.over (l := []) hfit]
      refine ⟨rfl, ?_⟩
      refine psemi_ops ?_
      repeat (refine stp rfl ?_ ?_;·repeat' constructor)
      refine .inl ⟨rfl, ?_⟩
      repeat (refine stp rfl ?_ ?_;·repeat' constructor)
      refine pw_draw 4 [56, 57, 2, 3] (by decide +kernel) ?_
      repeat (refine stp rfl ?_ ?_;·repeat' constructor)
      refine end2f rfl rfl rfl rfl rfl (by repeat' constructor) trivial ?_
      have he : recP t = (l ++ [c], a + r.length) := by
        rw [← hG]
        cases f with
        | zero => omega
        | succ f => rw [recG, if_pos hi, hr]
      rw [he]
      rfl
  · have hi : ¬ Lib.indexByte r 10 < 0 := of_decide_eq_false h
    clear h
    repeat (refine stp rfl ?_ ?_;·repeat' constructor)
    have hlt := Lib.indexByte_ge r 10
    obtain ⟨i, hii⟩ : ∃ i : Nat, Lib.indexByte r 10 = i := ⟨(Lib.indexByte r 10).toNat, by omega⟩
    have hat := (Lib.indexByte_some hii).1
    have hil : i < r.length := (List.getElem?_eq_some_iff.1 hat).1
    rw [hii]
    have hw : IntKind.wrap .i64 ((i : Int) + 1) = ((i + 1 : Nat) : Int) := by rw [wrap_i64 (by omega) (by omega)]; omega
    rw [hw]
    apply qst;exact rfl;exact rfl;exact q_ssH layOk rfl rfl rfl rfl (by omega) (by omega)
    rw [Int.toNat_natCast]
    have hpl : (r.take (i + 1)).length = i + 1 := by rw [List.length_take]; omega
    obtain ⟨f, rfl⟩ : ∃ f', f = f' + 1 := ⟨f - 1, by omega⟩
    rw [recG, if_neg (by rw [hii]; omega), hii, Int.toNat_natCast] at hG
    (repeat ((fail_if_success (with_reducible refine pw_at 8 ?_)); (refine stp rfl ?_ ?_;·repeat' (first|exact True.intro|exact rfl|refine And.intro ?_ ?_))))
    refine pw_regionI 2 ?_
    iterate 2 (refine stp rfl ?_ ?_;·repeat' constructor)
    refine ps_nil ?_
    refine psemi_sm rfl (sm_yield rfl rfl rfl rfl rfl ?_)
    refine rec_round (s3.over [(19, .clo 161 [.ptr 2004 q4 0 0, .ptr 2005 q5 0 0, .ptr 2006 q6 0 0])] []) st l hA n a (r.take (i + 1)) (by omega) hn0 hn1 ha0 (by omega) (fun s4 hr hfit => ?_) (fun s4 c m hr hfit => ?_)
    · rw [← Fit.over (l := []) hfit]
      refine ⟨rfl, ?_⟩
      refine psemi_ops ?_
      repeat (refine stp rfl ?_ ?_;·repeat' constructor)
      refine .inr (.inl ⟨0, rfl, ?_⟩)
      repeat (refine stp rfl ?_ ?_;·repeat' constructor)
      refine pw_draw 4 [56, 57, 2, 3] (by decide +kernel) ?_
      repeat (refine stp rfl ?_ ?_;·repeat' constructor)
      refine end2f rfl rfl rfl rfl rfl (by repeat' constructor) trivial ?_
      rw [hr] at hG
      rw [← hG]
      rfl
    · rw [← Fit.over (l := []) hfit]
      refine ⟨rfl, ?_⟩
      refine psemi_ops ?_
      rw [hr] at hG
      simp only at hG
      repeat (refine stp rfl ?_ ?_;·repeat' constructor)
      rw [show IntKind.wrap .i64 ((i : Int) + ((([10] : Str).length : Nat) : Int)) = ((i + 1 : Nat) : Int) from hw]
      apply qst;exact rfl;exact rfl;exact q_ssT layOk rfl rfl rfl rfl (by omega) (by omega)
      rw [Int.toNat_natCast]
      repeat (refine stp rfl ?_ ?_;·repeat' constructor)
      obtain ⟨c0, _, _, hr0, rfl, rfl⟩ := recS_some hr
      have hsr := sumF_range (textP c0) hn0 hn1
      refine ⟨(f, r.drop (i + 1), l ++ [cleanP c0], sumF n (textP c0), a + ((r.take (i + 1)).length : Nat)), ⟨by rw [hpl]; exact hG, hA.snoc hr0, hsr.1, hsr.2, by simp only; omega, ?_, ?_⟩, Nat.lt_succ_self _, ?_⟩
      · simp only [hpl, List.length_drop]; omega
      · simp only [List.length_drop]; omega
      · exact ⟨rfl, rfl, rfl, rfl, rfl, rfl, rfl, rfl, rfl, rfl, rfl, rfl, rfl, rfl, rfl, rfl, trivial⟩
end Go.Pv


namespace Go.Pv
open Go.RowKit
variable [Globs]
section
variable {L : Lay} {s : St} {fn : Func} {r : PV}
end
end Go.Pv


namespace Go.Pv
open Go.RowKit
def plain1 : PV → Bool
  | .int _ _ | .bool _ | .str _ => true
  | _ => false
theorem plain_val {E : Env} {c : PV} {v : Value} (h : plain1 c = true) (hr : Rep E c v) : v = scv c := by
  cases c <;> simp only [plain1, Bool.false_eq_true] at h
  · exact hr.bool_inv
  · exact hr.int_inv
  · exact hr.str_inv
theorem plain_drep {c : PV} (h : plain1 c = true) (w : World) (ok : Nat → Prop) : DRep w ok c (scv c) ∧ (scv c).oneCell' = true := by
  cases c <;> simp only [plain1, Bool.false_eq_true] at h
  · exact ⟨.bool _, rfl⟩
  · exact ⟨.int _ _, rfl⟩
  · exact ⟨.str _, rfl⟩
variable [Globs]
theorem Ghost.nilfs {s : St} {t : Nat} (hr : s.reg t = .nil) : Ghost s (s.putR t (.fsl [])) := by
  intro C a w hX ⟨γ, h⟩
  refine ⟨γ, h.defers, h.size, fun r => ?_, h.sites, h.inj, h.base, h.below, h.top, h.kept⟩
  show Rep _ (bif Nat.beq r t then _ else s.reg r) _
  by_cases hrt : r = t
  · subst hrt
    have hp := h.regs r
    rw [hr] at hp
    simp only [Nat.beq_refl, cond_true]
    rw [hp.nil_inv]
    exact .fsl (.sl0 _ _)
  · rw [nbeq_ne hrt]; exact h.regs r
theorem Ghost.takeF {s : St} {k g t n kd sz : Nat} {T : TypeId} {rows : List (List PV)} {α : Type} {enc : α → List PV} (l : List α) (ho : s.own k = (g, some ⟨T, sz, rows, kd⟩)) (hr : s.reg t = .als k g 0 n) (he : rows = l.map enc) (hn : n = rows.length) (hpl : ∀ x, (enc x).all plain1 = true) :
    Ghost s ((s.setOwn k (g + 1) none).putR t (.fsl (l.map enc))) := by
  intro C a w hX ⟨γ, h⟩
  subst hn
  subst he
  obtain ⟨h1, hle, _⟩ := h.drop hX ho
  refine ⟨γ, h1.defers, h1.size, fun r => ?_, h1.sites, h1.inj, h1.base, h1.below, h1.top, h1.kept⟩
  show Rep _ (bif Nat.beq r t then _ else (s.setOwn k (g + 1) none).reg r) _
  by_cases hrt : r = t
  · subst hrt
    have hp := h.regs r
    rw [hr] at hp
    simp only [Nat.beq_refl, cond_true]
    refine .fsl ?_
    rcases h.als_at hp ho with ⟨q1, _, q3, q4⟩ | ⟨b, cap, cur, q1, q2, q3, q4, q5, q6, q7⟩
    · have : l.map enc = [] := (h.sites k _ (by rw [ho])).emp q1
      rw [this, q4]
      exact .sl0 _ _
    · obtain ⟨cur', g1, g2, g3, g4, g5⟩ := h.site_at ho q1 (h.cells_sz ho q1 q3 q6)
      have hb : (envOf C γ (s.setOwn k (g + 1) none) w).okf b := by
        have hbase := h.base k _ b (by rw [ho]) q1
        refine ⟨hbase.1, hbase.2, fun hx => ?_, fun k' c' hc' hb' => ?_⟩
        · have := hX b hx; omega
        · by_cases hk' : k' = k
          · subst hk'; rw [setOwn_same] at hc'; cases hc'
          · rw [setOwn_ne hk'] at hc'
            exact hk' (h.inj k' k c' _ b hc' (by rw [ho]) hb' q1)
      rw [q2]
      simp only [Nat.zero_mul]
      refine .sl (l.map enc) b 0 cap sz (fun i j => cur'.getD (i * sz + j) undef) hb g2 q4 g4 (fun i j row pv e1 e2 => ?_) (fun i j row pv e1 e2 => ?_)
      · obtain ⟨u, f1, f2, _⟩ := g5 i j row pv e1 e2
        have g1 : w.heap[b]? = some (.cells cur' T (0, 0)) := g1
        show w.cell? _ = _ ∧ _
        rw [cell_of_cells g1, Nat.zero_add, f1]
        simp [f1, f2]
      · obtain ⟨u, f1, _, f3⟩ := g5 i j row pv e1 e2
        have hu : cur'.getD (i * sz + j) undef = u := by simp [f1]
        simp only [hu]
        rw [List.getElem?_map, Option.map_eq_some_iff] at e1
        obtain ⟨y, _, rfl⟩ := e1
        have hpv := List.all_eq_true.1 (hpl y) _ (List.mem_of_getElem? e2)
        rw [plain_val hpv (f3.rep envOf_okfok)]
        exact (plain_drep hpv _ _).1
  · rw [nbeq_ne hrt]; exact h1.regs r
theorem Ret.shared_of_fresh {P : Program} {f : FuncId} {pargs : List PV} {r : PV} (h : Ret P .fresh f pargs r) : Ret P .shared f pargs r :=
  ⟨h.1, fun w X args h0 h1 h2 h3 => (h.2 w X args h0 h1 h2 h3).mono fun _ _ ⟨v, e1, e2, e3⟩ => ⟨v, e1, e2, e3.weaken fun b hb => ⟨hb.2, fun hx => by have := h1 b hx; have := hb.1; omega⟩⟩⟩
section
variable {P : Program} {L : Lay} {Q : Exit → St → Prop} {s : St}
end
end Go.Pv


set_option maxHeartbeats 2000000
namespace Go.Pv
attribute [local irreducible] PWP POps PQuiet PSem XThen XBlock RetPost InlPost
open Go.Proofs Go.RowKit
section
variable {P : Program} {L : Lay} {s : St}
theorem sm_eqnil [Globs] {T T' : TypeId} {d : Nat} {x : Operand} {r : LRow} {E : TypeId} {ty : TypeId} {pos : String} {af : Array Edge} {rows : List (List PV)} {K : St → Prop} (hL : LOk P L) (hr : L T = some r) (hs : r.sh = .sl E) (hx : s.ev x = .sl rows)
    (h1 : rows = [] → K (s.putR d (.bool true))) (h2 : K (s.putR d (.bool false))) : Sm P L s ⟨some d, .binOp .eql T x (.const (.slice none 0 0)) T', ty, pos, af, none⟩ K := by
  intro C a w Q hG ⟨γ, hs'⟩ hN
  have hv := hs'.ev x
  rw [hx] at hv
  have hu := und_sl (hL T r hr) hs
  have run : ∀ (v : Value) (b : Bool), a.eval x = v → ((v = .slice none 0 0 ∨ ∃ c, v = .slice none 0 c) ∧ b = true ∨ (∃ q n c, v = .slice (some q) n c) ∧ b = false) →
      (execOp a.eval ⟨some d, .binOp .eql T x (.const (.slice none 0 0)) T', ty, pos, af, none⟩).run P w = .ok (.value (.bool b)) w := by
    intro v b hv hb
    have e2 : a.eval (.const (.slice none 0 0)) = .slice none 0 0 := rfl
    simp only [execOp, hv, e2]
    refine wrapW ?_
    rcases hb with ⟨rfl | ⟨c, rfl⟩, rfl⟩ | ⟨⟨q, n, c, rfl⟩, rfl⟩
    · have hg : eqGuard .eql T x (.const (.slice none 0 0)) (.slice none 0 0) (.slice none 0 0) = pure () := by cases x <;> rfl
      rw [hg]
      have h : ∀ d : Nat, (Op.equalIn (d + 1) T (.slice none 0 0) (.slice none 0 0)).run P w = .ok true w := fun d => by simp [Op.equalIn, run_underlying hu]
      simp only [Sem.run_bind, Sem.run_pure, Result.andThen_ok, binOp]
      simp [Op.equal, Op.maxDepth, h 9999]
    · have hg : eqGuard .eql T x (.const (.slice none 0 0)) (.slice none 0 c) (.slice none 0 0) = pure () := by cases x <;> rfl
      rw [hg]
      have h : ∀ d : Nat, (Op.equalIn (d + 1) T (.slice none 0 c) (.slice none 0 0)).run P w = .ok true w := fun d => by simp [Op.equalIn, run_underlying hu]
      simp only [Sem.run_bind, Sem.run_pure, Result.andThen_ok, binOp]
      simp [Op.equal, Op.maxDepth, h 9999]
    · have hg : eqGuard .eql T x (.const (.slice none 0 0)) (.slice (some q) n c) (.slice none 0 0) = pure () := by cases x <;> rfl
      rw [hg]
      have h : ∀ d : Nat, (Op.equalIn (d + 1) T (.slice (some q) n c) (.slice none 0 0)).run P w = .ok false w := fun d => by simp [Op.equalIn, run_underlying hu]
      simp only [Sem.run_bind, Sem.run_pure, Result.andThen_ok, binOp]
      simp [Op.equal, Op.maxDepth, h 9999]
  generalize hev : a.eval x = v0 at hv
  cases hv with
  | d hd =>
    cases hd with
    | sl0 q cap =>
      cases q with
      | none =>
        unfold Oper.wp
        rw [run _ true hev (.inl ⟨.inr ⟨_, rfl⟩, rfl⟩), Oper.upon_value]
        exact ⟨_, ⟨_, hs'.put (d := some d) hN (.d (.bool _))⟩, h1 rfl⟩
      | some q =>
        unfold Oper.wp
        rw [run _ false hev (.inr ⟨⟨_, _, _, rfl⟩, rfl⟩), Oper.upon_value]
        exact ⟨_, ⟨_, hs'.put (d := some d) hN (.d (.bool _))⟩, h2⟩
    | sl rows b off cap sz vals =>
      unfold Oper.wp
      rw [run _ false hev (.inr ⟨⟨_, _, _, rfl⟩, rfl⟩), Oper.upon_value]
      exact ⟨_, ⟨_, hs'.put (d := some d) hN (.d (.bool _))⟩, h2⟩
end
theorem pw_rt {P : Program} {L : Lay} {Q : Exit → St → Prop} {s : St} (h : PWP P L .ret Q s) : PWP P L .ret Q s := h
set_option maxRecDepth 20000 in
theorem clone_ret (l : List SPost) (hl : l.length ≤ 1000000) : Ret Tryz.prog .fresh 80 [.sl (l.map ePost)] (.sl (l.map ePost)) := by
  refine Ret.of_pwp layOk mixed Go.Proofs.Tryz.func80 rfl (by decide) rfl rfl ?_
  ((repeat ((fail_if_success (with_reducible refine pw_at 1 ?_)); (refine stp rfl ?_ ?_;·repeat' (first|exact True.intro|exact rfl|refine And.intro ?_ ?_)))); refine pw_regionS 1 ?_)
  iterate 1 (refine stp rfl ?_ ?_;·repeat' constructor)
  refine ps_nil ?_
  refine psem_sm rfl (sm_eqnil layOk rfl rfl rfl (fun h0 => ?_) ?_)
  · rw [h0]
    refine psem_ops ?_
    (repeat ((fail_if_success (with_reducible refine pw_rt ?_)); (refine stp rfl ?_ ?_;·repeat' (first|exact True.intro|exact rfl|refine And.intro ?_ ?_))))
    refine pw_ghost (Ghost.nilfs (t := 2) rfl) ?_
    repeat (refine stp rfl ?_ ?_;·repeat' constructor)
    exact end1f rfl rfl rfl trivial rfl
  · refine psem_ops ?_
    repeat (refine stp rfl ?_ ?_;·repeat' constructor)
    refine ps_run (o_slit 0 rfl rfl rfl rfl rfl rfl rfl rfl rfl rfl rfl (by repeat' constructor) rfl ?_)
    repeat (refine stp rfl ?_ ?_;·repeat' constructor)
    refine ps_run (o_app 1 rfl rfl rfl rfl rfl rfl rfl rfl rfl rfl rfl (by repeat' constructor) (by intro row hr; obtain ⟨p, _, rfl⟩ := List.mem_map.1 hr; rfl) rfl rfl (by simp; omega) (by simp; omega) ?_)
    (repeat ((fail_if_success (with_reducible refine pw_rt ?_)); (refine stp rfl ?_ ?_;·repeat' (first|exact True.intro|exact rfl|refine And.intro ?_ ?_))))
    refine pw_ghost (Ghost.takeF (k := 5) (t := 2) l rfl rfl rfl rfl (fun _ => rfl)) ?_
    repeat (refine stp rfl ?_ ?_;·repeat' constructor)
    exact end1f rfl rfl rfl (by repeat' constructor) rfl
theorem bookPosts_ret (l : List SPost) (hl : l.length ≤ 1000000) : Ret Tryz.prog .fresh 26 [.dref (eBook l) 0] (.sl (l.map ePost)) := by
  have h := clone_ret l hl
  refine Ret.of_pwp layOk mixed Go.Proofs.Tryz.func26 rfl (by decide) rfl rfl ?_
  repeat (refine stp rfl ?_ ?_;·repeat' constructor)
  apply qst;exact rfl;exact rfl;exact q_callF rfl (h) rfl (by repeat' constructor) rfl
  repeat (refine stp rfl ?_ ?_;·repeat' constructor)
  exact end1f rfl rfl rfl trivial rfl
end Go.Pv


set_option maxHeartbeats 2000000
namespace Go.Pv
attribute [local irreducible] PWP POps PQuiet PSem XThen XBlock RetPost InlPost
open Go.Proofs
def hiB (s : Str) : Prop := ∀ c, c ∈ s → 45 ≤ c.toNat
theorem itoa_hi (v : Int) : hiB (Lib.itoa v) := by
  intro c hc
  rw [Lib.itoa] at hc
  split at hc
  · rcases List.mem_cons.1 hc with rfl | hc
    · decide
    · have := dec_digits _ _ (Nat.le_refl _) c hc; omega
  · have := dec_digits _ _ (Nat.le_refl _) c hc; omega
theorem name_hi {s : Str} (h : isName s = true) : hiB s := by
  intro c hc
  simp only [isName, Bool.and_eq_true, decide_eq_true_eq] at h
  obtain ⟨j, hj, rfl⟩ := List.getElem_of_mem hc
  have := fstE_zero h.2 j s[j] (List.getElem?_eq_getElem hj)
  rcases Nat.lt_or_ge s[j].toNat 45 with hlt | hge
  · exfalso
    have hb : badc j s[j] = true := by
      have e1 : letter s[j] = false := by
        simp only [letter, Bool.or_eq_false_iff, Bool.and_eq_false_iff, decide_eq_false_iff_not]
        omega
      simp only [badc, e1]
      simp
      omega
    rw [badE, if_pos hb] at this
    exact absurd this (by decide)
  · exact hge
theorem word_hi {op : Int} (h : inside op 0 8 = true) : hiB (wordOf op) := by
  rcases op_cases h with rfl | rfl | rfl | rfl | rfl | rfl | rfl | rfl | rfl <;> (unfold hiB; decide)
theorem join_hi : ∀ (xs : List Str), (∀ x, x ∈ xs → hiB x) → ∀ c, c ∈ Lib.joinTail [32] xs → 45 ≤ c.toNat ∨ c.toNat = 32
  | [], _, c, hc => by simp [Lib.joinTail] at hc
  | y :: ys, h, c, hc => by
    have e : Lib.joinTail [32] (y :: ys) = 32 :: (y ++ Lib.joinTail [32] ys) := by simp [Lib.joinTail]
    rw [e] at hc
    rcases List.mem_cons.1 hc with rfl | hc
    · exact .inr rfl
    rcases List.mem_append.1 hc with hc | hc
    · exact .inl (h y (by simp) c hc)
    · exact join_hi ys (fun x hx => h x (by simp [hx])) c hc
theorem text_hi {p : SPost} (hc : checkE p = 0) : ∀ c, c ∈ textP p → 45 ≤ c.toNat ∨ c.toNat = 32 := by
  intro c hm
  rw [text_pcs, pcs, Lib.join_cons] at hm
  rcases List.mem_append.1 hm with hm | hm
  · exact .inl (itoa_hi _ c hm)
  refine join_hi _ (fun y hy => ?_) c hm
  rcases List.mem_cons.1 hy with rfl | hy
  · exact word_hi (checkE_op hc).1
  · obtain ⟨f, hf, rfl⟩ := List.mem_map.1 hy
    obtain ⟨k, hk, rfl⟩ := List.getElem_of_mem hf
    have hf := List.getElem?_eq_getElem hk
    generalize (fdsOf p.op)[k] = f at *
    cases f with
    | o => exact name_hi (txt_name hc hf rfl)
    | i => exact name_hi (txt_name hc hf rfl)
    | s => exact name_hi (txt_name hc hf rfl)
    | w => exact name_hi (txt_name hc hf rfl)
    | a lo hi => exact itoa_hi _
    | r lo hi => exact itoa_hi _
    | l lo hi => exact itoa_hi _
theorem text_no {p : SPost} (hc : checkE p = 0) {a : UInt8} (ha : a.toNat < 45) (ha2 : a.toNat ≠ 32) : a ∉ textP p := fun hm => by
  have := text_hi hc a hm; omega
theorem itoa_no {v : Int} {a : UInt8} (ha : a.toNat < 45) : a ∉ Lib.itoa v := fun hm => by
  have := itoa_hi v a hm; omega
theorem index_mark : ∀ (T u : Str), (35 : UInt8) ∉ T → Lib.index (T ++ 32 :: 35 :: u) [32, 35] = T.length
  | [], u, _ => by simp [Lib.index, List.isPrefixOf]
  | b :: T, u, h => by
    have ih := index_mark T u (fun hm => h (by simp [hm]))
    have hp : ([32, 35] : Str).isPrefixOf (b :: (T ++ 32 :: 35 :: u)) = false := by
      cases T with
      | nil => simp [List.isPrefixOf]
      | cons d T =>
        have hd : ¬ (35 : UInt8) = d := fun e => h (by simp [e])
        simp [List.isPrefixOf, hd]
    rw [List.cons_append, Lib.index, hp, ih]
    have : ((T.length : Int) == -1) = false := by simp
    rw [this]
    simp
theorem cut_at (T u : Str) (h : (35 : UInt8) ∉ T) : (Lib.cut (T ++ 32 :: 35 :: u) [32, 35]).1 = T := by
  rw [Lib.cut, index_mark T u h, if_pos (by omega)]
  simp
theorem get_mem {α : Type} {l : List α} {k : Nat} {x : α} (h : l[k]? = some x) : x ∈ l := List.mem_of_getElem? h
theorem recS_open {l : List SPost} {n : Int} {q : Str} (h : (10 : UInt8) ∉ q) : recS l n q = none := by
  cases hr : recS l n q with
  | none => rfl
  | some r =>
    obtain ⟨c, m⟩ := r
    obtain ⟨c0, _, h2, _⟩ := recS_some hr
    exact absurd (by rw [h2, lineT]; simp) h
end Go.Pv


set_option maxHeartbeats 2000000
namespace Go.Pv
attribute [local irreducible] PWP POps PQuiet PSem XThen XBlock RetPost InlPost
open Go.Proofs
theorem ix_line : ∀ (b r : Str), (10 : UInt8) ∉ b → Lib.indexByte (b ++ 10 :: r) 10 = b.length
  | [], r, _ => by simp [Lib.indexByte]
  | c :: b, r, h => by
    have ih := ix_line b r (fun hm => h (by simp [hm]))
    have hc : ¬ c = 10 := fun e => h (by simp [e])
    rw [List.cons_append, Lib.indexByte, ih]
    simp [hc]
theorem ix_open : ∀ (b : Str), (10 : UInt8) ∉ b → Lib.indexByte b 10 = -1
  | [], _ => rfl
  | c :: b, h => by
    have ih := ix_open b (fun hm => h (by simp [hm]))
    have hc : ¬ c = 10 := fun e => h (by simp [e])
    rw [Lib.indexByte, ih]
    simp [hc]
theorem recG_open {r : Str} (h : (10 : UInt8) ∉ r) (f : Nat) (l : List SPost) (n a : Int) : recG f r l n a = (l, a) := by
  cases f with
  | zero => rfl
  | succ f => rw [recG, if_pos (by rw [ix_open r h]; decide), recS_open h]
theorem recG_line {b r : Str} (h : (10 : UInt8) ∉ b) (f : Nat) (l : List SPost) (n a : Int) : recG (f + 1) (b ++ 10 :: r) l n a = (match recS l n (b ++ [10]) with
      | none => (l, a)
      | some (c, m) => recG f r (l ++ [c]) m (a + (b.length + 1 : Nat))) := by
  have e1 : (b ++ 10 :: r).take (b.length + 1) = b ++ [10] := by
    rw [show b ++ 10 :: r = (b ++ [10]) ++ r by simp, List.take_left' (by simp)]
  have e2 : (b ++ 10 :: r).drop (b.length + 1) = r := by
    rw [show b ++ 10 :: r = (b ++ [10]) ++ r by simp, List.drop_left' (by simp)]
  rw [recG, ix_line b r h, if_neg (by omega), Int.toNat_natCast, e1, e2]
  all_goals (cases recS l n (b ++ [10]) <;> rfl)
theorem recG_ext : ∀ (f : Nat) (r : Str) (l : List SPost) (n a : Int), ∃ more b, recG f r l n a = (l ++ more, a + (b : Nat)) ∧ b ≤ r.length
  | 0, r, l, n, a => ⟨[], 0, by simp [recG], by omega⟩
  | f + 1, r, l, n, a => by
    rw [recG]
    split
    · cases recS l n r with
      | none => exact ⟨[], 0, by simp, by omega⟩
      | some q => exact ⟨[q.1], r.length, rfl, Nat.le_refl _⟩
    · rename_i hi
      obtain ⟨i, hii⟩ : ∃ i : Nat, Lib.indexByte r 10 = i := ⟨(Lib.indexByte r 10).toNat, by omega⟩
      have hil : i < r.length := (List.getElem?_eq_some_iff.1 (Lib.indexByte_some hii).1).1
      rw [hii, Int.toNat_natCast]
      cases recS l n (r.take (i + 1)) with
      | none => exact ⟨[], 0, by simp, by omega⟩
      | some q =>
        obtain ⟨more, b, h1, h2⟩ := recG_ext f (r.drop (i + 1)) (l ++ [q.1]) q.2 (a + (i + 1 : Nat))
        refine ⟨q.1 :: more, i + 1 + b, ?_, ?_⟩
        · show recG f (r.drop (i + 1)) (l ++ [q.1]) q.2 (a + (i + 1 : Nat)) = _
          rw [h1]
          congr 1
          · simp
          · omega
        · rw [List.length_drop] at h2; omega
def jrnT : List SPost → Int → Str
  | [], _ => []
  | p :: l, n => lineT n (textP p) ++ jrnT l (sumF n (textP p))
theorem jrn_fold : ∀ (l : List SPost) (s : Str) (n : Int), (l.foldl jrnS (s, n)).1 = s ++ jrnT l n
  | [], s, n => by simp [jrnT]
  | p :: l, s, n => by rw [List.foldl_cons, jrnS, jrn_fold l, jrnT, List.append_assoc]
theorem jrn_text (l : List SPost) : (jrnF l).1 = jrnT l 1 := by rw [jrnF, jrn_fold]; rfl
def bodyT (n : Int) (t : Str) : Str := t ++ 32 :: 35 :: Lib.itoa (sumF n t)
theorem lineT_body (n : Int) (t : Str) : lineT n t = bodyT n t ++ [10] := by simp [lineT, bodyT]
theorem body_no {p : SPost} (hc : checkE p = 0) (n : Int) : (10 : UInt8) ∉ bodyT n (textP p) := by
  rw [bodyT]
  intro h
  rcases List.mem_append.1 h with h | h
  · exact text_no hc (by decide) (by decide) h
  · simp only [List.mem_cons] at h
    rcases h with h | h | h
    · exact absurd h (by decide)
    · exact absurd h (by decide)
    · exact itoa_no (by decide) h
theorem jrnT_cons (p : SPost) (l : List SPost) (n : Int) : jrnT (p :: l) n = bodyT n (textP p) ++ 10 :: jrnT l (sumF n (textP p)) := by
  rw [jrnT, lineT_body]; simp
theorem recS_own {l : List SPost} {p : SPost} (hr : refusalR l p = 0) (hc : cleanP p = p) (n : Int) : recS l n (bodyT n (textP p) ++ [10]) = some (p, sumF n (textP p)) := by
  have h0 := (refusalR_zero hr).1
  have hcut : (Lib.cut (bodyT n (textP p) ++ [10]) [32, 35]).1 = textP p := by
    have : bodyT n (textP p) ++ [10] = textP p ++ 32 :: 35 :: (Lib.itoa (sumF n (textP p)) ++ [10]) := by simp [bodyT]
    rw [this]
    exact cut_at _ _ (text_no h0 (by decide) (by decide))
  rw [recS, hcut, prog_back h0, hc]
  dsimp only
  rw [if_pos (lineT_body n _).symm, if_pos hr, hc]
def wh (s : Str) : Nat → Nat
  | 0 => 0
  | k + 1 => if s[k]? = some 10 then k + 1 else wh s k
def ln (s : Str) : Nat → Nat
  | 0 => 0
  | k + 1 => if s[k]? = some 10 then ln s k + 1 else ln s k
theorem wh_le (s : Str) : ∀ k, wh s k ≤ k
  | 0 => Nat.le_refl _
  | k + 1 => by rw [wh]; have := wh_le s k; split <;> omega
theorem ln_le (s : Str) : ∀ k, ln s k ≤ k
  | 0 => Nat.le_refl _
  | k + 1 => by rw [ln]; have := ln_le s k; split <;> omega
theorem wl_open {b : Str} (r : Str) (h : (10 : UInt8) ∉ b) : ∀ k, k ≤ b.length → wh (b ++ r) k = 0 ∧ ln (b ++ r) k = 0
  | 0, _ => ⟨rfl, rfl⟩
  | k + 1, hk => by
    have hx : (b ++ r)[k]? ≠ some 10 := by
      rw [List.getElem?_append_left (by omega)]
      exact fun e => h (get_mem e)
    rw [wh, ln, if_neg hx, if_neg hx]
    exact wl_open r h k (by omega)
theorem wl_line {b : Str} (r : Str) (h : (10 : UInt8) ∉ b) : ∀ j, wh (b ++ 10 :: r) (b.length + 1 + j) = b.length + 1 + wh r j ∧ ln (b ++ 10 :: r) (b.length + 1 + j) = ln r j + 1
  | 0 => by
    have hx : (b ++ 10 :: r)[b.length]? = some 10 := by rw [List.getElem?_append_right (Nat.le_refl _)]; simp
    obtain ⟨h1, h2⟩ := wl_open (10 :: r) h b.length (Nat.le_refl _)
    have w1 : wh (b ++ 10 :: r) (b.length + 1) = (if (b ++ 10 :: r)[b.length]? = some 10 then b.length + 1 else wh (b ++ 10 :: r) b.length) := rfl
    have w2 : ln (b ++ 10 :: r) (b.length + 1) = (if (b ++ 10 :: r)[b.length]? = some 10 then ln (b ++ 10 :: r) b.length + 1 else ln (b ++ 10 :: r) b.length) := rfl
    rw [if_pos hx] at w1 w2
    rw [h2] at w2
    exact ⟨w1, w2⟩
  | j + 1 => by
    obtain ⟨h1, h2⟩ := wl_line r h j
    have hx : (b ++ 10 :: r)[b.length + 1 + j]? = r[j]? := by
      rw [List.getElem?_append_right (by omega), show b.length + 1 + j - b.length = j + 1 by omega, List.getElem?_cons_succ]
    rw [← Nat.add_assoc, wh, ln, hx, wh, ln, h1, h2]
    split
    · exact ⟨by omega, rfl⟩
    · exact ⟨rfl, rfl⟩
theorem take_line {b r : Str} {j : Nat} : (b ++ 10 :: r).take (b.length + 1 + j) = b ++ 10 :: r.take j := by
  rw [List.take_append, show b.length + 1 + j - b.length = j + 1 by omega, List.take_of_length_le (by omega)]; rfl
theorem acc_next {l l2 : List SPost} {p : SPost} (h : Acc (l ++ p :: l2)) : refusalR l p = 0 ∧ cleanP p = p := by
  have := h.at_ l.length p (by simp)
  rwa [List.take_left' rfl] at this
theorem cuts_any : ∀ (l2 l : List SPost) (n a : Int) (f k : Nat) (u : Str), Acc (l ++ l2) → k ≤ (jrnT l2 n).length → ((jrnT l2 n).take k ++ u).length < f →
    ∃ more b, recG f ((jrnT l2 n).take k ++ u) l n a = (l ++ l2.take (ln (jrnT l2 n) k) ++ more, a + (wh (jrnT l2 n) k + b : Nat)) ∧ wh (jrnT l2 n) k + b ≤ ((jrnT l2 n).take k ++ u).length ∧ (u = [] → more = [] ∧ b = 0)
  | [], l, n, a, f, k, u, _, hk, hf => by
    simp only [jrnT, List.length_nil, Nat.le_zero] at hk
    subst hk
    obtain ⟨more, b, h1, h2⟩ := recG_ext f u l n a
    refine ⟨more, b, ?_, ?_, fun hu => ?_⟩
    · simpa [jrnT, ln, wh] using h1
    · simpa [wh] using h2
    · subst hu
      have h3 := recG_open (r := []) (by simp) f l n a
      rw [h1] at h3
      have h5 := congrArg Prod.fst h3
      have h6 := congrArg Prod.snd h3
      dsimp only at h5 h6
      exact ⟨by simpa using h5, by omega⟩
  | p :: l2, l, n, a, f, k, u, hA, hk, hf => by
    obtain ⟨hr, hc⟩ := acc_next hA
    have hno := body_no (refusalR_zero hr).1 n
    rw [jrnT_cons] at hk hf ⊢
    rcases Nat.lt_or_ge (bodyT n (textP p)).length k with hlt | hge
    · obtain ⟨j, rfl⟩ : ∃ j, k = (bodyT n (textP p)).length + 1 + j := ⟨k - (bodyT n (textP p)).length - 1, by omega⟩
      obtain ⟨f, rfl⟩ : ∃ f', f = f' + 1 := ⟨f - 1, by omega⟩
      obtain ⟨e1, e2⟩ := wl_line (jrnT l2 (sumF n (textP p))) hno j
      rw [take_line] at hf ⊢
      rw [e1, e2]
      simp only [List.length_append, List.length_cons] at hk hf
      obtain ⟨more, b, h1, h2, h3⟩ := cuts_any l2 (l ++ [p]) (sumF n (textP p)) (a + ((bodyT n (textP p)).length + 1 : Nat)) f j u (by simpa using hA) (by omega) (by simp only [List.length_append]; omega)
      refine ⟨more, b, ?_, ?_, h3⟩
      · rw [List.append_assoc, List.cons_append, recG_line hno, recS_own hr hc]
        dsimp only
        rw [h1]
        congr 1
        · simp
        · omega
      · simp only [List.length_append, List.length_cons] at h2 ⊢; omega
    · obtain ⟨e1, e2⟩ := wl_open (10 :: jrnT l2 (sumF n (textP p))) hno k hge
      rw [e1, e2]
      obtain ⟨more, b, h1, h2⟩ := recG_ext f ((bodyT n (textP p) ++ 10 :: jrnT l2 (sumF n (textP p))).take k ++ u) l n a
      refine ⟨more, b, by rw [h1]; simp, by omega, fun hu => ?_⟩
      subst hu
      have ht : (10 : UInt8) ∉ (bodyT n (textP p) ++ 10 :: jrnT l2 (sumF n (textP p))).take k ++ [] := by
        rw [List.append_nil, List.take_append_of_le_length hge]
        exact fun hm => hno (List.mem_of_mem_take hm)
      have h4 := recG_open ht f l n a
      rw [h1] at h4
      have h5 := congrArg Prod.fst h4
      have h6 := congrArg Prod.snd h4
      dsimp only at h5 h6
      exact ⟨by simpa using h5, by omega⟩
theorem wl_full : ∀ (l : List SPost) (n : Int), (∀ p ∈ l, checkE p = 0) → wh (jrnT l n) (jrnT l n).length = (jrnT l n).length ∧ ln (jrnT l n) (jrnT l n).length = l.length
  | [], n, _ => ⟨rfl, rfl⟩
  | p :: l, n, h => by
    obtain ⟨h1, h2⟩ := wl_full l (sumF n (textP p)) (fun q hq => h q (by simp [hq]))
    have hno := body_no (h p (by simp)) n
    obtain ⟨e1, e2⟩ := wl_line (jrnT l (sumF n (textP p))) hno (jrnT l (sumF n (textP p))).length
    rw [jrnT_cons]
    have el : (bodyT n (textP p) ++ 10 :: jrnT l (sumF n (textP p))).length = (bodyT n (textP p)).length + 1 + (jrnT l (sumF n (textP p))).length := by simp; omega
    rw [el, e1, e2, h1, h2]
    exact ⟨rfl, rfl⟩
theorem ln_lim : ∀ (l : List SPost) (n : Int), (∀ p ∈ l, checkE p = 0) → ∀ k, k ≤ (jrnT l n).length → ln (jrnT l n) k ≤ l.length
  | [], n, _, k, hk => by simp [jrnT] at hk; subst hk; simp [ln]
  | p :: l, n, h, k, hk => by
    have hno := body_no (h p (by simp)) n
    rw [jrnT_cons] at hk ⊢
    rcases Nat.lt_or_ge (bodyT n (textP p)).length k with hlt | hge
    · obtain ⟨j, rfl⟩ : ∃ j, k = (bodyT n (textP p)).length + 1 + j := ⟨k - (bodyT n (textP p)).length - 1, by omega⟩
      rw [(wl_line _ hno j).2]
      simp only [List.length_append, List.length_cons] at hk
      have := ln_lim l (sumF n (textP p)) (fun q hq => h q (by simp [hq])) j (by omega)
      simp; omega
    · rw [(wl_open _ hno k hge).2]; omega
end Go.Pv


set_option maxHeartbeats 2000000
namespace Go.Pv
attribute [local irreducible] PWP POps PQuiet PSem XThen XBlock RetPost InlPost
open Go.Proofs
end Go.Pv


set_option maxHeartbeats 2000000
namespace Go.Pv
attribute [local irreducible] PWP POps PQuiet PSem XThen XBlock RetPost InlPost
open Go.Proofs
theorem postE : eqT Tryz.prog 23 [.int .i64, .int .i64, .str, .str, .str, .str, .int .i64, .int .i64, .int .i64] = true := by kernel_rfl
end Go.Pv


set_option maxHeartbeats 2000000
namespace Go.Pv
attribute [local irreducible] PWP POps PQuiet PSem XThen XBlock RetPost InlPost
open Go.Proofs
theorem postsZ_ret (a : List SPost) (hw : a.length ≤ 1000000) : Ret Tryz.prog .shared 25 [.sl (a.map ePost), .sl (a.map ePost)] (.bool true) := by
  have hll : ((a.map ePost).length : Int) = a.length := by simp
  refine Ret.of_pwp layOk mixed Go.Proofs.Tryz.func25 rfl (by decide) rfl rfl ?_
  repeat (refine stp rfl ?_ ?_;·repeat' constructor)
  refine pw_cond rfl (fun h => ?_) (fun h => ?_)
  · exact absurd h (by simp)
  clear h
  repeat (refine stp rfl ?_ ?_;·repeat' constructor)
  refine pw_loop (fun k => k ≤ a.length) (fun k => [(0, .sl (a.map ePost)), (1, .sl (a.map ePost)), (5, I k)]) (fun _ => []) (fun k => a.length - k) 0 (Nat.zero_le _) ⟨rfl, rfl, rfl, trivial⟩ ?_
  intro k s hk
  have hk : k ≤ a.length := hk
  repeat (refine stp rfl ?_ ?_;·repeat' constructor)
  rw [hll]
  refine pw_cond rfl (fun h => ?_) (fun h => ?_)
  · have hlt : k < a.length := by have := of_decide_eq_true h; omega
    obtain ⟨x, hx⟩ := get_lt hlt
    clear h
    repeat (refine stp rfl ?_ ?_;·repeat' constructor)
    refine pw_draw 9 [17, 18, 19, 20, 21, 22, 23, 24, 25] (by decide +kernel) ?_
    repeat (refine stp rfl ?_ ?_;·repeat' constructor)
    apply qst;exact rfl;exact rfl;exact q_idxm rfl rfl rfl rfl rfl (by omega) hx rfl
    repeat (refine stp rfl ?_ ?_;·repeat' constructor)
    apply qst;exact rfl;exact rfl;exact q_idxm rfl rfl rfl rfl rfl (by omega) hx rfl
    repeat (refine stp rfl ?_ ?_;·repeat' constructor)
    refine zqq rfl (q_seqN postE rfl rfl rfl) ?_
    repeat (refine stp rfl ?_ ?_;·repeat' constructor)
    refine pw_cond rfl (fun h => ?_) (fun h => ?_)
    · exact absurd h (by simp)
    · repeat (refine stp rfl ?_ ?_;·repeat' constructor)
      exact ⟨k + 1, hlt, by omega, rfl, rfl, i64_next (by omega) (by omega), trivial⟩
  · repeat (refine stp rfl ?_ ?_;·repeat' constructor)
    exact end1b rfl rfl rfl
theorem Acc.fine {l : List SPost} (h : Acc l) : ∀ p ∈ l, checkE p = 0 := by
  intro p hp
  obtain ⟨j, hj, rfl⟩ := List.getElem_of_mem hp
  exact (refusalR_zero (h.at_ j _ (List.getElem?_eq_getElem hj)).1).1
theorem recG_acc : ∀ (f : Nat) (r : Str) (l : List SPost) (n a : Int), Acc l → Acc (recG f r l n a).1
  | 0, r, l, n, a, h => h
  | f + 1, r, l, n, a, h => by
    have key : ∀ s c m, recS l n s = some (c, m) → Acc (l ++ [c]) := by
      intro s c m hs
      obtain ⟨c0, _, _, hr, rfl, _⟩ := recS_some hs
      exact h.snoc hr
    rw [recG]
    split
    · cases hs : recS l n r with
      | none => exact h
      | some q => exact key _ _ _ hs
    · cases hs : recS l n (r.take ((Lib.indexByte r 10).toNat + 1)) with
      | none => exact h
      | some q => exact recG_acc f _ _ _ _ (key _ _ _ hs)
theorem recP_len (t : Str) : (recP t).1.length ≤ 400 := (recG_acc (t.length + 1) t [] 1 0 .nil).ok.wf.len
end Go.Pv


set_option maxHeartbeats 2000000
namespace Go.Pv
attribute [local irreducible] PWP POps PQuiet PSem XThen XBlock RetPost InlPost
open Go.Proofs
def modE (n m : Int) : Int := if n.tmod m < 0 then n.tmod m + m else n.tmod m
theorem modE_range {n m : Int} (h : 0 < m) : 0 ≤ modE n m ∧ modE n m < m := by
  have h1 := Int.tmod_lt_of_pos n h
  have h3 := Int.lt_tmod_of_pos n h
  rw [modE]
  split <;> omega
theorem mod27_ret (n m : Int) (h : 0 < m) (h2 : m ≤ 1000000) : Ret Tryz.prog .shared 27 [I n, I m] (I (modE n m)) := by
  have h1 := Int.tmod_lt_of_pos n h
  have h3 := Int.lt_tmod_of_pos n h
  have hw : n.tmod m < 0 → IntKind.wrap .i64 (n.tmod m + m) = n.tmod m + m := fun h => wrap_i64 (by omega) (by omega)
  rw [modE]
  refine Ret.of_pwp layOk mixed Go.Proofs.Tryz.func27 rfl (by decide) rfl rfl ?_
  repeat (refine stp rfl ?_ ?_;·repeat' constructor)
  refine ps_v rfl (show ¬ m = 0 by omega) ?_
  generalize n.tmod m = t at *
  repeat (refine stp rfl ?_ ?_;·repeat' constructor)
  refine pw_cond rfl (fun h => ?_) (fun h => ?_)
  · have h0 := of_decide_eq_true h
    rw [if_pos h0]
    repeat (refine stp rfl ?_ ?_;·repeat' constructor)
    rw [hw h0]
    repeat (refine stp rfl ?_ ?_;·repeat' constructor)
    exact end1i rfl rfl rfl
  · have h0 := of_decide_eq_false h
    rw [if_neg h0]
    repeat (refine stp rfl ?_ ?_;·repeat' constructor)
    exact end1i rfl rfl rfl
theorem recP_cut {m : List SPost} (hA : Acc m) {k : Nat} (hk : k ≤ (jrnT m 1).length) : recP ((jrnT m 1).take k) = (m.take (ln (jrnT m 1) k), (wh (jrnT m 1) k : Int)) := by
  obtain ⟨more, b, h1, _, h3⟩ := cuts_any m [] 1 0 (((jrnT m 1).take k ++ []).length + 1) k [] (by simpa using hA) hk (Nat.lt_succ_self _)
  obtain ⟨rfl, rfl⟩ := h3 rfl
  rw [List.append_nil] at h1
  rw [recP, h1]
  simp
theorem recP_turn {m : List SPost} (hA : Acc m) {k : Nat} (hk : k ≤ (jrnT m 1).length) (u : Str) : ∃ more b, recP ((jrnT m 1).take k ++ u) = (m.take (ln (jrnT m 1) k) ++ more, ((wh (jrnT m 1) k + b : Nat) : Int)) ∧ wh (jrnT m 1) k + b ≤ ((jrnT m 1).take k ++ u).length := by
  obtain ⟨more, b, h1, h2, _⟩ := cuts_any m [] 1 0 (((jrnT m 1).take k ++ u).length + 1) k u (by simpa using hA) hk (Nat.lt_succ_self _)
  refine ⟨more, b, ?_, h2⟩
  rw [recP, h1]
  simp
theorem recP_all {m : List SPost} (hA : Acc m) : recP (jrnT m 1) = (m, ((jrnT m 1).length : Int)) := by
  have h := recP_cut hA (Nat.le_refl _)
  obtain ⟨h1, h2⟩ := wl_full m 1 hA.fine
  rw [List.take_length, h1, h2, List.take_length] at h
  exact h
theorem jrnT_none {m : List SPost} {n : Int} (h : jrnT m n = []) : m = [] := by
  cases m with
  | nil => rfl
  | cons p m => rw [jrnT_cons] at h; simp at h
theorem rows_post (m : List SPost) : ∀ row ∈ m.map ePost, row.length = 9 := by
  intro row hr
  obtain ⟨p, _, rfl⟩ := List.mem_map.1 hr
  rfl
set_option maxRecDepth 20000 in
theorem cuts_law (hawake : Ret Tryz.prog .shared 11 [] (.bool true)) (l : List SPost) (n : Int) (c : UInt8) : Ret Tryz.prog .shared 5 [.sl (l.map ePost), I n, .int .u8 c.toNat] (.bool true) := by
  have h19 := many_ret l
  cases hm : manyB l with
  | true =>
    rw [hm] at h19
    refine Ret.of_pwp layOk mixed Go.Proofs.Tryz.func5 rfl (by decide) rfl rfl ?_
    repeat (refine stp rfl ?_ ?_;·repeat' constructor)
    apply qst;exact rfl;exact rfl;exact q_callP rfl (h19) rfl (by repeat' constructor) rfl rfl
    repeat (refine stp rfl ?_ ?_;·repeat' constructor)
    apply qst;exact rfl;exact rfl;exact q_callP rfl (hawake) rfl (by repeat' constructor) rfl rfl
    repeat (refine stp rfl ?_ ?_;·repeat' constructor)
    exact end1b rfl rfl rfl
  | false =>
  rw [hm] at h19
  have hll : l.length ≤ 40 := by
    simp only [manyB, Bool.or_eq_false_iff, decide_eq_false_iff_not] at hm
    omega
  clear hm
  have h20 := loaded_ret l (by omega)
  have hA := accR_acc (l := l) Acc.nil
  generalize accR [] l = m at *
  have hml := hA.ok.wf.len
  have hmm : ((m.map ePost).length : Int) = m.length := by simp
  have h23 := journal_ret m hA.fine (by omega)
  have hjl := (jrn_fine hA.fine m.length (Nat.le_refl _)).2.2
  rw [List.take_length] at hjl
  rw [jrn_text] at h23 hjl
  by_cases hj0 : (jrnT m 1).length = 0
  · have hm0 := jrnT_none (List.eq_nil_of_length_eq_zero hj0)
    subst hm0
    refine Ret.of_pwp layOk mixed Go.Proofs.Tryz.func5 rfl (by decide) rfl rfl ?_
    repeat (refine stp rfl ?_ ?_;·repeat' constructor)
    apply qst;exact rfl;exact rfl;exact q_callP rfl (h19) rfl (by repeat' constructor) rfl rfl
    repeat (refine stp rfl ?_ ?_;·repeat' constructor)
    apply qst;exact rfl;exact rfl;exact q_call rfl (h20) rfl (by repeat' constructor) rfl
    repeat (refine stp rfl ?_ ?_;·repeat' constructor)
    apply qst;exact rfl;exact rfl;exact q_callP rfl (h23) rfl (by repeat' constructor) rfl rfl
    repeat (refine stp rfl ?_ ?_;·repeat' constructor)
    apply qst;exact rfl;exact rfl;exact q_callP rfl (hawake) rfl (by repeat' constructor) rfl rfl
    repeat (refine stp rfl ?_ ?_;·repeat' constructor)
    exact end1b rfl rfl rfl
  have h27 := mod27_ret n (jrnT m 1).length (by omega) (by omega)
  have hmr := modE_range (n := n) (m := (jrnT m 1).length) (by omega)
  obtain ⟨k, hk⟩ : ∃ k : Nat, modE n (jrnT m 1).length = k := ⟨(modE n (jrnT m 1).length).toNat, by omega⟩
  rw [hk] at h27 hmr
  clear hk
  have hkl : k < (jrnT m 1).length := by omega
  have e1 := recP_cut hA (Nat.le_of_lt hkl)
  have e2 := recP_all hA
  obtain ⟨more, b, e3, e4⟩ := recP_turn hA (Nat.le_of_lt hkl) ([c] ++ (jrnT m 1).drop (k + 1))
  have htl : ((jrnT m 1).take k ++ ([c] ++ (jrnT m 1).drop (k + 1))).length = (jrnT m 1).length := by
    simp only [List.length_append, List.length_take, List.length_drop, List.length_cons, List.length_nil]; omega
  have hra := recP_len ((jrnT m 1).take k ++ ([c] ++ (jrnT m 1).drop (k + 1)))
  have h21a := recover_ret ((jrnT m 1).take k) (by rw [List.length_take]; omega)
  have h21b := recover_ret (jrnT m 1) (by omega)
  have h21c := recover_ret ((jrnT m 1).take k ++ ([c] ++ (jrnT m 1).drop (k + 1))) (by omega)
  rw [e1] at h21a
  rw [e2] at h21b
  rw [e3] at h21c hra
  rw [htl] at e4
  rw [← List.append_assoc] at h21c
  have hlk := ln_lim m 1 hA.fine k (Nat.le_of_lt hkl)
  have hwk := wh_le (jrnT m 1) k
  have hlkk := ln_le (jrnT m 1) k
  dsimp only at h21a h21b h21c hra
  have h26a := (bookPosts_ret (m.take (ln (jrnT m 1) k)) (by rw [List.length_take]; omega)).shared_of_fresh
  have h26b := (bookPosts_ret m (by omega)).shared_of_fresh
  have h26c := (bookPosts_ret (m.take (ln (jrnT m 1) k) ++ more) (by omega)).shared_of_fresh
  have h25a := postsZ_ret (m.take (ln (jrnT m 1) k)) (by rw [List.length_take]; omega)
  have h25b := postsZ_ret m (by omega)
  have hJ1 : ((jrnT m 1).take k).length = k := by rw [List.length_take]; omega
  have hJ2 : ((jrnT m 1).drop (k + 1)).length = (jrnT m 1).length - (k + 1) := List.length_drop
  have hw0 : wh (jrnT m 1) 0 = 0 := rfl
  have hl0 : ln (jrnT m 1) 0 = 0 := rfl
  have hws : ∀ i, wh (jrnT m 1) (i + 1) = if (jrnT m 1)[i]? = some 10 then i + 1 else wh (jrnT m 1) i := fun i => rfl
  have hls : ∀ i, ln (jrnT m 1) (i + 1) = if (jrnT m 1)[i]? = some 10 then ln (jrnT m 1) i + 1 else ln (jrnT m 1) i := fun i => rfl
  have hll2 : ∀ i, ln (jrnT m 1) i ≤ i := ln_le _
  generalize jrnT m 1 = J at *
  generalize hLn : ln J = Ln at *
  generalize hWh : wh J = Wh at *
  refine Ret.of_pwp layOk mixed Go.Proofs.Tryz.func5 rfl (by decide) rfl rfl ?_
  repeat (refine stp rfl ?_ ?_;·repeat' constructor)
  apply qst;exact rfl;exact rfl;exact q_callP rfl (h19) rfl (by repeat' constructor) rfl rfl
  repeat (refine stp rfl ?_ ?_;·repeat' constructor)
  apply qst;exact rfl;exact rfl;exact q_call rfl (h20) rfl (by repeat' constructor) rfl
  repeat (refine stp rfl ?_ ?_;·repeat' constructor)
  apply qst;exact rfl;exact rfl;exact q_callP rfl (h23) rfl (by repeat' constructor) rfl rfl
  repeat (refine stp rfl ?_ ?_;·repeat' constructor)
  refine pw_cond rfl (fun h => ?_) (fun h => ?_)
  · exact absurd (of_decide_eq_true h) (by omega)
  clear h
  repeat (refine stp rfl ?_ ?_;·repeat' constructor)
  apply qst;exact rfl;exact rfl;exact q_callP rfl (h27) rfl (by repeat' constructor) rfl rfl
  repeat (refine stp rfl ?_ ?_;·repeat' constructor)
  refine pw_loop (fun i => i ≤ k) (fun i => [(1, I k), (2, .int .u8 c.toNat), (8, .sl (m.map ePost)), (9, .str J), (10, I (Wh i)), (11, I (Ln i)), (12, I i)]) (fun _ => []) (fun i => k - i) 0 (Nat.zero_le _) ⟨rfl, rfl, rfl, rfl, by rw [hw0]; rfl, by rw [hl0]; rfl, rfl, trivial⟩ ?_
  intro i st hi
  have hi : i ≤ k := hi
  have hli := hll2 i
  repeat (refine stp rfl ?_ ?_;·repeat' constructor)
  refine pw_cond rfl (fun h => ?_) (fun h => ?_)
  · have hlt : i < k := by have := of_decide_eq_true h; omega
    clear h
    obtain ⟨d, hd⟩ := get_lt (show i < J.length by omega)
    have hdi : J.getD ((i : Int).toNat) 0 = d := by rw [Int.toNat_natCast, List.getD_eq_getElem?_getD, hd]; rfl
    have hw1 := hws i
    have hl1 := hls i
    rw [hd] at hw1 hl1
    repeat (refine stp rfl ?_ ?_;·repeat' constructor)
    apply qst;exact rfl;exact rfl;exact QOp.v rfl (show 0 ≤ (i : Int) ∧ (i : Int) < (J.length : Nat) by omega)
    rw [hdi]
    repeat (refine stp rfl ?_ ?_;·repeat' constructor)
    refine pw_cond rfl (fun h => ?_) (fun h => ?_)
    · have heq : d = 10 := by
        have : (d.toNat : Int) = 10 := by simpa using h
        exact UInt8.toNat_inj.1 (show d.toNat = (10 : UInt8).toNat from (by omega : d.toNat = 10))
      subst heq
      rw [if_pos rfl] at hw1 hl1
      repeat (refine stp rfl ?_ ?_;·repeat' constructor)
      refine ⟨i + 1, hlt, by omega, rfl, rfl, rfl, rfl, ?_, ?_, i64_next (by omega) (by omega), trivial⟩
      · rw [hw1]; exact i64_next (by omega) (by omega)
      · rw [hl1]; exact i64_next (by omega) (by omega)
    · have hne : d ≠ 10 := by intro e1; subst e1; simp at h
      rw [if_neg (by simpa using hne)] at hw1 hl1
      repeat (refine stp rfl ?_ ?_;·repeat' constructor)
      exact ⟨i + 1, hlt, by omega, rfl, rfl, rfl, rfl, by rw [hw1]; rfl, by rw [hl1]; rfl, i64_next (by omega) (by omega), trivial⟩
  have hz : i = k := by have := of_decide_eq_false h; omega
  subst hz
  clear h
  repeat (refine stp rfl ?_ ?_;·repeat' constructor)
  apply qst;exact rfl;exact rfl;exact q_ssH layOk rfl rfl rfl rfl (by omega) (by omega)
  rw [Int.toNat_natCast]
  repeat (refine stp rfl ?_ ?_;·repeat' constructor)
  apply qst;exact rfl;exact rfl;exact q_call rfl (h21a.shared_of_fresh) rfl (by repeat' constructor) rfl
  repeat (refine stp rfl ?_ ?_;·repeat' constructor)
  refine pw_draw 22 [61, 62, 63, 64, 65, 66, 67, 68, 69, 70, 71, 72, 73, 74, 75, 76, 77, 78, 79, 80, 81, 82] (by decide +kernel) ?_
  repeat (refine stp rfl ?_ ?_;·repeat' constructor)
  (first | refine ps_split rfl rfl (fun h => ?_) (fun h => ?_) | refine pq_split rfl rfl (fun h => ?_) (fun h => ?_) | refine p3_split rfl rfl (fun h => ?_) (fun h => ?_))
  · exact absurd h (by simp)
  clear h
  repeat (refine stp rfl ?_ ?_;·repeat' constructor)
  rw [hmm]
  (first | refine ps_split rfl rfl (fun h => ?_) (fun h => ?_) | refine pq_split rfl rfl (fun h => ?_) (fun h => ?_) | refine p3_split rfl rfl (fun h => ?_) (fun h => ?_))
  · exact absurd (of_decide_eq_true h) (by omega)
  clear h
  repeat (refine stp rfl ?_ ?_;·repeat' constructor)
  apply qst;exact rfl;exact rfl;exact q_call rfl (h26a) rfl (by repeat' constructor) rfl
  repeat (refine stp rfl ?_ ?_;·repeat' constructor)
  apply qst;exact rfl;exact rfl;exact QOp.slh rfl rfl rfl rfl rfl rfl (by omega) (by rw [List.length_map]; omega) (rows_post m)
  rw [Int.toNat_natCast, ← List.map_take]
  repeat (refine stp rfl ?_ ?_;·repeat' constructor)
  apply qst;exact rfl;exact rfl;exact q_callP rfl (h25a) rfl (by repeat' constructor) rfl rfl
  repeat (refine stp rfl ?_ ?_;·repeat' constructor)
  apply qst;exact rfl;exact rfl;exact q_call rfl (h21b.shared_of_fresh) rfl (by repeat' constructor) rfl
  repeat (refine stp rfl ?_ ?_;·repeat' constructor)
  (first | refine ps_split rfl rfl (fun h => ?_) (fun h => ?_) | refine pq_split rfl rfl (fun h => ?_) (fun h => ?_) | refine p3_split rfl rfl (fun h => ?_) (fun h => ?_))
  · exact absurd h (by simp)
  clear h
  repeat (refine stp rfl ?_ ?_;·repeat' constructor)
  apply qst;exact rfl;exact rfl;exact q_call rfl (h26b) rfl (by repeat' constructor) rfl
  repeat (refine stp rfl ?_ ?_;·repeat' constructor)
  apply qst;exact rfl;exact rfl;exact q_callP rfl (h25b) rfl (by repeat' constructor) rfl rfl
  repeat (refine stp rfl ?_ ?_;·repeat' constructor)
  refine pw_draw3 [] [16, 17] (by decide +kernel) ?_
  repeat (refine stp rfl ?_ ?_;·repeat' (first|exact True.intro|exact rfl|refine And.intro ?_ ?_))
  apply qst;exact rfl;exact rfl;exact q_ssH layOk rfl rfl rfl rfl (by omega) (by omega)
  rw [Int.toNat_natCast]
  repeat (refine stp rfl ?_ ?_;·repeat' (first|exact True.intro|exact rfl|refine And.intro ?_ ?_))
  apply qst;exact rfl;exact rfl;exact q_slit rfl rfl rfl rfl rfl rfl rfl rfl rfl rfl (by repeat' constructor) rfl
  repeat (refine stp rfl ?_ ?_;·repeat' (first|exact True.intro|exact rfl|refine And.intro ?_ ?_))
  apply qst;exact rfl;exact rfl;exact q_b2s (l := [c]) rfl rfl rfl rfl rfl rfl (by simp) rfl
  repeat (refine stp rfl ?_ ?_;·repeat' (first|exact True.intro|exact rfl|refine And.intro ?_ ?_))
  apply qst;exact rfl;exact rfl;exact QOp.v rfl (show (((J.take i).length : Nat) : Int) + ((([c] : Str).length : Nat) : Int) ≤ 9223372036854775807 by simp; omega)
  repeat (refine stp rfl ?_ ?_;·repeat' (first|exact True.intro|exact rfl|refine And.intro ?_ ?_))
  have hw : IntKind.wrap .i64 ((i : Int) + 1) = ((i + 1 : Nat) : Int) := by rw [wrap_i64 (by omega) (by omega)]; omega
  rw [hw]
  apply qst;exact rfl;exact rfl;exact q_ssT layOk rfl rfl rfl rfl (by omega) (by omega)
  rw [Int.toNat_natCast]
  repeat (refine stp rfl ?_ ?_;·repeat' (first|exact True.intro|exact rfl|refine And.intro ?_ ?_))
  apply qst;exact rfl;exact rfl;exact QOp.v rfl (show (((J.take i ++ [c]).length : Nat) : Int) + (((J.drop (i + 1)).length : Nat) : Int) ≤ 9223372036854775807 by simp; omega)
  repeat (refine stp rfl ?_ ?_;·repeat' (first|exact True.intro|exact rfl|refine And.intro ?_ ?_))
  apply qst;exact rfl;exact rfl;exact q_call rfl (h21c.shared_of_fresh) rfl (by repeat' constructor) rfl
  repeat (refine stp rfl ?_ ?_;·repeat' constructor)
  (first | refine ps_split rfl rfl (fun h => ?_) (fun h => ?_) | refine pq_split rfl rfl (fun h => ?_) (fun h => ?_) | refine p3_split rfl rfl (fun h => ?_) (fun h => ?_))
  · exact absurd (of_decide_eq_true h) (by omega)
  clear h
  repeat (refine stp rfl ?_ ?_;·repeat' constructor)
  refine pw_cond rfl (fun h => ?_) (fun h => ?_)
  · exact absurd (of_decide_eq_true h) (by omega)
  clear h
  repeat (refine stp rfl ?_ ?_;·repeat' constructor)
  apply qst;exact rfl;exact rfl;exact q_call rfl (h26c) rfl (by repeat' constructor) rfl
  repeat (refine stp rfl ?_ ?_;·repeat' constructor)
  refine pw_draw 17 [134, 135, 136, 137, 138, 139, 140, 141, 142, 143, 144, 145, 146, 147, 148, 149, 6] (by decide +kernel) ?_
  repeat (refine stp rfl ?_ ?_;·repeat' constructor)
  (first | refine ps_split rfl rfl (fun h => ?_) (fun h => ?_) | refine pq_split rfl rfl (fun h => ?_) (fun h => ?_) | refine p3_split rfl rfl (fun h => ?_) (fun h => ?_))
  rotate_left
  · exact absurd (of_decide_eq_false h) (by simp; omega)
  clear h
  repeat (refine stp rfl ?_ ?_;·repeat' constructor)
  apply qst;exact rfl;exact rfl;exact QOp.slh rfl rfl rfl rfl rfl rfl (by omega) (by simp; omega) (rows_post _)
  rw [Int.toNat_natCast, ← List.map_take, List.take_left' (by rw [List.length_take]; omega)]
  repeat (refine stp rfl ?_ ?_;·repeat' constructor)
  apply qst;exact rfl;exact rfl;exact QOp.slh rfl rfl rfl rfl rfl rfl (by omega) (by rw [List.length_map]; omega) (rows_post m)
  rw [Int.toNat_natCast, ← List.map_take]
  repeat (refine stp rfl ?_ ?_;·repeat' constructor)
  apply qst;exact rfl;exact rfl;exact q_callP rfl (h25a) rfl (by repeat' constructor) rfl rfl
  repeat (refine stp rfl ?_ ?_;·repeat' constructor)
  apply qst;exact rfl;exact rfl;exact q_callP rfl (hawake) rfl (by repeat' constructor) rfl rfl
  repeat (refine stp rfl ?_ ?_;·repeat' constructor)
  exact end1b rfl rfl rfl
end Go.Pv


set_option maxHeartbeats 2000000
namespace Go.Pv
attribute [local irreducible] PWP POps PQuiet PSem XThen XBlock RetPost InlPost
open Go.Proofs
theorem rows_map {α : Type} {f : α → List PV} : ∀ {rows : List (List PV)}, (∀ row ∈ rows, ∃ x, row = f x) → ∃ l : List α, rows = l.map f
  | [], _ => ⟨[], rfl⟩
  | row :: rows, h => by
    obtain ⟨x, rfl⟩ := h row (by simp)
    obtain ⟨l, rfl⟩ := rows_map (rows := rows) fun r hr => h r (by simp [hr])
    exact ⟨x :: l, rfl⟩
theorem dec_post {n : Nat} {cs : List PV} (h : tyP lay.get (n + 2) 23 cs) : ∃ x, cs = ePost x := by
  obtain ⟨parts, rfl, hl, hp⟩ := tyP_st h rfl
  match parts, hl, hp with
  | [p0, p1, p2, p3, p4, p5, p6, p7, p8], _, hp =>
    obtain ⟨a0, rfl⟩ := tyP_int (hp 0 _ p0 rfl rfl) rfl
    obtain ⟨a1, rfl⟩ := tyP_int (hp 1 _ p1 rfl rfl) rfl
    obtain ⟨a2, rfl⟩ := tyP_str (hp 2 _ p2 rfl rfl) rfl
    obtain ⟨a3, rfl⟩ := tyP_str (hp 3 _ p3 rfl rfl) rfl
    obtain ⟨a4, rfl⟩ := tyP_str (hp 4 _ p4 rfl rfl) rfl
    obtain ⟨a5, rfl⟩ := tyP_str (hp 5 _ p5 rfl rfl) rfl
    obtain ⟨a6, rfl⟩ := tyP_int (hp 6 _ p6 rfl rfl) rfl
    obtain ⟨a7, rfl⟩ := tyP_int (hp 7 _ p7 rfl rfl) rfl
    obtain ⟨a8, rfl⟩ := tyP_int (hp 8 _ p8 rfl rfl) rfl
    exact ⟨⟨a0, a1, a2, a3, a4, a5, a6, a7, a8⟩, rfl⟩
theorem dec_posts {c : PV} (h : argP lay.get 39 c) : ∃ s : List SPost, c = .sl (s.map ePost) := by
  obtain ⟨rows, hr, h2⟩ := tyP_sl (show tyP lay.get 6 39 [c] from h) rfl
  cases hr
  obtain ⟨l, rfl⟩ := rows_map (f := ePost) fun row hrow => dec_post (h2 row hrow)
  exact ⟨l, rfl⟩
end Go.Pv


namespace Go.Proofs.YtakfiahnhjnndaaGreatDoor
open Go Go.ChangeShapes Go.WideShapes Go.ChangeAt Go.RowKit Go.Pv Go.Stop Go.Extern Go.Kit
theorem ownL : ownKnob Tryz.prog.godebug = none := by kernel_rfl
theorem laidB : laidOutB Tryz.prog = true := by kernel_rfl
def laidL : List (String × DataW Unit) := [("math/bits.deBruijn32tab", Rows.laid_math_bits_deBruijn32tab), ("math/bits.deBruijn64tab", Rows.laid_math_bits_deBruijn64tab), ("internal/strconv.uint64pow10", Rows.laid_internal_strconv_uint64pow10), ("unicode/utf8.acceptRanges", Rows.laid_unicode_utf8_acceptRanges), ("strconv.ErrRange", Rows.laid_strconv_ErrRange), ("strconv.ErrSyntax", Rows.laid_strconv_ErrSyntax), ("unicode/utf8.first", Rows.laid_unicode_utf8_first)]
theorem laidL_plain (w : World) : laidMetH Tryz.prog laidL w = laidMet Tryz.prog laidL w := MakeChecks.laidMetH_plain _ _ _ (by kernel_rfl)
theorem laidL_met (os : Os) (args : Array Value) : laidMetH Tryz.prog laidL ((World.laidAll Tryz.prog os laidL).forCall (fun _ _ => 0) ⟨#[], args, []⟩).memory := by
  rw [laidL_plain]
  exact laidMet_laidAll _ (by kernel_rfl) (by kernel_rfl)
theorem pow_g : ∃ g t e, Tryz.prog.globalNamed "internal/strconv.uint64pow10" = some g ∧ (Tryz.prog.globals[g]?).map (·.type) = some t ∧ Tryz.prog.underlying t = some (.array 20 e) ∧ Tryz.prog.underlying e = some (.int .u64) ∧ Tryz.prog.cellsOf e = 1 ∧ Tryz.prog.cellsOf t = 20 := by
  refine ⟨(Tryz.prog.globalNamed "internal/strconv.uint64pow10").getD 0, ((Tryz.prog.globals[(Tryz.prog.globalNamed "internal/strconv.uint64pow10").getD 0]?).map (·.type)).getD 0, 237, ?_, ?_, ?_, ?_, ?_, ?_⟩ <;> kernel_rfl
theorem starE : "*" ++ "errors.errorString" = "*errors.errorString" := by decide
theorem rowE (u : TypeId) (h : Tryz.prog.typeName? 3 u = some "*errors.errorString") : u = 267 :=
  typeName_ptr_named (nm := "errors.errorString") (by rw [starE]; kernel_rfl) (by kernel_rfl) (by decide) u (by rw [starE]; exact h)
theorem holds_err {w : World} {nm : String} {text : List UInt8} {r : List (String × DataW Unit)} {g : Nat} (h : laidMet Tryz.prog ((nm, .iface "*errors.errorString" (.ptr (.agg [.lit (.string text)]))) :: r) w) (hg : Tryz.prog.globalNamed nm = some g) (ht : (Tryz.prog.globals[g]?).map (·.type) = some 115) : HoldsErr w nm := by
  obtain ⟨a, s, h1, _⟩ := laid_sentinel h hg ht Tryz.underlying115 rowE Tryz.underlying267 Tryz.underlying269 rfl rfl Tryz.underlying9 (by kernel_rfl) (by kernel_rfl)
  exact ⟨g, _, _, hg, by simpa using World.var?_cell hg h1 0⟩
theorem laidL_parts {w : World} (h : laidMetH Tryz.prog laidL w) : Lib.TabIs Tryz.prog w "internal/strconv.uint64pow10" .u64 Lib.pow10Tab ∧ HoldsErr w "strconv.ErrSyntax" ∧ HoldsErr w "strconv.ErrRange" := by
  rw [laidL_plain] at h
  unfold laidL at h
  have h3 := laidMet.tail (laidMet.tail h)
  have h5 := laidMet.tail (laidMet.tail h3)
  have h6 := laidMet.tail h5
  obtain ⟨g, t, e, h1, h2, h4, h5', h6', h7⟩ := pow_g
  exact ⟨Lib.tabIs_of_head (k := .u64) (zs := Lib.pow10Tab) h1 h2 h4 h5' h6' h7 h3, holds_err (g := 0) h6 (by kernel_rfl) (by kernel_rfl), holds_err (g := 1) h5 (by kernel_rfl) (by kernel_rfl)⟩
end Go.Proofs.YtakfiahnhjnndaaGreatDoor


namespace Go
variable {H : Type} {enc : TypeId × Value → H}
theorem handed_and_shaped {a : Assume} {C : Checked} {os : Os} {f : FuncId} {fn : Func} {s : ChangeSpec} {conds : List PathCond} {apart fresh handsOn again : Bool} {X : World → Array Value → Prop}
    (hX : ∀ (w w' : World) (args : Array Value), w.heap = w'.heap → X w args → X w' args)
    (own : ownKnob C.prog.godebug = none) (started : os.Started) (noInit : C.prog.inits.idxOf? f = none) (hfn : C.prog.funcs[f]? = some fn)
    (witness : ∃ (w : World) (tape : Tape) (i : Input), w.os = os ∧ (w.forCall tape i).Shaped C.prog ∧ i.vars = [] ∧ Input.okWide C.prog (w.forCall tape i) .any w.heap.size f i ∧
      ((s.pre enc C.prog fn conds apart (w.forCall tape i).memory i.args ∧ X (w.forCall tape i).memory i.args) ∧ sizedMet enc C.prog fn (OpenSpec.ofChange s) apart (w.forCall tape i).memory i.args) ∧ a.holds C.prog (lone (Frame.enter C.prog f i.args .normal) [] (w.forCall tape i)))
    (contract : ∀ (W : World) (base : Nat) (args : Array Value) (ds gs : List (DataW H)) (before : List MemPlace),
      (∀ (j : Nat) t v, fn.params[j]? = some t → args[j]? = some v → Value.okWide C.prog W .any base t v) →
      DataW.Whole enc C.prog fn.params.toList s.vars apart W args.toList ds gs before →
      conds.all (PathCond.test C.prog ⟨fn.params.toList, ds, s.plain.varTypes C.prog, gs⟩) = true →
      (DataW.weightsEach C.prog (fn.params.toList ++ s.plain.varTypes C.prog) (ds ++ gs)).all (· ≤ reachBytes) = true → X W args → W.ShapedOpen C.prog →
      a.holds C.prog (lone (Frame.enter C.prog f args .normal) [] W) →
      Calls C.prog f args W fun e W' => ∃ v, e = .returned v ∧ s.post enc C.prog fn apart fresh handsOn again W args v W') :
    ReturnsInHanded a C os f .any (fun w args => (s.pre enc C.prog fn conds apart w args ∧ X w args) ∧ sizedMet enc C.prog fn (OpenSpec.ofChange s) apart w args) (s.post enc C.prog fn apart fresh handsOn again) := by
  refine returnsInHanded_of_calls own started noInit witness ?_
  intro w tape i _ hsh _ hok hpre hholds
  obtain ⟨_, _, _, fn', hfn', _, _, _, _, hval⟩ := hok
  have e : fn' = fn := Option.some.inj (hfn'.symm.trans hfn)
  subst e
  obtain ⟨⟨⟨ds, gs, before, hw, hc⟩, hx⟩, hz⟩ := hpre
  have hw' := DataW.Whole.of_heap (w' := w.forCall tape i) (by rfl) hw
  refine (contract (w.forCall tape i) w.heap.size i.args ds gs before hval hw' hc (hz.weights hw) (hX _ _ _ (by rfl) hx) hsh hholds).mono fun e W' ⟨v, he, hp⟩ => ?_
  subst he
  exact ChangeSpec.post_blind hp
end Go
namespace Go.Proofs.YtakfiahnhjnndaaGreatDoor
open Go Go.ChangeShapes Go.WideShapes Go.ChangeAt Go.RowKit Go.Pv Go.Stop Go.Extern Go.Kit
theorem max_is {w : World} (h : w.ShapedOpen Tryz.prog) : MaxIs w := by
  obtain ⟨m, hm⟩ := cell_of_shapedOpen_int (P := Tryz.prog) (g := 2) (t := 3) (zero := #[.int .i64 0]) (k := .i64) h (by decide +kernel) (by kernel_rfl) (by kernel_rfl) (by kernel_rfl) (by kernel_rfl) (by kernel_rfl)
  exact ⟨2, m, by kernel_rfl, hm⟩
theorem laidL_max {w : World} (h : laidMetH Tryz.prog laidL w) (hs : w.ShapedOpen Tryz.prog) : Lib.TabIs Tryz.prog w "internal/strconv.uint64pow10" .u64 Lib.pow10Tab ∧ HoldsErr w "strconv.ErrSyntax" ∧ HoldsErr w "strconv.ErrRange" ∧ MaxIs w :=
  have p := laidL_parts h
  ⟨p.1, p.2.1, p.2.2, max_is hs⟩
end Go.Proofs.YtakfiahnhjnndaaGreatDoor

