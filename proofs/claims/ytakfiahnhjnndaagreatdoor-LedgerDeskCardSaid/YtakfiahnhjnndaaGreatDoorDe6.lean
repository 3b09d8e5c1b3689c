/- Texts of one hand, gathered: LfC, LcN, LfE, LcO, LfF, LfG, LfH, LfI, LfJ, LdL, LfK, LgF, LgG, LgH, LgI, LgJ, LgK, LgL, LgM, LcE, LdM, LfL. -/
import Derived.Test.YtakfiahnhjnndaaGreatDoorDe5
import Derived.Test.YtakfiahnhjnndaaGreatDoorRows
import Derived.WalkKit
import Derived.ProofKit
import Derived.Handy
import Derived.Lay
import Derived.OpenShut
import Derived.Stop.Joined
import Derived.MakeChecks
import Derived.Stop.LaidErr
import Derived.Stop.Texts
import Derived.Lib.LaidTab
import Derived.Shelf.Vars
import Derived.SizedLaws
set_option linter.unusedSectionVars false
set_option linter.unusedSimpArgs false
set_option linter.unusedVariables false
set_option linter.unnecessarySimpa false
set_option maxHeartbeats 2000000
namespace Go.Pv
attribute [local irreducible] PWP POps PQuiet PSem XThen XBlock RetPost InlPost
open Go.Proofs Go.RowKit
theorem maxG : Tryz.prog.globalNamed "internal/bytealg.MaxLen" = some 2 := by kernel_rfl
theorem cut_mark (s sep : Str) (hs : s.length ≤ 1000000) : Ret Tryz.prog .shared 75 [.str s,.str sep] (.tup [.str (Lib.cut s sep).1,.str (Lib.cut s sep).2.1,.bool (Lib.cut s sep).2.2]) := by
 refine ⟨⟨_,Go.Proofs.Tryz.func75,by decide,rfl⟩,fun w X args hg hX hl hargs => ?_⟩
 match args,hl with
 |[v,u],_ =>
  have hv := hargs 0 _ v rfl rfl
  have hu := hargs 1 _ u rfl rfl
  cases hv
  cases hu
  obtain ⟨g,m,h1,h2⟩ := max_of hg
  have hg2 : g = 2 := Option.some.inj (h1.symm.trans maxG)
  subst hg2
  refine (Go.Proofs.Tryz.strings_Cut ⟨s.toArray⟩ ⟨sep.toArray⟩ m w (by rw [bytes_size];omega) h2).mono ?_
  rintro e w' ⟨rfl,n,rfl⟩
  refine ⟨_,rfl,⟨rfl,rfl,rfl,Nat.le_refl _,fun _ _ => rfl⟩,?_⟩
  refine .tup _ [.string ⟨(Lib.cut s sep).1.toArray⟩,.string ⟨(Lib.cut s sep).2.1.toArray⟩,.bool (Lib.cut s sep).2.2] rfl fun i c u e1 e2 => ?_
  rcases i with _ | _ | _ | i
  ·simp at e1 e2;subst e1;subst e2;exact .str _
  ·simp at e1 e2;subst e1;subst e2;exact .str _
  ·simp at e1 e2;subst e1;subst e2;exact .bool _
  ·simp at e1
section
variable {P : Program} {L : Lay} {s : St} {T : TypeId} {d : Nat} {x lo hi : Operand} {r : LRow} {ty : TypeId} {pos : String} {af : Array Edge} {g : Option (Nat × Bool)}
theorem q_ssH [Globs] {kh : IntKind} {b : Int} {l : List UInt8} (hL : LOk P L) (hr : L T = some r) (hs : r.sh = .str) (hx : s.ev x = .str l) (hhi : s.ev hi = .int kh b) (h1 : 0 ≤ b) (h2 : b ≤ l.length) :
  QOp P L s ⟨some d,.slice T x none (some hi) none,ty,pos,af,g⟩ (.str (l.take b.toNat)) := by
 refine .semF (v := .string ⟨(l.take b.toNat).toArray⟩) (by simp [Op.operands]) (fun y hy => ?_) (fun ev w _ he => ?_) fun _ _ => .str _
 ·simp [Op.operands] at hy
  rcases hy with rfl | rfl
  ·rw [hx];exact ⟨_,rfl⟩
  ·rw [hhi];exact ⟨_,rfl⟩
 ·have e1 := he x (by simp [Op.operands])
  have e3 := he hi (by simp [Op.operands])
  rw [hx] at e1
  rw [hhi] at e3
  have e1 : ev x = .string ⟨l.toArray⟩ := (Option.some.inj e1).symm
  have e3 : ev hi = .int kh b := (Option.some.inj e3).symm
  have hu : P.underlying T = some .string := und_str (hL T r hr) hs
  have hsz : (⟨l.toArray⟩ : ByteArray).size = l.length := by simp [ByteArray.size]
  simp only [execOp,Option.map_some,Option.map_none,e1,e3]
  refine wrapW ?_
  rw [run_sliceAt_string w _ _ _ _ _ hu]
  have eb : (b.toNat : Int) = b := by omega
  simp [Instr.slice,run_underlying hu,Instr.sliceBounds,run_sliceBound,hsz,bytes_cut,h1,h2,eb]
theorem q_ssT [Globs] {kl : IntKind} {a : Int} {l : List UInt8} (hL : LOk P L) (hr : L T = some r) (hs : r.sh = .str) (hx : s.ev x = .str l) (hlo : s.ev lo = .int kl a) (h0 : 0 ≤ a) (h1 : a ≤ l.length) :
  QOp P L s ⟨some d,.slice T x (some lo) none none,ty,pos,af,g⟩ (.str (l.drop a.toNat)) := by
 refine .semF (v := .string ⟨(l.drop a.toNat).toArray⟩) (by simp [Op.operands]) (fun y hy => ?_) (fun ev w _ he => ?_) fun _ _ => .str _
 ·simp [Op.operands] at hy
  rcases hy with rfl | rfl
  ·rw [hx];exact ⟨_,rfl⟩
  ·rw [hlo];exact ⟨_,rfl⟩
 ·have e1 := he x (by simp [Op.operands])
  have e2 := he lo (by simp [Op.operands])
  rw [hx] at e1
  rw [hlo] at e2
  have e1 : ev x = .string ⟨l.toArray⟩ := (Option.some.inj e1).symm
  have e2 : ev lo = .int kl a := (Option.some.inj e2).symm
  have hu : P.underlying T = some .string := und_str (hL T r hr) hs
  have hsz : (⟨l.toArray⟩ : ByteArray).size = l.length := by simp [ByteArray.size]
  simp only [execOp,Option.map_some,Option.map_none,e1,e2]
  refine wrapW ?_
  rw [run_sliceAt_string w _ _ _ _ _ hu]
  have ea : (a.toNat : Int) = a := by omega
  have et : (l.drop a.toNat).take (l.length - a.toNat) = l.drop a.toNat := List.take_of_length_le (by simp)
  simp [Instr.slice,run_underlying hu,Instr.sliceBounds,run_sliceBound,hsz,bytes_cut,h0,h1,ea,et]
end
end Go.Pv


set_option maxHeartbeats 2000000
namespace Go.Pv
attribute [local irreducible] PWP POps PQuiet PSem XThen XBlock RetPost InlPost
open Go.Proofs
def bkX (q0 q1 q2 q3 q4 q5 q6 : Nat) (x0 x1 x2 x3 x4 x5 x6 : Cont) (g1 g2 g3 g5 g62 : Nat) (l : List SPost) : List (Nat × Nat × Cont) :=
 [(1,g1,⟨142,0,ordR l,0⟩),(2,g2,⟨143,0,itmR l,0⟩),(1005,g5,⟨146,4,[bkRow g1 g2 g3 g62 l],2⟩),(62,g62 + l.length,⟨23,9,l.map ePost,0⟩),(1003,g3,⟨144,0,gonR l,0⟩),(2000,q0,x0),(2001,q1,x1),(2002,q2,x2),(2003,q3,x3),(2004,q4,x4),(2005,q5,x5),(2006,q6,x6)]
set_option maxRecDepth 20000 in
theorem post_inlX {K : St → Prop} {s : St} {d g1 g2 g3 g5 g62 : Nat} {q0 q1 q2 q3 q4 q5 q6 : Nat} {x0 x1 x2 x3 x4 x5 x6 : Cont} {x y : Operand} {tys : Array TypeId} {ty : TypeId} {pos : String} {af : Array Edge} (l : List SPost) (hW : Wf l) (p : SPost) (hx : s.ev x = .ptr 1005 g5 0 0) (hy : s.ev y = .agg (ePost p)) (ho : FitO s (bkX q0 q1 q2 q3 q4 q5 q6 x0 x1 x2 x3 x4 x5 x6 g1 g2 g3 g5 g62 l))
  (hno : ∀ s1 : St,refusalR l p ≠ 0 → K (({ reg := s.reg,own := (s1.over [] (bkX q0 q1 q2 q3 q4 q5 q6 x0 x1 x2 x3 x4 x5 x6 g1 g2 g3 g5 g62 l)).own } : St).putR d (.tup [I 0,I (refusalR l p)])))
  (hyes : ∀ s1 : St,refusalR l p = 0 → K (({ reg := s.reg,own := (s1.over [] (bkX q0 q1 q2 q3 q4 q5 q6 x0 x1 x2 x3 x4 x5 x6 g1 g2 g3 g5 g62 (l ++ [cleanP p]))).own } : St).putR d (.tup [I (l.length + 1),I 0]))) :
  Sm Tryz.prog lay.get s ⟨some d,.call ⟨.value (.func 46),#[x,y],tys⟩,ty,pos,af,none⟩ K := by
 have hl := hW.len
 have hll : ((l.map ePost).length : Int) = l.length := by simp
 have h36 := checkPost_ret p
 have h37 := refused_ret l hW p
 have h38 := cleared_ret p
 refine sm_inline layOk rfl rfl Tryz.func46 rfl (by decide) rfl rfl ?_
 show PWP _ _ _ _ (callSt s (([x,y] : List Operand).map s.ev ++ []))
 rw [show (([x,y] : List Operand).map s.ev ++ ([] : List PV)) = [.ptr 1005 g5 0 0,.agg (ePost p)] by simp [hx,hy]]
 rw [show callSt s [.ptr 1005 g5 0 0,.agg (ePost p)] = callSt (s.over [] (bkX q0 q1 q2 q3 q4 q5 q6 x0 x1 x2 x3 x4 x5 x6 g1 g2 g3 g5 g62 l)) [.ptr 1005 g5 0 0,.agg (ePost p)] by rw [Fit.over (l := []) ho]]
 have nope : refusalR l p ≠ 0 → ∀ (st : St) (e : Exit),(e = .ret ∨ e = .normal) → st.reg 4 = I 0 → st.reg 5 = I (refusalR l p) → FitO st (bkX q0 q1 q2 q3 q4 q5 q6 x0 x1 x2 x3 x4 x5 x6 g1 g2 g3 g5 g62 l) → InlPost lay.get Tryz.f46 (fun s' r => K (({ reg := s.reg,own := s'.own } : St).putR d r)) e st := fun hr st e he h1 h2 h3 =>
  inl_end2O (K := fun o r => K (({ reg := s.reg,own := o } : St).putR d r)) _ he rfl h1 h2 h3 fun s1 => hno s1 hr
 clear ho hx hy
 ((repeat (first | refine ps_nil ?_ | refine pq_nil ?_ | refine x_norm ?_ | refine pw_seq ?_));refine pw_region ?_)
 refine ps_run (o_box rfl rfl rfl (by repeat' constructor) rfl ?_)
 generalize (s.own 3).1 + 1 = gg
 repeat refine stq rfl ?_
 refine qst rfl rfl (q_cp rfl h36 rfl rfl rfl) ?_
 repeat refine stq rfl ?_
 refine pw_cond rfl (fun h => ?_) (fun h => ?_)
 ·have hne : ¬ checkE p = 0 := by simpa using h
  have hr : refusalR l p = checkE p := by rw [refusalR,if_neg hne]
  repeat refine stq rfl ?_
  exact nope (by rw [hr];exact hne) _ _ (.inl rfl) rfl (by rw [hr];rfl) ⟨rfl,rfl,rfl,rfl,rfl,rfl,rfl,rfl,rfl,rfl,rfl,rfl,trivial⟩
 have hc0 : checkE p = 0 := by simpa using h
 rw [refusalR,if_pos hc0] at nope hno hyes
 clear h h36
 refine pw_skip ?_
 refine x_norm ?_
 refine pw_cutP (¬ 400 ≤ l.length ∧ ¬ (0 < l.length ∧ p.day < (entL l l.length).day)) [(0,.ptr 1005 g5 0 0),(3,.ptr 3 gg 0 0)] ((3,gg,⟨23,9,[ePost p],2⟩) :: bkX q0 q1 q2 q3 q4 q5 q6 x0 x1 x2 x3 x4 x5 x6 g1 g2 g3 g5 g62 l) ?_ ?_
 ·repeat refine stq rfl ?_
  rw [hll]
  by_cases h4 : 400 ≤ l.length
  ·rw [if_pos h4] at nope
   refine pw_cond rfl (fun h => ?_) (fun h => ?_)
   ·repeat refine stq rfl ?_
    exact nope (by decide) _ _ (.inl rfl) rfl rfl ⟨rfl,rfl,rfl,rfl,rfl,rfl,rfl,rfl,rfl,rfl,rfl,rfl,trivial⟩
   ·exact absurd (of_decide_eq_false h) (by omega)
  rw [if_neg h4] at nope
  refine pw_cond rfl (fun h => ?_) (fun h => ?_)
  ·exact absurd (of_decide_eq_true h) (by omega)
  clear h
  have hwl : 0 < l.length → IntKind.wrap .i64 ((l.length : Int) - 1) = (l.length : Int) - 1 := fun h => wrap_i64 (by omega) (by omega)
  repeat refine stq rfl ?_
  refine pw_draw 25 [24,25,26,27,28,29,30,31,32,33,34,35,36,37,38,39,40,41,42,43,44,45,46,47,23] (by decide +kernel) ?_
  repeat refine stq rfl ?_
  rw [hll]
  (first|refine ps_split rfl rfl ?_ ?_|refine pq_split rfl rfl ?_ ?_|refine p3_split rfl rfl ?_ ?_)<;>intro h
  ·have hlp := of_decide_eq_true h
   have he := entL_at (l := l) (n := l.length) (by omega) (by omega)
   have hwl := hwl (by omega)
   have hrow : (l.map ePost)[0 + ((l.length : Int) - 1).toNat]? = some (ePost (entL l l.length)) := by rw [List.getElem?_map,Nat.zero_add,he];rfl
   repeat refine stq rfl ?_
   rw [hll,hwl]
   refine qst rfl rfl (q_idxA rfl rfl rfl rfl rfl rfl rfl (by omega) (by omega)) ?_
   repeat refine stq rfl ?_
   refine qst rfl rfl (q_ldp rfl rfl rfl hrow rfl) ?_
   repeat refine stq rfl ?_
   refine pw_cond rfl (fun h => ?_) (fun h => ?_)
   ·have hd := of_decide_eq_true h
    rw [if_pos ⟨by omega,hd⟩] at nope
    repeat refine stq rfl ?_
    exact nope (by decide) _ _ (.inl rfl) rfl rfl ⟨rfl,rfl,rfl,rfl,rfl,rfl,rfl,rfl,rfl,rfl,rfl,rfl,trivial⟩
   ·have hd := of_decide_eq_false h
    repeat refine stq rfl ?_
    exact ⟨⟨h4,fun hc => hd hc.2⟩,rfl,rfl,rfl,rfl,rfl,rfl,rfl,rfl,rfl,rfl,rfl,rfl,rfl,rfl,rfl,trivial⟩
  ·have hlp := of_decide_eq_false h
   repeat refine stq rfl ?_
   exact ⟨⟨h4,fun hc => hlp (by omega)⟩,rfl,rfl,rfl,rfl,rfl,rfl,rfl,rfl,rfl,rfl,rfl,rfl,rfl,rfl,rfl,trivial⟩
 rintro ⟨h4,hday⟩ s1
 rw [if_neg h4,if_neg hday] at nope hno hyes
 repeat refine stq rfl ?_
 refine qst rfl rfl (q_cp rfl h37 rfl rfl rfl) ?_
 repeat refine stq rfl ?_
 refine pw_cond rfl (fun h => ?_) (fun h => ?_)
 ·have hne : ¬ refE l p = 0 := by simpa using h
  repeat refine stq rfl ?_
  exact nope hne _ _ (.inl rfl) rfl rfl ⟨rfl,rfl,rfl,rfl,rfl,rfl,rfl,rfl,rfl,rfl,rfl,rfl,trivial⟩
 have hr0 : refE l p = 0 := by simpa using h
 clear h nope hno
 replace hyes := fun s1 => hyes s1 hr0
 have hsn := bk_snoc l (cleanP p)
 have hqo := clean_op p
 generalize hq : cleanP p = q at *
 refine pw_skip ?_
 refine x_norm ?_
 refine pw_cut [(0,.ptr 1005 g5 0 0),(3,.ptr 3 gg 0 0)] [(1,g1,⟨142,0,ordR l,0⟩),(2,g2,⟨143,0,itmR l,0⟩),(3,gg,⟨23,9,[ePost p],2⟩),(1005,g5,⟨146,4,[bkRow g1 g2 g3 g62 (l ++ [q])],2⟩),(62,g62 + (l ++ [q]).length,⟨23,9,(l ++ [q]).map ePost,0⟩),(1003,g3,⟨144,0,gonR l,0⟩),(2000,q0,x0),(2001,q1,x1),(2002,q2,x2),(2003,q3,x3),(2004,q4,x4),(2005,q5,x5),(2006,q6,x6)] ?_ ?_
 ·refine pw_draw3 [1005,62] [2,3,4,8,9,10,11] (by decide +kernel) ?_
  repeat refine stq rfl ?_
  refine qst rfl rfl (q_cs rfl h38 rfl rfl) ?_
  repeat refine stq rfl ?_
  refine qst rfl rfl (q_slit rfl rfl rfl rfl rfl rfl rfl rfl rfl rfl (by repeat' constructor) rfl) ?_
  repeat refine stq rfl ?_
  refine z3e rfl rfl rfl (o_app 0 rfl rfl rfl rfl rfl rfl rfl rfl rfl rfl rfl (by repeat' constructor) (by intro row hr;first | (simp at hr;subst hr;rfl) | (simp at hr;obtain ⟨_,_,rfl⟩ := hr;rfl) | simp at hr) rfl rfl (by simp;omega) (by simp;omega) ⟨offz rfl,?_⟩)
  repeat refine stq rfl ?_
  refine ⟨rfl,rfl,rfl,rfl,rfl,?_,?_,rfl,rfl,rfl,rfl,rfl,rfl,rfl,rfl,trivial⟩
  ·refine Eq.trans (b := (g5,some (Cont.mk 146 4 [[.als 62 (g62 + l.length + 1) 0 (l.map ePost ++ [ePost q]).length,.mp 1 g1,.mp 2 g2,.mp 1003 g3]] 2))) rfl ?_
   rw [als_snoc ePost 62 g62 l q];rfl
  ·exact cont_snoc ePost g62 23 9 0 l q
 intro s2
 have hl2 : (((l ++ [q]).map ePost).length : Int) = l.length + 1 := by simp
 have fin : ∀ (st : St),st.reg 4 = I (l.length + 1) → st.reg 5 = I 0 → FitO st (bkX q0 q1 q2 q3 q4 q5 q6 x0 x1 x2 x3 x4 x5 x6 g1 g2 g3 g5 g62 (l ++ [q])) → InlPost lay.get Tryz.f46 (fun s' r => K (({ reg := s.reg,own := s'.own } : St).putR d r)) .ret st := fun st h1 h2 h3 =>
  inl_end2O (K := fun o r => K (({ reg := s.reg,own := o } : St).putR d r)) _ (.inl rfl) rfl h1 h2 h3 fun s1 => hyes s1
 rw [refE] at hr0
 by_cases h0 : p.op = 0
 ·rw [if_pos h0] at hr0
  have hz : ¬ 0 < ordNo l p.order := by intro hc;rw [if_pos hc] at hr0;omega
  have hqq : q.order = p.order := by rw [← hq,cleanP,h0];rfl
  have hput := mput_new (v := I (l.length + 1)) (ord_none hz)
  have e1 : ordR (l ++ [q]) = ordR l ++ [[.str p.order,I (l.length + 1)]] := by rw [hsn.1,ordK,hqo.1,if_pos h0,hqq];simp [numV]
  have e2 : itmR (l ++ [q]) = itmR l := by rw [hsn.2.1,itmK,hqo.1,if_neg (by omega)];simp
  have e3 : gonR (l ++ [q]) = gonR l := by rw [hsn.2.2,gonK,hqo.1,if_neg (by omega)];simp
  rw [← e1] at hput
  rw [bkX,e2,e3] at fin
  repeat refine stq rfl ?_
  rw [hl2]
  repeat (first|refine stq rfl ?_|refine pw_no rfl ?_|refine pw_yes rfl ?_)
  refine pw_draw 7 [74,75,76,77,78,79,80] (by decide +kernel) ?_
  repeat refine stq rfl ?_
  refine ps_run0 (o_msetG none 0 rfl rfl rfl rfl rfl rfl rfl rfl rfl rfl (ordR_keyed l) rfl rfl ?_)
  rw [show nrm 0 (I (l.length + 1)) = I (l.length + 1) from rfl,hput]
  repeat refine stq rfl ?_
  exact fin _ rfl rfl ⟨rfl,rfl,rfl,rfl,rfl,rfl,rfl,rfl,rfl,rfl,rfl,rfl,trivial⟩
 rw [if_neg h0] at hr0
 by_cases h1 : p.op = 1
 ·rw [if_pos h1] at hr0
  have hz : ¬ 0 < itmNo l p.order p.item := by
   intro hc;rw [if_pos hc] at hr0;split at hr0 <;> omega
  have hqq : q.order = p.order ∧ q.item = p.item := by rw [← hq,cleanP,h1];exact ⟨rfl,rfl⟩
  have hput := mput_new (v := I (l.length + 1)) (itm_none hz)
  have e1 : ordR (l ++ [q]) = ordR l := by rw [hsn.1,ordK,hqo.1,if_neg h0];simp
  have e2 : itmR (l ++ [q]) = itmR l ++ [[.agg [.str p.order,.str p.item],I (l.length + 1)]] := by rw [hsn.2.1,itmK,hqo.1,if_pos h1,hqq.1,hqq.2];simp [numV]
  have e3 : gonR (l ++ [q]) = gonR l := by rw [hsn.2.2,gonK,hqo.1,if_neg (by omega)];simp
  rw [← e2] at hput
  rw [bkX,e1,e3] at fin
  clear h0
  repeat refine stq rfl ?_
  rw [hl2]
  repeat (first|refine stq rfl ?_|refine pw_no rfl ?_|refine pw_yes rfl ?_)
  refine pw_draw 10 [83,84,85,86,87,88,89,90,91,92] (by decide +kernel) ?_
  repeat refine stq rfl ?_
  refine ps_run0 (o_msetG (some [.str,.str]) 0 rfl rfl rfl good72 rfl rfl rfl rfl rfl rfl (itmR_keyed l _) rfl rfl ?_)
  rw [show nrm 0 (I (l.length + 1)) = I (l.length + 1) from rfl]
  refine Eq.mp (congrArg (fun r => POps _ _ _ _ _ (St.setOwn _ 2 g2 (some ⟨143,0,r,0⟩))) hput.symm) ?_
  repeat refine stq rfl ?_
  exact fin _ rfl rfl ⟨rfl,rfl,rfl,rfl,rfl,rfl,rfl,rfl,rfl,rfl,rfl,rfl,trivial⟩
 rw [if_neg h1] at hr0
 by_cases h8 : p.op = 8
 ·rw [if_neg (by omega),if_neg (by omega),if_pos h8] at hr0
  have hqq : q.ref = p.ref := by rw [← hq,cleanP,h8];rfl
  have hput := mput_new (v := .bool true) (gon_none hW hr0)
  have e1 : ordR (l ++ [q]) = ordR l := by rw [hsn.1,ordK,hqo.1,if_neg h0];simp
  have e2 : itmR (l ++ [q]) = itmR l := by rw [hsn.2.1,itmK,hqo.1,if_neg h1];simp
  have e3 : gonR (l ++ [q]) = gonR l ++ [[I p.ref,.bool true]] := by rw [hsn.2.2,gonK,hqo.1,if_pos h8,hqq]
  rw [← e3] at hput
  rw [bkX,e1,e2] at fin
  clear h0 h1
  repeat refine stq rfl ?_
  rw [hl2]
  repeat (first|refine stq rfl ?_|refine pw_no rfl ?_|refine pw_yes rfl ?_)
  refine pw_draw 6 [95,96,97,98,99,100] (by decide +kernel) ?_
  repeat refine stq rfl ?_
  refine ps_run0 (o_msetG none 0 rfl rfl rfl rfl rfl rfl rfl rfl rfl rfl (gonR_keyed l) rfl rfl ?_)
  rw [show nrm 0 (.bool true) = .bool true from rfl,hput]
  repeat refine stq rfl ?_
  exact fin _ rfl rfl ⟨rfl,rfl,rfl,rfl,rfl,rfl,rfl,rfl,rfl,rfl,rfl,rfl,trivial⟩
 have e1 : ordR (l ++ [q]) = ordR l := by rw [hsn.1,ordK,hqo.1,if_neg h0];simp
 have e2 : itmR (l ++ [q]) = itmR l := by rw [hsn.2.1,itmK,hqo.1,if_neg h1];simp
 have e3 : gonR (l ++ [q]) = gonR l := by rw [hsn.2.2,gonK,hqo.1,if_neg h8];simp
 rw [bkX,e1,e2,e3] at fin
 repeat refine stq rfl ?_
 rw [hl2]
 repeat (first|refine stq rfl ?_|refine pw_no rfl ?_|refine pw_yes rfl ?_)
 exact fin _ rfl rfl ⟨rfl,rfl,rfl,rfl,rfl,rfl,rfl,rfl,rfl,rfl,rfl,rfl,trivial⟩
end Go.Pv


set_option maxHeartbeats 2000000
namespace Go.Pv
attribute [local irreducible] PWP POps PQuiet PSem XThen XBlock RetPost InlPost
open Go.Proofs
theorem prog_fine {s : Str} {c : SPost} (h : progC s = some c) : checkE c = 0 ∧ textP c = s := by
 rw [progC,progC1] at h
 split at h
 ·cases h
 split at h
 ·cases h
 rw [progC2] at h
 split at h
 ·cases h
 split at h
 ·cases h
 unfold progF at h
 split at h
 ·cases h
 ·split at h
  ·rename_i hc
   cases h;exact hc
  ·cases h
theorem prog_clean {s : Str} {c : SPost} (h : progC s = some c) : cleanP c = c := by
 obtain ⟨h1,h2⟩ := prog_fine h
 have h3 := prog_back h1
 rw [h2,h] at h3
 exact (Option.some.inj h3).symm
def findR : Code → Option (Array Tmp × Code × Code)
 |.rangeFunc _ ps a b => some (ps,a,b)
 |.seq x y => match findR x with | some r => some r | none => findR y
 |.block _ c => findR c
 |.loop c => findR c
 |.cond _ x y => match findR x with | some r => some r | none => findR y
 |_ => none
end Go.Pv


set_option maxHeartbeats 2000000
namespace Go.Pv
attribute [local irreducible] PWP POps PQuiet PSem XThen XBlock RetPost InlPost
open Go.Proofs
set_option maxRecDepth 20000 in
theorem new_inlX {K : St → Prop} {s : St} {d : Nat} {ty : TypeId} {pos : String} {af : Array Edge}
  (hK : ∀ (s1 : St) (g1 g2 g3 g5 g62 : Nat),K (({ reg := s.reg,own := (s1.over [] [(1,g1,⟨142,0,[],0⟩),(2,g2,⟨143,0,[],0⟩),(1005,g5,⟨146,4,[[.als 62 g62 0 0,.mp 1 g1,.mp 2 g2,.mp 1003 g3]],2⟩),(62,g62,⟨23,9,[],0⟩),(1003,g3,⟨144,0,[],0⟩)]).own } : St).putR d (.ptr 1005 g5 0 0))) :
  Sm Tryz.prog lay.get s ⟨some d,.call ⟨.value (.func 73),#[],#[]⟩,ty,pos,af,none⟩ K := by
 refine sm_inline layOk rfl rfl Tryz.func73 rfl (by decide) rfl rfl ?_
 show PWP _ _ _ _ (callSt s [])
 repeat refine stq rfl ?_
 refine ps_run (o_mkmap rfl ?_)
 refine ps_run (o_mkmap rfl ?_)
 refine ps_run (o_mkmap rfl ?_)
 iterate 5 refine stq rfl ?_
 refine pw_ghost (Ghost.move (k := 5) (k' := 1005) (t := 0) rfl rfl rfl rfl) ?_
 refine pw_ghost (Ghost.moveC (k := 3) (k' := 1003) (k0 := 1005) (i := 0) (j := 3) rfl rfl rfl rfl rfl rfl rfl rfl rfl rfl) ?_
 refine pw_ghost (Ghost.nilcell (k := 62) (k0 := 1005) (i := 0) (j := 0) 23 9 0 rfl rfl rfl rfl rfl rfl rfl) ?_
 repeat refine stq rfl ?_
 refine inl_end1O (t := 0) (v := .ptr 1005 ((s.own 1005).1 + 1) 0 0) (K := fun o r => K (({ reg := s.reg,own := o } : St).putR d r)) [(1,(s.own 1).1 + 1,⟨142,0,[],0⟩),(2,(s.own 2).1 + 1,⟨143,0,[],0⟩),(1005,(s.own 1005).1 + 1,⟨146,4,[[.als 62 ((s.own 62).1 + 1) 0 0,.mp 1 ((s.own 1).1 + 1),.mp 2 ((s.own 2).1 + 1),.mp 1003 ((s.own 1003).1 + 1)]],2⟩),(62,(s.own 62).1 + 1,⟨23,9,[],0⟩),(1003,(s.own 1003).1 + 1,⟨144,0,[],0⟩)] (.inl rfl) ?_ ?_ ?_ fun s1 => hK s1 _ _ _ _ _
 ·rfl
 ·rfl
 ·exact ⟨rfl,rfl,rfl,rfl,rfl,trivial⟩
end Go.Pv


set_option maxHeartbeats 2000000
namespace Go.Pv
attribute [local irreducible] PWP POps PQuiet PSem XThen XBlock RetPost InlPost
open Go.Proofs
theorem index_one (s : Str) (c : UInt8) : Ret Tryz.prog .shared 155 [.str s,.str [c]] (I (Lib.indexByte s c)) := by
 refine ⟨⟨_,Go.Proofs.Tryz.func155,by decide,rfl⟩,fun w X args hg hX hl hargs => ?_⟩
 match args,hl with
 |[v,u],_ =>
  have hv := hargs 0 _ v rfl rfl
  have hu := hargs 1 _ u rfl rfl
  cases hv
  cases hu
  refine (Go.Proofs.Tryz.strings_Index_one ⟨s.toArray⟩ c w).mono ?_
  rintro e w' ⟨rfl,rfl⟩
  exact ⟨_,rfl,⟨rfl,rfl,rfl,Nat.le_refl _,fun _ _ => rfl⟩,.int _ _⟩
theorem pw_lp {P : Program} {L : Lay} {x : Code} {Q : Exit → St → Prop} {s : St} (h : PWP P L (.loop x) Q s) : PWP P L (.loop x) Q s := h
theorem inl_one {L : Lay} {fn : Func} {K : St → PV → Prop} {s : St} {t : Nat} {v : PV} (h : fn.results.toList = [.tmp t]) (h1 : s.reg t = v) (hk : K s v) : InlPost L fn K .ret s := by
 unfold InlPost
 refine ⟨[s.reg t],True ∧ True,by rw [h];rfl,⟨trivial,trivial⟩,?_⟩
 rw [h1];exact hk
theorem pw_norm {P : Program} {L : Lay} {x : Code} {Q : Exit → St → Prop} {s : St} (R : List (Nat × PV)) (O : List (Nat × Nat × Cont)) (hf : Fit s R O) (h : ∀ s1 : St,PWP P L x Q (s1.over R O)) : PWP P L x Q s := by
 have := h s
 rwa [Fit.over hf] at this
end Go.Pv


set_option maxHeartbeats 2000000
namespace Go.Pv
attribute [local irreducible] PWP POps PQuiet PSem XThen XBlock RetPost InlPost
open Go.Proofs Go.RowKit
section
variable {P : Program} {L : Lay} {s : St}
theorem sm_eqnil [Globs] {T T' : TypeId} {d : Nat} {x : Operand} {r : LRow} {E : TypeId} {ty : TypeId} {pos : String} {af : Array Edge} {rows : List (List PV)} {K : St → Prop} (hL : LOk P L) (hr : L T = some r) (hs : r.sh = .sl E) (hx : s.ev x = .sl rows)
  (h1 : rows = [] → K (s.putR d (.bool true))) (h2 : K (s.putR d (.bool false))) : Sm P L s ⟨some d,.binOp .eql T x (.const (.slice none 0 0)) T',ty,pos,af,none⟩ K := by
 intro C a w Q hG ⟨γ,hs'⟩ hN
 have hv := hs'.ev x
 rw [hx] at hv
 have hu := und_sl (hL T r hr) hs
 have run : ∀ (v : Value) (b : Bool),a.eval x = v → ((v = .slice none 0 0 ∨ ∃ c,v = .slice none 0 c) ∧ b = true ∨ (∃ q n c,v = .slice (some q) n c) ∧ b = false) →
   (execOp a.eval ⟨some d,.binOp .eql T x (.const (.slice none 0 0)) T',ty,pos,af,none⟩).run P w = .ok (.value (.bool b)) w := by
  intro v b hv hb
  have e2 : a.eval (.const (.slice none 0 0)) = .slice none 0 0 := rfl
  simp only [execOp,hv,e2]
  refine wrapW ?_
  rcases hb with ⟨rfl | ⟨c,rfl⟩,rfl⟩ | ⟨⟨q,n,c,rfl⟩,rfl⟩
  ·have hg : eqGuard .eql T x (.const (.slice none 0 0)) (.slice none 0 0) (.slice none 0 0) = pure () := by cases x <;> rfl
   rw [hg]
   have h : ∀ d : Nat,(Op.equalIn (d + 1) T (.slice none 0 0) (.slice none 0 0)).run P w = .ok true w := fun d => by simp [Op.equalIn,run_underlying hu]
   simp only [Sem.run_bind,Sem.run_pure,Result.andThen_ok,binOp]
   simp [Op.equal,Op.maxDepth,h 9999]
  ·have hg : eqGuard .eql T x (.const (.slice none 0 0)) (.slice none 0 c) (.slice none 0 0) = pure () := by cases x <;> rfl
   rw [hg]
   have h : ∀ d : Nat,(Op.equalIn (d + 1) T (.slice none 0 c) (.slice none 0 0)).run P w = .ok true w := fun d => by simp [Op.equalIn,run_underlying hu]
   simp only [Sem.run_bind,Sem.run_pure,Result.andThen_ok,binOp]
   simp [Op.equal,Op.maxDepth,h 9999]
  ·have hg : eqGuard .eql T x (.const (.slice none 0 0)) (.slice (some q) n c) (.slice none 0 0) = pure () := by cases x <;> rfl
   rw [hg]
   have h : ∀ d : Nat,(Op.equalIn (d + 1) T (.slice (some q) n c) (.slice none 0 0)).run P w = .ok false w := fun d => by simp [Op.equalIn,run_underlying hu]
   simp only [Sem.run_bind,Sem.run_pure,Result.andThen_ok,binOp]
   simp [Op.equal,Op.maxDepth,h 9999]
 generalize hev : a.eval x = v0 at hv
 cases hv with
 |d hd =>
  cases hd with
  |sl0 q cap =>
   cases q with
   |none =>
    unfold Oper.wp
    rw [run _ true hev (.inl ⟨.inr ⟨_,rfl⟩,rfl⟩),Oper.upon_value]
    exact ⟨_,⟨_,hs'.put (d := some d) hN (.d (.bool _))⟩,h1 rfl⟩
   |some q =>
    unfold Oper.wp
    rw [run _ false hev (.inr ⟨⟨_,_,_,rfl⟩,rfl⟩),Oper.upon_value]
    exact ⟨_,⟨_,hs'.put (d := some d) hN (.d (.bool _))⟩,h2⟩
  |sl rows b off cap sz vals =>
   unfold Oper.wp
   rw [run _ false hev (.inr ⟨⟨_,_,_,rfl⟩,rfl⟩),Oper.upon_value]
   exact ⟨_,⟨_,hs'.put (d := some d) hN (.d (.bool _))⟩,h2⟩
end
theorem pw_rt {P : Program} {L : Lay} {Q : Exit → St → Prop} {s : St} (h : PWP P L .ret Q s) : PWP P L .ret Q s := h
set_option maxRecDepth 20000 in
theorem clone_ret (l : List SPost) (hl : l.length ≤ 1000000) : Ret Tryz.prog .fresh 80 [.sl (l.map ePost)] (.sl (l.map ePost)) := by
 refine Ret.of_pwp layOk mixed Go.Proofs.Tryz.func80 rfl (by decide) rfl rfl ?_
 ((repeat ((fail_if_success (with_reducible refine pw_at 1 ?_));refine stx rfl ?_));refine pw_regionS 1 ?_)
 refine stq rfl ?_
 refine ps_nil ?_
 refine psem_sm rfl (sm_eqnil layOk rfl rfl rfl (fun h0 => ?_) ?_)
 ·rw [h0]
  refine psem_ops ?_
  (repeat ((fail_if_success (with_reducible refine pw_rt ?_));refine stx rfl ?_))
  refine pw_ghost (Ghost.nilfs (t := 2) rfl) ?_
  repeat refine stq rfl ?_
  exact end1f rfl rfl rfl trivial rfl
 ·refine psem_ops ?_
  repeat refine stq rfl ?_
  refine ps_run (o_slit 0 rfl rfl rfl rfl rfl rfl rfl rfl rfl rfl rfl (by repeat' constructor) rfl ?_)
  repeat refine stq rfl ?_
  refine ps_run (o_app 1 rfl rfl rfl rfl rfl rfl rfl rfl rfl rfl rfl (by repeat' constructor) (by intro row hr;obtain ⟨p,_,rfl⟩ := List.mem_map.1 hr;rfl) rfl rfl (by simp;omega) (by simp;omega) ?_)
  (repeat ((fail_if_success (with_reducible refine pw_rt ?_));refine stx rfl ?_))
  refine pw_ghost (Ghost.takeF (k := 5) (t := 2) l rfl rfl rfl rfl (fun _ => rfl)) ?_
  repeat refine stq rfl ?_
  exact end1f rfl rfl rfl (by repeat' constructor) rfl
theorem bookPosts_ret (l : List SPost) (hl : l.length ≤ 1000000) : Ret Tryz.prog .fresh 26 [.dref (eBook l) 0] (.sl (l.map ePost)) := by
 have h := clone_ret l hl
 refine Ret.of_pwp layOk mixed Go.Proofs.Tryz.func26 rfl (by decide) rfl rfl ?_
 repeat refine stq rfl ?_
 refine qst rfl rfl (q_cf rfl h rfl rfl) ?_
 repeat refine stq rfl ?_
 exact end1f rfl rfl rfl trivial rfl
end Go.Pv


set_option maxHeartbeats 2000000
namespace Go.Pv
attribute [local irreducible] PWP POps PQuiet PSem XThen XBlock RetPost InlPost
open Go.Proofs
end Go.Pv


set_option maxHeartbeats 2000000
namespace Go.Pv
attribute [local irreducible] PWP POps PQuiet PSem XThen XBlock RetPost InlPost
open Go.Proofs
theorem ix_line : ∀ (b r : Str),(10 : UInt8) ∉ b → Lib.indexByte (b ++ 10 :: r) 10 = b.length
 |[],r,_ => by simp [Lib.indexByte]
 |c :: b,r,h => by
  have ih := ix_line b r (fun hm => h (by simp [hm]))
  have hc : ¬ c = 10 := fun e => h (by simp [e])
  rw [List.cons_append,Lib.indexByte,ih]
  simp [hc]
end Go.Pv


set_option maxHeartbeats 2000000
namespace Go.Pv
attribute [local irreducible] PWP POps PQuiet PSem XThen XBlock RetPost InlPost
open Go.Proofs
end Go.Pv


set_option maxHeartbeats 2000000
namespace Go.Pv
attribute [local irreducible] PWP POps PQuiet PSem XThen XBlock RetPost InlPost
open Go.Proofs
theorem postE : eqT Tryz.prog 23 [.int .i64,.int .i64,.str,.str,.str,.str,.int .i64,.int .i64,.int .i64] = true := by kernel_rfl
end Go.Pv


set_option maxHeartbeats 2000000
namespace Go.Pv
attribute [local irreducible] PWP POps PQuiet PSem XThen XBlock RetPost InlPost
open Go.Proofs
theorem postsZ_ret (a : List SPost) (hw : a.length ≤ 1000000) : Ret Tryz.prog .shared 25 [.sl (a.map ePost),.sl (a.map ePost)] (.bool true) := by
 have hll : ((a.map ePost).length : Int) = a.length := by simp
 refine Ret.of_pwp layOk mixed Go.Proofs.Tryz.func25 rfl (by decide) rfl rfl ?_
 repeat refine stq rfl ?_
 refine pw_cond rfl (fun h => ?_) (fun h => ?_)
 ·exact absurd h (by simp)
 clear h
 repeat refine stq rfl ?_
 refine pw_loop (fun k => k ≤ a.length) (fun k => [(0,.sl (a.map ePost)),(1,.sl (a.map ePost)),(5,I k)]) (fun _ => []) (fun k => a.length - k) 0 (Nat.zero_le _) ⟨rfl,rfl,rfl,trivial⟩ ?_
 intro k s hk
 have hk : k ≤ a.length := hk
 repeat refine stq rfl ?_
 rw [hll]
 refine pw_cond rfl (fun h => ?_) (fun h => ?_)
 ·have hlt : k < a.length := by have := of_decide_eq_true h;omega
  obtain ⟨x,hx⟩ := get_lt hlt
  clear h
  repeat refine stq rfl ?_
  refine pw_draw 9 [17,18,19,20,21,22,23,24,25] (by decide +kernel) ?_
  repeat refine stq rfl ?_
  refine qst rfl rfl (q_idxm rfl rfl rfl rfl rfl (by omega) hx rfl) ?_
  repeat refine stq rfl ?_
  refine qst rfl rfl (q_idxm rfl rfl rfl rfl rfl (by omega) hx rfl) ?_
  repeat refine stq rfl ?_
  refine zqq rfl (q_seqN postE rfl rfl rfl) ?_
  repeat refine stq rfl ?_
  refine pw_cond rfl (fun h => ?_) (fun h => ?_)
  ·exact absurd h (by simp)
  ·repeat refine stq rfl ?_
   exact ⟨k + 1,hlt,by omega,rfl,rfl,i64_next (by omega) (by omega),trivial⟩
 ·repeat refine stq rfl ?_
  exact end1b rfl rfl rfl
theorem Acc.fine {l : List SPost} (h : Acc l) : ∀ p ∈ l,checkE p = 0 := by
 intro p hp
 obtain ⟨j,hj,rfl⟩ := List.getElem_of_mem hp
 exact (refusalR_zero (h.at_ j _ (List.getElem?_eq_getElem hj)).1).1
end Go.Pv


set_option maxHeartbeats 2000000
namespace Go.Pv
attribute [local irreducible] PWP POps PQuiet PSem XThen XBlock RetPost InlPost
open Go.Proofs
def accN (a : SAcct) : List Int := [a.est,a.gro,a.chg,a.sig,a.bil,a.ovr]
def accX (a : SAcct) : Str := rowT [a.item] (accN a)
def accsT (A : List SAcct) : Str := Lib.join (A.map accX) [59,32]
def noneT : Str := [110,111,110,101]
def acctT (l : List SPost) (o : Str) : Str := if standE l (ordNo l o) = 0 then (if accP l o = [] then noneT else accsT (accP l o)) else answT [] (standE l (ordNo l o))
theorem standE_mid (l : List SPost) (n : Int) : Mid (standE l n) := by
 rw [standE]
 split
 ·exact ⟨by decide,by decide⟩
 ·split <;> exact ⟨by decide,by decide⟩
theorem aimE_mid (l : List SPost) (n : Int) (ks : List Int) : Mid (aimE l n ks) := by
 have := standE_mid l n
 rw [aimE]
 split
 ·exact ⟨by decide,by decide⟩
 ·split
  ·exact ⟨by decide,by decide⟩
  ·exact this
theorem accA_item (l : List SPost) (n : Int) : ∀ k,(accA l n k).item = (entL l n).item
 |0 => rfl
 |k + 1 => by
  have ih := accA_item l n k
  rw [accA]
  split
  ·rw [accT]
   split
   ·split <;> exact ih
   ·split <;> exact ih
  ·exact ih
theorem item_short {l : List SPost} (h : Acc l) {n : Int} (h1 : 1 ≤ n) (h2 : n ≤ l.length) (ho : (entL l n).op = 1) : (entL l n).item.length ≤ 12 := by
 have hc := h.fine _ (List.mem_of_getElem? (entL_at h1 h2))
 generalize entL l n = p at *
 have hn := txt_name hc (k := 1) (f := .i) (by rw [ho];rfl) rfl
 have hn : isName p.item = true := hn
 simp only [isName,Bool.and_eq_true,decide_eq_true_eq] at hn
 exact hn.1.2
theorem accP_fine {l : List SPost} (h : Acc l) (o : Str) : (accP l o).length ≤ 400 ∧ ∀ a,a ∈ accP l o → a.item.length ≤ 12 ∧ ∀ n,n ∈ accN a → Mid n := by
 have hl := h.ok.wf.len
 refine ⟨(accP_lim h o).1,fun a ha => ?_⟩
 rw [accP_items h,List.mem_map] at ha
 obtain ⟨n,hn,rfl⟩ := ha
 obtain ⟨n1,n2,n3⟩ := its_mem hn
 have hop : (entL l n).op = 1 := by simp only [itB,Bool.and_eq_true,decide_eq_true_eq] at n3;exact n3.1
 obtain ⟨⟨b1,b2⟩,⟨b3,b4⟩,⟨b5,b6⟩,⟨b7,b8⟩,⟨b9,b10⟩,b11⟩ := accA_lim h n1 n2 l.length (Nat.le_refl _)
 refine ⟨?_,fun m hm => ?_⟩
 ·show (accA l n l.length).item.length ≤ 12
  rw [accA_item];exact item_short h n1 n2 hop
 ·simp only [accN,ovrA,List.mem_cons,List.not_mem_nil,or_false] at hm
  have hk : (l.length : Int) ≤ 400 := by omega
  rcases hm with rfl | rfl | rfl | rfl | rfl | rfl
  ·exact ⟨by omega,by omega⟩
  ·exact ⟨by omega,by omega⟩
  ·exact ⟨by omega,by omega⟩
  ·exact ⟨by omega,by omega⟩
  ·exact ⟨by omega,by omega⟩
  ·rw [Int.max_def]
   split <;> exact ⟨by omega,by omega⟩
theorem rowT_len {ws : List Str} {ns : List Int} (hw : ∀ x,x ∈ ws → x.length ≤ 17) (hm : ∀ n,n ∈ ns → Mid n) : (rowT ws ns).length ≤ (ws.length + ns.length) * 18 := by
 have := join_all_len (xs := ws ++ ns.map Lib.itoa) (B := 17) [32] (fun x hx => (List.mem_append.1 hx).elim (hw x) (strs_len hm x))
 rw [List.length_append,List.length_map] at this
 exact this
theorem accX_len {a : SAcct} (h : a.item.length ≤ 12 ∧ ∀ n,n ∈ accN a → Mid n) : (accX a).length ≤ 126 := by
 have := rowT_len (ws := [a.item]) (ns := accN a) (fun x hx => by simp at hx;subst hx;omega) h.2
 exact this
set_option maxRecDepth 20000 in
theorem account_txt (l : List SPost) (hA : Acc l) (o : Str) : Ret Tryz.prog .shared 91 [.dref [.dref (eBook l) 0] 0,.str o] (.str (acctT l o)) := by
 have h1 := accountsX_ret l hA o
 have he := standE_mid l (ordNo l o)
 obtain ⟨hAl,hfine⟩ := accP_fine hA o
 rw [acctT]
 by_cases hz : standE l (ordNo l o) = 0
 case neg =>
  rw [if_neg hz] at h1 ⊢
  have h2 := answered_ret [] _ he
  have hj := join_ret [] [59,32] (by decide) (by decide)
  generalize standE l (ordNo l o) = e at *
  refine Ret.of_pwp layOk mixed Go.Proofs.Tryz.func91 rfl (by decide) rfl rfl ?_
  repeat refine stq rfl ?_
  refine qst rfl rfl (q_cs rfl h1 rfl rfl) ?_
  repeat refine stq rfl ?_
  (first|refine ps_split rfl rfl ?_ ?_|refine pq_split rfl rfl ?_ ?_|refine p3_split rfl rfl ?_ ?_)<;>intro h
  ·exact absurd (by simpa using h) hz
  clear h
  repeat refine stq rfl ?_
  refine pw_exitE (fun _ : Unit => True) (fun _ => [(6,I e),(7,.nil)]) (fun _ => []) ?_ ?_
  ·refine pw_loop (fun _ : Unit => True) (fun _ => [(6,I e),(7,.nil),(26,.nil),(27,I 0),(28,I 0)]) (fun _ => []) (fun _ => 0) () trivial ⟨rfl,rfl,rfl,rfl,rfl,trivial⟩ ?_
   intro _ s _
   repeat refine stq rfl ?_
   exact ⟨(),trivial,rfl,rfl,trivial⟩
  intro _ _ s
  refine pw_ghost (Ghost.nilsl (t := 7) rfl) ?_
  repeat refine stq rfl ?_
  refine qst rfl rfl (q_cp rfl hj rfl rfl rfl) ?_
  repeat refine stq rfl ?_
  refine qst rfl rfl (q_cp rfl h2 rfl rfl rfl) ?_
  repeat refine stq rfl ?_
  exact end1 rfl rfl rfl trivial rfl
 rw [if_pos hz] at h1 ⊢
 rw [hz] at he
 generalize accP l o = A at *
 have hAc : ((A.map eAcct).length : Int) = A.length := by simp
 by_cases h0 : A = []
 ·subst h0
  rw [if_pos rfl]
  refine Ret.of_pwp layOk mixed Go.Proofs.Tryz.func91 rfl (by decide) rfl rfl ?_
  repeat refine stq rfl ?_
  refine qst rfl rfl (q_cs rfl h1 rfl rfl) ?_
  repeat refine stq rfl ?_
  exact end1 rfl rfl rfl trivial rfl
 rw [if_neg h0]
 have hne : ¬ A.length = 0 := fun e => h0 (List.eq_nil_of_length_eq_zero e)
 have hjl := join_all_len (xs := A.map accX) (B := 126) [59,32] (fun x hx => by obtain ⟨a,ha,rfl⟩ := List.mem_map.1 hx;exact accX_len (hfine a ha))
 rw [List.length_map] at hjl
 simp only [List.length_cons,List.length_nil] at hjl
 have hj := join_ret (A.map accX) [59,32] (by rw [List.length_map];omega) (by omega)
 have h2 := answered_ret (Lib.join (A.map accX) [59,32]) 0 he
 rw [answT,if_pos rfl] at h2
 rw [accsT]
 refine Ret.of_pwp layOk mixed Go.Proofs.Tryz.func91 rfl (by decide) rfl rfl ?_
 repeat refine stq rfl ?_
 refine qst rfl rfl (q_cs rfl h1 rfl rfl) ?_
 repeat refine stq rfl ?_
 rw [hAc]
 refine pw_cond rfl (fun h => ?_) (fun h => ?_)
 ·exact absurd (by simpa using h) hne
 clear h
 repeat refine stq rfl ?_
 rw [hAc]
 refine pw_ghost (Ghost.nilreg (k := 7) (t := 7) 9 1 0 rfl rfl) ?_
 refine pw_loop (fun (j : Nat × Nat) => j.1 ≤ A.length) (fun j => [(6,I 0),(7,.als 7 j.2 0 (((A.take j.1).map accX).map eS).length),(26,.sl (A.map eAcct)),(27,I A.length),(28,I j.1)]) (fun j => [(7,j.2,⟨9,1,((A.take j.1).map accX).map eS,0⟩)]) (fun j => A.length - j.1) (0,1) (Nat.zero_le _) ⟨rfl,rfl,rfl,rfl,rfl,rfl,trivial⟩ ?_
 rintro ⟨j,g⟩ s hjn
 have hjn : j ≤ A.length := hjn
 repeat refine stq rfl ?_
 refine pw_cond rfl (fun h => ?_) (fun h => ?_)
 ·have hlt : j < A.length := by have := of_decide_eq_true h;omega
  clear h
  obtain ⟨a,ha⟩ := get_lt hlt
  have hf := hfine a (List.mem_of_getElem? ha)
  have htk : (A.take (j + 1)).map accX = (A.take j).map accX ++ [accX a] := by rw [take_snoc ha,List.map_append];rfl
  have hlen : ((A.take j).map accX).length = j := by rw [List.length_map,List.length_take];omega
  repeat refine stq rfl ?_
  refine qst rfl rfl (q_idxm rfl rfl rfl rfl rfl (by omega) ha rfl) ?_
  ((repeat ((fail_if_success (with_reducible refine pw_at 8 ?_));refine stx rfl ?_));refine pw_regionS 17 ?_)
  iterate 3 refine stq rfl ?_
  refine ps_run (o_slit 0 rfl rfl rfl rfl rfl rfl rfl rfl rfl rfl rfl (by repeat' constructor) rfl ?_)
  iterate 12 refine stq rfl ?_
  refine qst rfl rfl (q_slit rfl rfl rfl rfl rfl rfl rfl rfl rfl rfl (by repeat' constructor) rfl) ?_
  refine ps_nil ?_
  refine psem_sm rfl (row_inl (g7 := g) (c7 := ⟨9,1,((A.take j).map accX).map eS,0⟩) [a.item] (accN a) (fun x hx => by simp at hx;subst hx;omega) (by simp) hf.2 (by simp [accN]) rfl rfl ⟨rfl,rfl,trivial⟩ fun s1 => ?_)
  refine psem_ops ?_
  rw [show rowT [a.item] (accN a) = accX a from rfl]
  repeat refine stq rfl ?_
  refine qst rfl rfl (q_slit rfl rfl rfl rfl rfl rfl rfl rfl rfl rfl (by repeat' constructor) rfl) ?_
  repeat refine stq rfl ?_
  refine ps_run (o_app 0 rfl rfl rfl rfl rfl rfl rfl rfl rfl rfl rfl (by repeat' constructor) (by intro row hr;first | (simp at hr;subst hr;rfl) | simp at hr) rfl rfl (by simp;omega) (by simp;omega) ?_)
  repeat refine stq rfl ?_
  refine ⟨(j + 1,g + 1),hlt,by show A.length - (j + 1) < A.length - j;omega,rfl,?_,rfl,rfl,i64_next (by omega) (by omega),?_,trivial⟩
  ·show _ = PV.als 7 (g + 1) 0 (((A.take (j + 1)).map accX).map eS).length
   rw [htk,List.map_append];rfl
  ·show _ = (g + 1,some (Cont.mk 9 1 (((A.take (j + 1)).map accX).map eS) 0))
   rw [htk,List.map_append];rfl
 ·have hz : j = A.length := by have := of_decide_eq_false h;omega
  subst hz
  rw [List.take_length] at *
  repeat refine stq rfl ?_
  refine qst rfl rfl (q_cp rfl hj rfl rfl rfl) ?_
  repeat refine stq rfl ?_
  refine qst rfl rfl (q_cp rfl h2 rfl rfl rfl) ?_
  repeat refine stq rfl ?_
  exact end1 rfl rfl rfl trivial rfl
end Go.Pv


set_option maxHeartbeats 2000000
namespace Go.Pv
attribute [local irreducible] PWP POps PQuiet PSem XThen XBlock RetPost InlPost
open Go.Proofs Go.RowKit
section
variable {P : Program} {L : Lay} {s : St} {T : TypeId} {d : Nat} {x : Operand} {T' ty : TypeId} {pos : String} {af : Array Edge} {g : Option (Nat × Bool)}
theorem q_ieN0 [Globs] {ms : Array (String × TypeId)} (hu : P.underlying T = some (.interface ms)) (hx : s.ev x = .raw .nilIface) :
  QOp P L s ⟨some d,.binOp .eql T x (.const .nilIface) T',ty,pos,af,g⟩ (.bool true) := by
 refine .semF (v := .bool true) (by simp [Op.operands]) (fun y hy => ?_) (fun ev w _ he => ?_) fun _ _ => .bool _
 ·simp [Op.operands] at hy
  rcases hy with rfl | rfl
  ·rw [hx];exact ⟨_,rfl⟩
  ·exact ⟨_,rfl⟩
 ·have e1 := he x (by simp [Op.operands])
  have e2 := he (.const .nilIface) (by simp [Op.operands])
  rw [hx] at e1
  have e1 : ev x = .nilIface := (Option.some.inj e1).symm
  have e2 : ev (.const .nilIface) = .nilIface := (Option.some.inj e2).symm
  simp only [execOp,e1,e2]
  refine wrapW ?_
  have hg : eqGuard .eql T x (.const .nilIface) .nilIface .nilIface = pure () := by cases x <;> rfl
  rw [hg]
  have h : ∀ d : Nat,(Op.equalIn (d + 1) T .nilIface .nilIface).run P w = .ok true w := fun d => by simp [Op.equalIn,run_underlying hu]
  simp only [Sem.run_bind,Sem.run_pure,Result.andThen_ok,binOp]
  simp [Op.equal,Op.maxDepth,h 9999]
theorem q_ieN1 [Globs] {ms : Array (String × TypeId)} {t : TypeId} {u : Value} (hu : P.underlying T = some (.interface ms)) (hx : s.ev x = .raw (.iface t u)) :
  QOp P L s ⟨some d,.binOp .eql T x (.const .nilIface) T',ty,pos,af,g⟩ (.bool false) := by
 refine .semF (v := .bool false) (by simp [Op.operands]) (fun y hy => ?_) (fun ev w _ he => ?_) fun _ _ => .bool _
 ·simp [Op.operands] at hy
  rcases hy with rfl | rfl
  ·rw [hx];exact ⟨_,rfl⟩
  ·exact ⟨_,rfl⟩
 ·have e1 := he x (by simp [Op.operands])
  have e2 := he (.const .nilIface) (by simp [Op.operands])
  rw [hx] at e1
  have e1 : ev x = .iface t u := (Option.some.inj e1).symm
  have e2 : ev (.const .nilIface) = .nilIface := (Option.some.inj e2).symm
  simp only [execOp,e1,e2]
  refine wrapW ?_
  have hg : eqGuard .eql T x (.const .nilIface) (.iface t u) .nilIface = pure () := rfl
  rw [hg]
  have h : ∀ d : Nat,(Op.equalIn (d + 1) T (.iface t u) .nilIface).run P w = .ok false w := fun d => by simp [Op.equalIn,run_underlying hu]
  simp only [Sem.run_bind,Sem.run_pure,Result.andThen_ok,binOp]
  simp [Op.equal,Op.maxDepth,h 9999]
end
theorem inl_two {L : Lay} {fn : Func} {K : St → PV → Prop} {s : St} {t1 t2 : Nat} {v1 v2 : PV} (h : fn.results.toList = [.tmp t1,.tmp t2]) (h1 : s.reg t1 = v1) (h2 : s.reg t2 = v2) (hk : K s (.tup [v1,v2])) : InlPost L fn K .ret s := by
 unfold InlPost
 refine ⟨[s.reg t1,s.reg t2],True ∧ True ∧ True,by rw [h];rfl,⟨trivial,trivial,trivial⟩,?_⟩
 rw [h1,h2];exact hk
def numT (s : Str) : Option Int := match Lib.atoiAll s with
 |.ok n => if (0 ≤ n ∧ n ≤ 1000000) ∧ Lib.itoa n = s then some n else none
 |_ => none
set_option maxRecDepth 20000 in
theorem number_inl {K : St → Prop} {s : St} {d : Nat} {x : Operand} {tys : Array TypeId} {ty : TypeId} {pos : String} {af : Array Edge} (r : Str) (hr : r.length ≤ 1000000) (hx : s.ev x = .str r)
  (hK : ∀ (n : Int) (b : Bool),(b = true → numT r = some n) → (b = false → numT r = none) → K (s.putR d (.tup [I n,.bool b]))) :
  Sm Tryz.prog lay.get s ⟨some d,.call ⟨.value (.func 90),#[x],tys⟩,ty,pos,af,none⟩ K := by
 have hcal : callable Tryz.prog 62 := ⟨_,Go.Proofs.Tryz.func62,by decide,rfl⟩
 refine sm_inline layOk rfl rfl Tryz.func90 rfl (by decide) rfl rfl ?_
 show PWP _ _ _ _ (callSt s (([x] : List Operand).map s.ev ++ []))
 rw [show (([x] : List Operand).map s.ev ++ ([] : List PV)) = [.str r] by simp [hx]]
 rw [numT] at hK
 ((repeat ((fail_if_success (with_reducible refine pw_at 1 ?_));refine stx rfl ?_));refine pw_regionS 1 ?_)
 refine stq rfl ?_
 refine ps_nil ?_
 refine psem_sm rfl (sm_calls (vals := [.string ⟨r.toArray⟩]) (Φ := AtoiP r) rfl hcal rfl (atoi_calls r hr) (fun pv hφ => ?_))
 refine psem_ops ?_
 rcases hφ with ⟨n,hn,rfl⟩ | ⟨hn,n,t,u,rfl⟩
 ·have hbt := between_ret n 0 1000000
  rw [hn] at hK
  dsimp only at hK
  repeat refine stq rfl ?_
  refine qst rfl rfl (q_ieN0 Tryz.underlying115 rfl) ?_
  repeat refine stq rfl ?_
  refine qst rfl rfl (q_cp rfl hbt rfl rfl rfl) ?_
  by_cases hi : 0 ≤ n ∧ n ≤ 1000000
  ·have hin : inside n 0 1000000 = true := by simpa [inside] using hi
   have hit := itoa_ret n (by omega) (by omega)
   rw [hin]
   repeat refine stq rfl ?_
   refine qst rfl rfl (q_cp rfl hit rfl rfl rfl) ?_
   repeat refine stq rfl ?_
   refine inl_two rfl rfl rfl ?_
   refine hK n _ (fun h => ?_) (fun h => ?_)
   ·rw [if_pos ⟨hi,of_decide_eq_true h⟩]
   ·rw [if_neg (fun e => absurd e.2 (of_decide_eq_false h))]
  ·have hin : inside n 0 1000000 = false := by
    cases hb : inside n 0 1000000 with
    |false => rfl
    |true => exact absurd (by simpa [inside] using hb) hi
   rw [hin]
   repeat refine stq rfl ?_
   refine inl_two rfl rfl rfl ?_
   exact hK n _ (fun h => by cases h) (fun _ => if_neg fun e => hi e.1)
 ·repeat refine stq rfl ?_
  refine qst rfl rfl (q_ieN1 Tryz.underlying115 rfl) ?_
  repeat refine stq rfl ?_
  refine inl_two rfl rfl rfl ?_
  refine hK n _ (fun h => by cases h) (fun _ => ?_)
  rcases numEnd3 (Lib.atoiAll r) with ⟨m,ha⟩ | ha | ha
  ·exact absurd ha (hn m)
  ·rw [ha] <;> rfl
  ·rw [ha] <;> rfl
set_option maxRecDepth 20000 in
theorem row_inl0 {K : St → Prop} {s : St} {d : Nat} {x y : Operand} {tys : Array TypeId} {ty : TypeId} {pos : String} {af : Array Edge} (ns : List Int) (hm : ∀ n,n ∈ ns → Mid n) (hn : ns.length ≤ 1000)
  (hx : s.ev x = .nil) (hy : s.ev y = .fsl (ns.map eI)) (hk : ∀ s1 : St,K (({ reg := s.reg,own := s1.own } : St).putR d (.str (numsT ns [32])))) :
  Sm Tryz.prog lay.get s ⟨some d,.call ⟨.value (.func 137),#[x,y],tys⟩,ty,pos,af,none⟩ K := by
 have hll : ((ns.map eI).length : Int) = ns.length := by simp
 have hjl := join_all_len (xs := ns.map Lib.itoa) (B := 17) [32] (strs_len hm)
 rw [List.length_map] at hjl
 have hj := join_ret (ns.map Lib.itoa) [32] (by rw [List.length_map];omega) (by simp only [List.length_cons,List.length_nil] at hjl;omega)
 rw [numsT] at hk
 refine sm_inline layOk rfl rfl Tryz.func137 rfl (by decide) rfl rfl ?_
 show PWP _ _ _ _ (callSt s (([x,y] : List Operand).map s.ev ++ []))
 rw [show (([x,y] : List Operand).map s.ev ++ ([] : List PV)) = [.nil,.fsl (ns.map eI)] by simp [hx,hy]]
 have fin : ∀ (st : St) (e : Exit),(e = .ret ∨ e = .normal) → st.reg 4 = .str (Lib.join (ns.map Lib.itoa) [32]) → InlPost lay.get Tryz.f137 (fun s' r => K (({ reg := s.reg,own := s'.own } : St).putR d r)) e st := fun st e he h1 =>
  inl_end1O (K := fun o r => K (({ reg := s.reg,own := o } : St).putR d r)) [] he rfl h1 trivial fun s1 => hk s1
 clear hx hy
 refine pw_ghost (Ghost.nilreg (k := 35) (t := 0) 9 1 0 rfl rfl) ?_
 repeat refine stq rfl ?_
 rw [hll]
 refine pw_loop (fun (j : Nat × Nat) => j.1 ≤ ns.length) (fun j => [(0,.als 35 j.2 0 (((ns.take j.1).map Lib.itoa).map eS).length),(7,.fsl (ns.map eI)),(8,I ns.length),(9,I j.1)]) (fun j => [(35,j.2,⟨9,1,((ns.take j.1).map Lib.itoa).map eS,0⟩)]) (fun j => ns.length - j.1) (0,(s.own 35).1 + 1) (Nat.zero_le _) ⟨rfl,rfl,rfl,rfl,rfl,trivial⟩ ?_
 rintro ⟨j,gg⟩ st hjn
 have hjn : j ≤ ns.length := hjn
 repeat refine stq rfl ?_
 refine pw_cond rfl (fun h => ?_) (fun h => ?_)
 ·have hlt : j < ns.length := by have := of_decide_eq_true h;omega
  clear h
  obtain ⟨n,hx⟩ := get_lt hlt
  have hmn := hm n (List.mem_of_getElem? hx)
  have hi := itoa_ret n (by have := hmn.1;omega) (by have := hmn.2;omega)
  have htk : (ns.take (j + 1)).map Lib.itoa = (ns.take j).map Lib.itoa ++ [Lib.itoa n] := by rw [take_snoc hx,List.map_append];rfl
  have hlen : ((ns.take j).map Lib.itoa).length = j := by rw [List.length_map,List.length_take];omega
  generalize (ns.take j).map Lib.itoa = S at *
  repeat refine stq rfl ?_
  refine qst rfl rfl (q_idxmF rfl rfl rfl rfl rfl (by omega) hx rfl) ?_
  repeat refine stq rfl ?_
  refine qst rfl rfl (q_cp rfl hi rfl rfl rfl) ?_
  repeat refine stq rfl ?_
  refine qst rfl rfl (q_slit rfl rfl rfl rfl rfl rfl rfl rfl rfl rfl (by repeat' constructor) rfl) ?_
  repeat refine stq rfl ?_
  refine ps_run (o_app 0 rfl rfl rfl rfl rfl rfl rfl rfl rfl rfl rfl (by repeat' constructor) (by intro row hr;first | (simp at hr;subst hr;rfl) | simp at hr) rfl rfl (by simp;omega) (by simp;omega) ?_)
  repeat refine stq rfl ?_
  refine ⟨(j + 1,gg + 1),hlt,by show ns.length - (j + 1) < ns.length - j;omega,?_,rfl,rfl,i64_next (by omega) (by omega),?_,trivial⟩
  ·show _ = PV.als 35 (gg + 1) 0 (((ns.take (j + 1)).map Lib.itoa).map eS).length
   rw [htk,List.map_append];rfl
  ·show _ = (gg + 1,some (Cont.mk 9 1 (((ns.take (j + 1)).map Lib.itoa).map eS) 0))
   rw [htk,List.map_append];rfl
 ·have hz : j = ns.length := by have := of_decide_eq_false h;omega
  subst hz
  rw [List.take_length] at *
  repeat refine stq rfl ?_
  refine qst rfl rfl (q_cp rfl hj rfl rfl rfl) ?_
  repeat refine stq rfl ?_
  exact fin _ _ (.inl rfl) rfl
def balN (l : List SPost) (o : Str) : List Int :=
 [sumI (accP l o) (·.est) (accP l o).length,sumI (accP l o) (·.gro) (accP l o).length,sumI (accP l o) (·.chg) (accP l o).length,sumI (accP l o) (·.bil) (accP l o).length,payK l o l.length,sumI (accP l o) (·.bil) (accP l o).length - payK l o l.length]
theorem balN_mid {l : List SPost} (h : Acc l) (o : Str) : ∀ n,n ∈ balN l o → Mid n := by
 obtain ⟨hAn,hlim⟩ := accP_lim h o
 have hl := h.ok.wf.len
 have hp := payK_lim h o l.length (Nat.le_refl _)
 have b1 := sumI_lim (A := accP l o) (f := (·.est)) (B := 400000000000) (fun a ha => (hlim a ha).1) _ (Nat.le_refl _)
 have b2 := sumI_lim (A := accP l o) (f := (·.gro)) (B := 400000000000) (fun a ha => (hlim a ha).2.1) _ (Nat.le_refl _)
 have b3 := sumI_lim (A := accP l o) (f := (·.chg)) (B := 400000000000) (fun a ha => (hlim a ha).2.2.1) _ (Nat.le_refl _)
 have b4 := sumI_lim (A := accP l o) (f := (·.bil)) (B := 400000000000) (fun a ha => (hlim a ha).2.2.2) _ (Nat.le_refl _)
 intro n hn
 simp only [balN,List.mem_cons,List.not_mem_nil,or_false] at hn
 rcases hn with rfl | rfl | rfl | rfl | rfl | rfl <;> exact ⟨by omega,by omega⟩
def balX (l : List SPost) (o : Str) : Str := if standE l (ordNo l o) = 0 then numsT (balN l o) [32] else answT [] (standE l (ordNo l o))
set_option maxRecDepth 20000 in
theorem balance_txt (l : List SPost) (hA : Acc l) (o : Str) : Ret Tryz.prog .shared 92 [.dref [.dref (eBook l) 0] 0,.str o] (.str (balX l o)) := by
 have h1 := balance_ret l hA o
 have he := standE_mid l (ordNo l o)
 have hm := balN_mid hA o
 rw [balX]
 by_cases hz : standE l (ordNo l o) = 0
 ·rw [if_pos hz] at h1 ⊢
  have h2 := answered_ret (numsT (balN l o) [32]) 0 ⟨by decide,by decide⟩
  rw [answT,if_pos rfl] at h2
  rw [show balV l o = (balN l o).map I from rfl] at h1
  rw [balN] at *
  generalize sumI (accP l o) (·.est) (accP l o).length = s1 at *
  generalize sumI (accP l o) (·.gro) (accP l o).length = s2 at *
  generalize sumI (accP l o) (·.chg) (accP l o).length = s3 at *
  generalize sumI (accP l o) (·.bil) (accP l o).length = s4 at *
  generalize payK l o l.length = s5 at *
  generalize s4 - s5 = s6 at *
  have h1 : Ret Tryz.prog .fresh 55 [.dref (eBook l) 0,.str o] (.tup [.agg [I s1,I s2,I s3,I s4,I s5,I s6],I 0]) := h1
  refine Ret.of_pwp layOk mixed Go.Proofs.Tryz.func92 rfl (by decide) rfl rfl ?_
  repeat refine stq rfl ?_
  refine qst rfl rfl (q_cf rfl h1 rfl rfl) ?_
  ((repeat ((fail_if_success (with_reducible refine pw_at 2 ?_));refine stx rfl ?_));refine pw_regionS 13 ?_)
  iterate 12 refine stq rfl ?_
  refine qst rfl rfl (q_slit rfl rfl rfl rfl rfl rfl rfl rfl rfl rfl (by repeat' constructor) rfl) ?_
  refine ps_nil ?_
  refine psem_sm rfl (row_inl0 [s1,s2,s3,s4,s5,s6] hm (by simp) rfl rfl fun s1 => ?_)
  refine psem_ops ?_
  repeat refine stq rfl ?_
  refine qst rfl rfl (q_cp rfl h2 rfl rfl rfl) ?_
  repeat refine stq rfl ?_
  exact end1 rfl rfl rfl trivial rfl
 ·rw [if_neg hz] at h1 ⊢
  have h2 := answered_ret (numsT [0,0,0,0,0,0] [32]) _ he
  rw [answT,if_neg hz] at h2
  rw [answT,if_neg hz]
  generalize standE l (ordNo l o) = e at *
  refine Ret.of_pwp layOk mixed Go.Proofs.Tryz.func92 rfl (by decide) rfl rfl ?_
  repeat refine stq rfl ?_
  refine qst rfl rfl (q_cf rfl h1 rfl rfl) ?_
  ((repeat ((fail_if_success (with_reducible refine pw_at 2 ?_));refine stx rfl ?_));refine pw_regionS 13 ?_)
  iterate 12 refine stq rfl ?_
  refine qst rfl rfl (q_slit rfl rfl rfl rfl rfl rfl rfl rfl rfl rfl (by repeat' constructor) rfl) ?_
  refine ps_nil ?_
  refine psem_sm rfl (row_inl0 [0,0,0,0,0,0] (fun n hn => by simp at hn;subst hn;exact ⟨by decide,by decide⟩) (by simp) rfl rfl fun s1 => ?_)
  refine psem_ops ?_
  repeat refine stq rfl ?_
  refine qst rfl rfl (q_cp rfl h2 rfl rfl rfl) ?_
  repeat refine stq rfl ?_
  exact end1 rfl rfl rfl trivial rfl
end Go.Pv


set_option maxHeartbeats 2000000
namespace Go.Pv
attribute [local irreducible] PWP POps PQuiet PSem XThen XBlock RetPost InlPost
open Go.Proofs Go.RowKit
theorem amF_mem {l : List SPost} {n : Int} : ∀ {k : Nat} {x : Int},x ∈ amF l n k → 1 ≤ x ∧ x ≤ k
 |0,x,h => by simp [amF] at h
 |k + 1,x,h => by
  rw [amF] at h
  split at h
  ·rcases List.mem_append.1 h with h | h
   ·have := amF_mem h;omega
   ·simp only [List.mem_cons,List.not_mem_nil,or_false] at h;omega
  ·have := amF_mem h;omega
theorem invF_b (l : List SPost) (n : Int) : ∀ k : Nat,0 ≤ invF l n k ∧ invF l n k ≤ k
 |0 => ⟨Int.le_refl _,Int.le_refl _⟩
 |k + 1 => by
  have := invF_b l n k
  rw [invF]
  split
  ·split <;> omega
  ·omega
def traceT (l : List SPost) (n : Int) : Str := if aimE l n [3] = 0 then Lib.join [Lib.itoa (ordNo l (entL l n).order),Lib.itoa (itmNo l (entL l n).order (entL l n).item),listT (amF l n l.length),listT (sigF l n l.length),Lib.itoa (invF l n l.length)] [32] else answT [] (aimE l n [3])
set_option maxRecDepth 20000 in
theorem trace_txt (l : List SPost) (hO : Ok l) (n : Int) : Ret Tryz.prog .shared 93 [.dref [.dref (eBook l) 0] 0,I n] (.str (traceT l n)) := by
 have h1 := trace_ret l hO n
 have he := aimE_mid l n [3]
 have hl := hO.wf.len
 rw [trailR] at h1
 rw [traceT]
 by_cases hz : aimE l n [3] = 0
 ·rw [if_pos hz,trailV] at h1
  rw [if_pos hz]
  have hob := ordNo_le l (entL l n).order
  have hib := itmNo_le l (entL l n).order (entL l n).item
  have hvb := invF_b l n l.length
  have ham : ∀ x,x ∈ amF l n l.length → Mid x := fun x hx => by have := amF_mem hx;exact ⟨by omega,by omega⟩
  have hsg : ∀ x,x ∈ sigF l n l.length → Mid x := fun x hx => by have := sigF_mem hx;exact ⟨by omega,by omega⟩
  have hal := amF_len l n l.length
  have hsl := sigF_len l n l.length
  have j1 := itoa_ret (ordNo l (entL l n).order) (by omega) (by omega)
  have j2 := itoa_ret (itmNo l (entL l n).order (entL l n).item) (by omega) (by omega)
  have j3 := list_ret (amF l n l.length) ham (by omega)
  have j4 := list_ret (sigF l n l.length) hsg (by omega)
  have j5 := itoa_ret (invF l n l.length) (by omega) (by omega)
  have l1 := itoa_mid (v := ordNo l (entL l n).order) ⟨by omega,by omega⟩
  have l2 := itoa_mid (v := itmNo l (entL l n).order (entL l n).item) ⟨by omega,by omega⟩
  have l3 := listT_len ham
  have l4 := listT_len hsg
  have l5 := itoa_mid (v := invF l n l.length) ⟨by omega,by omega⟩
  generalize Lib.itoa (ordNo l (entL l n).order) = w1 at *
  generalize Lib.itoa (itmNo l (entL l n).order (entL l n).item) = w2 at *
  generalize listT (amF l n l.length) = w3 at *
  generalize listT (sigF l n l.length) = w4 at *
  generalize Lib.itoa (invF l n l.length) = w5 at *
  have hjl := join_all_len (xs := [w1,w2,w3,w4,w5]) (B := 10000) [32] (fun x hx => by simp only [List.mem_cons,List.not_mem_nil,or_false] at hx;rcases hx with rfl | rfl | rfl | rfl | rfl <;> omega)
  simp only [List.length_cons,List.length_nil] at hjl
  have hj := join_ret [w1,w2,w3,w4,w5] [32] (by simp) (by omega)
  have h2 := answered_ret (Lib.join [w1,w2,w3,w4,w5] [32]) 0 ⟨by decide,by decide⟩
  rw [answT,if_pos rfl] at h2
  generalize ordNo l (entL l n).order = n1 at *
  generalize itmNo l (entL l n).order (entL l n).item = n2 at *
  generalize amF l n l.length = L3 at *
  generalize sigF l n l.length = L4 at *
  generalize invF l n l.length = n5 at *
  generalize Lib.join [w1,w2,w3,w4,w5] [32] = T at *
  refine Ret.of_pwp layOk mixed Go.Proofs.Tryz.func93 rfl (by decide) rfl rfl ?_
  repeat refine stq rfl ?_
  refine qst rfl rfl (q_cf rfl h1 rfl rfl) ?_
  repeat refine stq rfl ?_
  refine pw_draw 19 [16,17,18,19,20,21,22,23,24,25,26,27,28,29,30,31,32,33,34] (by decide +kernel) ?_
  repeat refine stq rfl ?_
  refine qst rfl rfl (q_cp rfl j1 rfl rfl rfl) ?_
  repeat refine stq rfl ?_
  refine qst rfl rfl (q_cp rfl j2 rfl rfl rfl) ?_
  repeat refine stq rfl ?_
  refine qst rfl rfl (q_cp rfl j3 rfl rfl rfl) ?_
  repeat refine stq rfl ?_
  refine qst rfl rfl (q_cp rfl j4 rfl rfl rfl) ?_
  repeat refine stq rfl ?_
  refine qst rfl rfl (q_cp rfl j5 rfl rfl rfl) ?_
  repeat refine stq rfl ?_
  refine qst rfl rfl (q_slit rfl rfl rfl rfl rfl rfl rfl rfl rfl rfl (by repeat' constructor) rfl) ?_
  repeat refine stq rfl ?_
  refine qst rfl rfl (q_cp rfl hj rfl rfl rfl) ?_
  repeat refine stq rfl ?_
  refine qst rfl rfl (q_cp rfl h2 rfl rfl rfl) ?_
  repeat refine stq rfl ?_
  exact end1 rfl rfl rfl trivial rfl
 ·rw [if_neg hz] at h1
  rw [if_neg hz]
  have z0 := itoa_ret 0 (by decide) (by decide)
  have zl := list_nil_ret
  have hj := join_ret [Lib.itoa 0,Lib.itoa 0,listT [],listT [],Lib.itoa 0] [32] (by simp) (by decide +kernel)
  have h2 := answered_ret (Lib.join [Lib.itoa 0,Lib.itoa 0,listT [],listT [],Lib.itoa 0] [32]) _ he
  rw [answT,if_neg hz] at h2
  rw [answT,if_neg hz]
  generalize Lib.join [Lib.itoa 0,Lib.itoa 0,listT [],listT [],Lib.itoa 0] [32] = T at *
  generalize Lib.itoa 0 = w0 at *
  generalize listT [] = wl at *
  generalize aimE l n [3] = e at *
  refine Ret.of_pwp layOk mixed Go.Proofs.Tryz.func93 rfl (by decide) rfl rfl ?_
  repeat refine stq rfl ?_
  refine qst rfl rfl (q_cf rfl h1 rfl rfl) ?_
  repeat refine stq rfl ?_
  refine pw_draw 19 [16,17,18,19,20,21,22,23,24,25,26,27,28,29,30,31,32,33,34] (by decide +kernel) ?_
  repeat refine stq rfl ?_
  refine qst rfl rfl (q_cp rfl z0 rfl rfl rfl) ?_
  repeat refine stq rfl ?_
  refine qst rfl rfl (q_cp rfl z0 rfl rfl rfl) ?_
  repeat refine stq rfl ?_
  refine qst rfl rfl (q_cp rfl zl rfl rfl rfl) ?_
  repeat refine stq rfl ?_
  refine qst rfl rfl (q_cp rfl zl rfl rfl rfl) ?_
  repeat refine stq rfl ?_
  refine qst rfl rfl (q_cp rfl z0 rfl rfl rfl) ?_
  repeat refine stq rfl ?_
  refine qst rfl rfl (q_slit rfl rfl rfl rfl rfl rfl rfl rfl rfl rfl (by repeat' constructor) rfl) ?_
  repeat refine stq rfl ?_
  refine qst rfl rfl (q_cp rfl hj rfl rfl rfl) ?_
  repeat refine stq rfl ?_
  refine qst rfl rfl (q_cp rfl h2 rfl rfl rfl) ?_
  repeat refine stq rfl ?_
  exact end1 rfl rfl rfl trivial rfl
def yesT : Str := [121,101,115]
def noT : Str := [110,111]
def aliveT (l : List SPost) (n : Int) : Str := if inside n 1 l.length = true then (if liveB l n = true then yesT else noT) else answT [] 6
theorem alive_txt (l : List SPost) (hO : Ok l) (n : Int) : Ret Tryz.prog .shared 94 [.dref [.dref (eBook l) 0] 0,I n] (.str (aliveT l n)) := by
 have h1 := bookLive_ret l hO n
 rw [aliveT]
 by_cases hi : inside n 1 l.length = true
 ·rw [if_pos hi] at h1 ⊢
  have h2 := answered_ret [110,111] 0 ⟨by decide,by decide⟩
  rw [answT,if_pos rfl] at h2
  generalize liveB l n = lv at *
  refine Ret.of_pwp layOk mixed Go.Proofs.Tryz.func94 rfl (by decide) rfl rfl ?_
  repeat refine stq rfl ?_
  refine qst rfl rfl (q_cs rfl h1 rfl rfl) ?_
  cases lv with
  |true =>
   repeat refine stq rfl ?_
   exact end1 rfl rfl rfl trivial rfl
  |false =>
   repeat refine stq rfl ?_
   refine qst rfl rfl (q_cp rfl h2 rfl rfl rfl) ?_
   repeat refine stq rfl ?_
   exact end1 rfl rfl rfl trivial rfl
 ·rw [if_neg hi] at h1 ⊢
  have h2 := answered_ret [110,111] 6 ⟨by decide,by decide⟩
  rw [answT,if_neg (by decide)] at h2
  rw [answT,if_neg (by decide)]
  refine Ret.of_pwp layOk mixed Go.Proofs.Tryz.func94 rfl (by decide) rfl rfl ?_
  repeat refine stq rfl ?_
  refine qst rfl rfl (q_cs rfl h1 rfl rfl) ?_
  repeat refine stq rfl ?_
  refine qst rfl rfl (q_cp rfl h2 rfl rfl rfl) ?_
  repeat refine stq rfl ?_
  exact end1 rfl rfl rfl trivial rfl
theorem accX_eq (a : SAcct) : accX a = a.item ++ [32] ++ numsT (accN a) [32] := by
 have e : Lib.joinTail [32] ((accN a).map Lib.itoa) = [32] ++ numsT (accN a) [32] := by
  rw [numsT,accN,List.map_cons,Lib.join_cons]
  simp [Lib.joinTail]
 rw [accX,rowT,List.singleton_append,Lib.join_cons,e,List.append_assoc]
theorem accs_take {A : List SAcct} {k : Nat} {a : SAcct} (h : A[k]? = some a) : accsT (A.take (k + 1)) = if k = 0 then accX a else accsT (A.take k) ++ [59,32] ++ accX a := by
 rw [accsT,accsT,List.map_take,List.map_take]
 exact join_take (by rw [List.getElem?_map,h];rfl)
set_option maxRecDepth 20000 in
theorem accounts_txt (l : List SPost) (hA : Acc l) (o : Str) : Ret Tryz.prog .shared 96 [.sl (l.map ePost),.str o] (.str (acctT l o)) := by
 have h1 := accounts_ref l hA o
 have he := standE_mid l (ordNo l o)
 obtain ⟨hAl,hfine⟩ := accP_fine hA o
 rw [acctT]
 by_cases hz : standE l (ordNo l o) = 0
 case neg =>
  rw [if_neg hz] at h1 ⊢
  have hd := decimal_ret _ he.1 he.2
  have hdl := itoa_mid he
  rw [answT,if_neg hz]
  generalize Lib.itoa (standE l (ordNo l o)) = D at *
  generalize standE l (ordNo l o) = e at *
  refine Ret.of_pwp layOk mixed Go.Proofs.Tryz.func96 rfl (by decide) rfl rfl ?_
  repeat refine stq rfl ?_
  refine qst rfl rfl (q_cs rfl h1 rfl rfl) ?_
  repeat refine stq rfl ?_
  refine pw_cond rfl (fun h => ?_) (fun h => ?_)
  ·repeat refine stx rfl ?_
   refine qst rfl rfl (q_cp rfl hd rfl rfl rfl) ?_
   refine ps_v rfl (show ((([101,114,114,111,114,32] : Str).length : Nat) : Int) + ((D.length : Nat) : Int) ≤ 9223372036854775807 by simp;omega) ?_
   repeat refine stx rfl ?_
   exact end1 rfl rfl rfl trivial rfl
  ·exact absurd (by simpa using h) hz
 rw [if_pos hz] at h1 ⊢
 generalize accP l o = A at *
 have hAc : ((A.map eAcct).length : Int) = A.length := by simp
 have hbl : ∀ k,k ≤ A.length → (accsT (A.take k)).length ≤ k * 128 := fun k hk => by
  have := join_len' (xs := A.map accX) (B := 126) [59,32] (fun x hx => by obtain ⟨a,ha,rfl⟩ := List.mem_map.1 hx;exact accX_len (hfine a ha)) k (by simpa using hk)
  rw [← List.map_take] at this
  exact this
 refine Ret.of_pwp layOk mixed Go.Proofs.Tryz.func96 rfl (by decide) rfl rfl ?_
 repeat refine stq rfl ?_
 refine qst rfl rfl (q_cs rfl h1 rfl rfl) ?_
 repeat refine stq rfl ?_
 refine pw_loop (fun k => k ≤ A.length) (fun k => [(5,.sl (A.map eAcct)),(7,.str (accsT (A.take k))),(8,I k)]) (fun _ => []) (fun k => A.length - k) 0 (Nat.zero_le _) ⟨rfl,rfl,rfl,trivial⟩ ?_
 intro k s hk
 have hk : k ≤ A.length := hk
 have hbk := hbl k hk
 repeat refine stq rfl ?_
 rw [hAc]
 refine pw_cond rfl (fun h => ?_) (fun h => ?_)
 ·have hlt : k < A.length := by have := of_decide_eq_true h;omega
  clear h
  obtain ⟨a,ha⟩ := get_lt hlt
  have hf := hfine a (List.mem_of_getElem? ha)
  have hr := row_ref (accN a) hf.2 (by simp [accN])
  have hrl := nums_len hf.2 (sep := [32]) rfl _ (Nat.le_refl _)
  rw [List.take_length,show (accN a).length = 6 from rfl] at hrl
  have hs := accs_take ha
  rw [accX_eq] at hs
  have hil := hf.1
  generalize accsT (A.take k) = S at *
  generalize hR : numsT (accN a) [32] = R at *
  repeat refine stq rfl ?_
  refine pw_cond rfl (fun h => ?_) (fun h => ?_)
  ·have hk0 : ¬ k = 0 := by have := of_decide_eq_true h;omega
   rw [if_neg hk0] at hs
   clear h
   repeat refine stx rfl ?_
   refine ps_v rfl (show ((S.length : Nat) : Int) + ((([59,32] : Str).length : Nat) : Int) ≤ 9223372036854775807 by simp;omega) ?_
   repeat refine stx rfl ?_
   refine pw_draw 41 [30,31,32,33,34,35,36,37,38,39,40,41,42,43,44,45,46,47,48,49,50,51,52,53,54,55,56,57,58,59,60,61,62,63,64,65,66,67,68,69,70] (by decide +kernel) ?_
   repeat refine stx rfl ?_
   refine qst rfl rfl (q_idxm rfl rfl rfl rfl rfl (by omega) ha rfl) ?_
   repeat refine stx rfl ?_
   refine pq_v rfl ?_ ?_
   ·first | omega | (simp only [List.length_append,List.length_cons,List.length_nil];omega)
   refine pq_v rfl ?_ ?_
   ·first | omega | (simp only [List.length_append,List.length_cons,List.length_nil];omega)
   repeat refine stx rfl ?_
   refine qst rfl rfl (q_idxm rfl rfl rfl rfl rfl (by omega) ha rfl) ?_
   repeat refine stx rfl ?_
   refine qst rfl rfl (q_idxm rfl rfl rfl rfl rfl (by omega) ha rfl) ?_
   repeat refine stx rfl ?_
   refine qst rfl rfl (q_idxm rfl rfl rfl rfl rfl (by omega) ha rfl) ?_
   repeat refine stx rfl ?_
   refine qst rfl rfl (q_idxm rfl rfl rfl rfl rfl (by omega) ha rfl) ?_
   repeat refine stx rfl ?_
   refine qst rfl rfl (q_idxm rfl rfl rfl rfl rfl (by omega) ha rfl) ?_
   repeat refine stx rfl ?_
   refine qst rfl rfl (q_idxm rfl rfl rfl rfl rfl (by omega) ha rfl) ?_
   repeat refine stx rfl ?_
   refine qst rfl rfl (q_slit rfl rfl rfl rfl rfl rfl rfl rfl rfl rfl (by repeat' constructor) rfl) ?_
   repeat refine stx rfl ?_
   refine qst rfl rfl (q_cp rfl hr rfl rfl rfl) ?_
   refine pq_v rfl ?_ ?_
   ·first | omega | (simp only [List.length_append,List.length_cons,List.length_nil];omega)
   repeat refine stx rfl ?_
   refine ⟨k + 1,hlt,by omega,rfl,?_,i64_next (by omega) (by omega),trivial⟩
   rw [hs]
   show PV.str _ = PV.str _
   simp only [List.append_assoc]
  ·have hk0 : k = 0 := by have := of_decide_eq_false h;omega
   clear h
   subst hk0
   rw [if_pos rfl] at hs
   have hS : S = [] := List.eq_nil_of_length_eq_zero (by omega)
   repeat refine stx rfl ?_
   refine pw_draw 41 [30,31,32,33,34,35,36,37,38,39,40,41,42,43,44,45,46,47,48,49,50,51,52,53,54,55,56,57,58,59,60,61,62,63,64,65,66,67,68,69,70] (by decide +kernel) ?_
   repeat refine stx rfl ?_
   refine qst rfl rfl (q_idxm rfl rfl rfl rfl rfl (by omega) ha rfl) ?_
   repeat refine stx rfl ?_
   refine pq_v rfl ?_ ?_
   ·first | omega | (simp only [List.length_append,List.length_cons,List.length_nil];omega)
   refine pq_v rfl ?_ ?_
   ·first | omega | (simp only [List.length_append,List.length_cons,List.length_nil];omega)
   repeat refine stx rfl ?_
   refine qst rfl rfl (q_idxm rfl rfl rfl rfl rfl (by omega) ha rfl) ?_
   repeat refine stx rfl ?_
   refine qst rfl rfl (q_idxm rfl rfl rfl rfl rfl (by omega) ha rfl) ?_
   repeat refine stx rfl ?_
   refine qst rfl rfl (q_idxm rfl rfl rfl rfl rfl (by omega) ha rfl) ?_
   repeat refine stx rfl ?_
   refine qst rfl rfl (q_idxm rfl rfl rfl rfl rfl (by omega) ha rfl) ?_
   repeat refine stx rfl ?_
   refine qst rfl rfl (q_idxm rfl rfl rfl rfl rfl (by omega) ha rfl) ?_
   repeat refine stx rfl ?_
   refine qst rfl rfl (q_idxm rfl rfl rfl rfl rfl (by omega) ha rfl) ?_
   repeat refine stx rfl ?_
   refine qst rfl rfl (q_slit rfl rfl rfl rfl rfl rfl rfl rfl rfl rfl (by repeat' constructor) rfl) ?_
   repeat refine stx rfl ?_
   refine qst rfl rfl (q_cp rfl hr rfl rfl rfl) ?_
   refine pq_v rfl ?_ ?_
   ·first | omega | (simp only [List.length_append,List.length_cons,List.length_nil];omega)
   repeat refine stx rfl ?_
   refine ⟨0 + 1,hlt,by omega,rfl,?_,i64_next (by omega) (by omega),trivial⟩
   rw [hs]
   show PV.str (S ++ a.item ++ [32] ++ R) = PV.str _
   rw [hS];rfl
 ·have hz : k = A.length := by have := of_decide_eq_false h;omega
  subst hz
  rw [List.take_length] at *
  repeat refine stq rfl ?_
  by_cases h0 : A = []
  ·subst h0
   rw [if_pos rfl]
   refine pw_cond rfl (fun h => ?_) (fun h => ?_)
   ·repeat refine stq rfl ?_
    exact end1 rfl rfl rfl trivial rfl
   ·exact absurd h (by decide)
  ·rw [if_neg h0]
   have hne : ¬ accsT A = [] := by
    cases A with
    |nil => exact absurd rfl h0
    |cons a A =>
     rw [accsT,List.map_cons,Lib.join_cons,accX_eq]
     simp
   refine pw_cond rfl (fun h => ?_) (fun h => ?_)
   ·exact absurd (by simpa using h) hne
   ·repeat refine stq rfl ?_
    exact end1 rfl rfl rfl trivial rfl
end Go.Pv


set_option maxHeartbeats 2000000
namespace Go.Pv
attribute [local irreducible] PWP POps PQuiet PSem XThen XBlock RetPost InlPost
open Go.Proofs Go.RowKit
def accountW : Str := [97,99,99,111,117,110,116]
def balanceW : Str := [98,97,108,97,110,99,101]
def traceW : Str := [116,114,97,99,101]
def liveW : Str := [108,105,118,101]
def restW : Str := [114,101,115,116]
def journalW : Str := [106,111,117,114,110,97,108]
def askW (l : List SPost) (w r : Str) : Str :=
 if w = accountW ∧ isName r = true then acctT l r
 else if w = balanceW ∧ isName r = true then balX l r
 else if w = traceW ∧ (numT r).isSome = true then traceT l ((numT r).getD 0)
 else if w = liveW ∧ (numT r).isSome = true then aliveT l ((numT r).getD 0)
 else [63]
def askT (l : List SPost) (line : Str) : Str :=
 if line = restW then Lib.itoa (restL l).length
 else if line = journalW then Lib.itoa (jrnF l).1.length
 else askW l (Lib.cut line [32]).1 (Lib.cut line [32]).2.1
def ansL (l : List SPost) (line : Str) : List SPost := match progC line with
 |some p => if refusalR l p = 0 then l ++ [p] else l
 |none => l
def ansT (l : List SPost) (line : Str) : Str := match progC line with
 |some p => if refusalR l p = 0 then [101,110,116,114,121,32] ++ Lib.itoa ((l.length : Int) + 1) else answT [] (refusalR l p)
 |none => askT l line
theorem askW_none {l : List SPost} {w r : Str} (h1 : isName r = false) (h2 : numT r = none) : askW l w r = [63] := by
 rw [askW,h1,h2];simp
theorem numT_some {r : Str} {n : Int} (h : numT r = some n) : (0 ≤ n ∧ n ≤ 1000000) ∧ Lib.itoa n = r := by
 rw [numT] at h
 split at h
 ·split at h
  ·rename_i hc;cases h;exact hc
  ·cases h
 ·cases h
theorem num_eq (r : Str) : numT r = if (nmR r).2 = true ∧ inside (nmR r).1 0 1000000 = true then some (nmR r).1 else none := by
 cases h : numT r with
 |some n =>
  obtain ⟨⟨h0,h1⟩,rfl⟩ := numT_some h
  rw [nmR_itoa (by omega) (by omega),if_pos ⟨rfl,by simp [inside];omega⟩]
 |none =>
  split
  ·rename_i hc
   exfalso
   have hin : 0 ≤ (nmR r).1 ∧ (nmR r).1 ≤ 1000000 := by simpa [inside] using hc.2
   have hit : Lib.itoa (nmR r).1 = r := by
    have h2 := hc.1
    rw [nmR] at h2 ⊢
    split at h2
    ·cases h2
    ·exact of_decide_eq_true h2
   rw [numT] at h
   have ha := atoi_itoa (v := (nmR r).1) (by omega) (by omega)
   rw [hit] at ha
   rw [ha] at h
   dsimp only at h
   rw [if_pos ⟨hin,hit⟩] at h
   cases h
  ·rfl
theorem askW_long {l : List SPost} {w r : Str} (h : 200 < w.length + 1 + r.length) : askW l w r = [63] := by
 have hn : isName r = true → r.length ≤ 12 := fun hn => by
  simp only [isName,Bool.and_eq_true,decide_eq_true_eq] at hn;exact hn.1.2
 have hm : (numT r).isSome = true → r.length ≤ 17 := fun hm => by
  obtain ⟨n,hn⟩ := Option.isSome_iff_exists.1 hm
  obtain ⟨⟨h0,h1⟩,rfl⟩ := numT_some hn
  exact itoa_mid ⟨by omega,by omega⟩
 have e1 : ¬ (w = accountW ∧ isName r = true) := fun ⟨a,b⟩ => by subst a;have := hn b;have : accountW.length = 7 := rfl;omega
 have e2 : ¬ (w = balanceW ∧ isName r = true) := fun ⟨a,b⟩ => by subst a;have := hn b;have : balanceW.length = 7 := rfl;omega
 have e3 : ¬ (w = traceW ∧ (numT r).isSome = true) := fun ⟨a,b⟩ => by subst a;have := hm b;have : traceW.length = 5 := rfl;omega
 have e4 : ¬ (w = liveW ∧ (numT r).isSome = true) := fun ⟨a,b⟩ => by subst a;have := hm b;have : liveW.length = 4 := rfl;omega
 rw [askW,if_neg e1,if_neg e2,if_neg e3,if_neg e4]
theorem noB_mem {s : Str} : noB 32 s ↔ (32 : UInt8) ∉ s := by
 constructor
 ·intro h hm;exact h 32 hm rfl
 ·intro h c hc he
  exact h (by rwa [UInt8.toNat_inj.1 he] at hc)
theorem line_cases : ∀ s : Str,noB 32 s ∨ ∃ a r,noB 32 a ∧ s = a ++ 32 :: r
 |[] => .inl fun c h => by simp at h
 |c :: s => by
  by_cases hc : c = 32
  ·subst hc;exact .inr ⟨[],s,fun c h => by simp at h,rfl⟩
  ·rcases line_cases s with h | ⟨a,r,h,rfl⟩
   ·refine .inl (noB_mem.2 fun hm => ?_)
    rcases List.mem_cons.1 hm with e | e
    ·exact hc e.symm
    ·exact noB_mem.1 h e
   ·refine .inr ⟨c :: a,r,noB_mem.2 fun hm => ?_,rfl⟩
    rcases List.mem_cons.1 hm with e | e
    ·exact hc e.symm
    ·exact noB_mem.1 h e
theorem index_blank : ∀ (a r : Str),(32 : UInt8) ∉ a → Lib.index (a ++ 32 :: r) [32] = a.length
 |[],r,_ => by simp [Lib.index,List.isPrefixOf]
 |c :: a,r,h => by
  have ih := index_blank a r (fun hm => h (by simp [hm]))
  have hc : ¬ (32 : UInt8) = c := fun e => h (by simp [e])
  rw [List.cons_append,Lib.index,ih]
  simp [List.isPrefixOf,hc]
theorem index_no : ∀ (a : Str),(32 : UInt8) ∉ a → Lib.index a [32] = -1
 |[],_ => by simp [Lib.index]
 |c :: a,h => by
  have ih := index_no a (fun hm => h (by simp [hm]))
  have hc : ¬ (32 : UInt8) = c := fun e => h (by simp [e])
  rw [Lib.index,ih]
  simp [List.isPrefixOf,hc]
theorem cut_blank {a r : Str} (h : noB 32 a) : Lib.cut (a ++ 32 :: r) [32] = (a,r,true) := by
 rw [Lib.cut,index_blank a r (noB_mem.1 h),if_pos (by omega)]
 simp
theorem cut_no {a : Str} (h : noB 32 a) : Lib.cut a [32] = (a,[],false) := by
 rw [Lib.cut,index_no a (noB_mem.1 h),if_neg (by omega)]
theorem name_blank {r : Str} (h : ¬ noB 32 r) : isName r = false := by
 cases hn : isName r with
 |false => rfl
 |true => exact absurd (name_noB hn) h
theorem num_blank {r : Str} (h : ¬ noB 32 r) : numT r = none := by
 cases hn : numT r with
 |none => rfl
 |some n => obtain ⟨_,rfl⟩ := numT_some hn;exact absurd (itoa_noB n) h
theorem num_nil : numT [] = none := by
 cases hn : numT [] with
 |none => rfl
 |some n => obtain ⟨_,h⟩ := numT_some hn;exact absurd h (itoa_some n)
theorem answT_err {e : Int} (h : e ≠ 0) : answT [] e = [101,114,114,111,114,32] ++ Lib.itoa e := by rw [answT,if_neg h]
theorem fst_mid {α : Type} : ∀ {l : List α} {f : Nat → α → Int},(∀ i a,Mid (f i a)) → Mid (fstE l f)
 |[],_,_ => show Mid 0 from ⟨by decide,by decide⟩
 |a :: l,f,h => by
  rw [fstE]
  split
  ·exact fst_mid fun i b => h (i + 1) b
  ·exact h 0 a
theorem refusal_mid (l : List SPost) (p : SPost) : Mid (refusalR l p) := by
 have m : ∀ n : Int,0 ≤ n → n ≤ 100 → Mid n := fun n a b => ⟨by omega,by omega⟩
 have hs := standE_mid l
 have ha := fun a b => aimE_mid l a b
 have hc : Mid (checkE p) := by
  rw [checkE]
  split
  ·refine fst_mid fun i f => ?_
   cases f <;> (rw [Fd.err];split <;> exact m _ (by decide) (by decide))
  ·exact m _ (by decide) (by decide)
 rw [refusalR]
 split
 ·split
  ·exact m _ (by decide) (by decide)
  ·split
   ·exact m _ (by decide) (by decide)
   ·rw [refE]
    repeat' (first | exact m _ (by decide) (by decide) | exact hs _ | exact ha _ _ | split)
 ·exact hc
set_option maxRecDepth 20000 in
theorem answer_post (l : List SPost) (hA : Acc l) (line : Str) (hl : line.length ≤ 1000) {p : SPost} (hp : progC line = some p) : Ret Tryz.prog .shared 44 [.sl (l.map ePost),.str line] (.tup [.sl ((ansL l line).map ePost),.str (ansT l line)]) := by
 have hW := hA.ok.wf
 have hll := hW.len
 have hpar := parse_ref line (by omega)
 rw [both_read,hp] at hpar
 have hrf := refusal_ref l hW p
 have hc0 := (prog_fine hp).1
 rw [ansL,ansT,hp]
 dsimp only
 by_cases hz : refusalR l p = 0
 ·rw [if_pos hz,if_pos hz]
  have hd := decimal_ret ((l.length : Int) + 1) (by omega) (by omega)
  have hdl := itoa_mid (v := (l.length : Int) + 1) ⟨by omega,by omega⟩
  rw [hz] at hrf
  have hmm : ((l.map ePost).length : Int) = l.length := by simp
  have hwl : IntKind.wrap .i64 ((l.length : Int) + 1) = (l.length : Int) + 1 := wrap_i64 (by omega) (by omega)
  generalize Lib.itoa ((l.length : Int) + 1) = D at *
  refine Ret.of_pwp layOk mixed Go.Proofs.Tryz.func44 rfl (by decide) rfl rfl ?_
  repeat refine stq rfl ?_
  refine qst rfl rfl (q_cf rfl hpar rfl rfl) ?_
  repeat refine stq rfl ?_
  refine qst rfl rfl (q_cp rfl hrf rfl rfl rfl) ?_
  repeat refine stq rfl ?_
  refine pw_draw3 [32] [0,2,5,11,12] (by decide +kernel) ?_
  refine z3e rfl rfl rfl (o_slit 0 rfl rfl rfl rfl rfl rfl rfl rfl rfl rfl rfl (by repeat' constructor) rfl ⟨offz rfl,?_⟩)
  repeat refine stx rfl ?_
  refine z3e rfl rfl rfl (o_app 1 rfl rfl rfl rfl rfl rfl rfl rfl rfl rfl rfl (by repeat' constructor) (by intro row hr;obtain ⟨q,_,rfl⟩ := List.mem_map.1 hr;rfl) rfl rfl (by simp;omega) (by simp;omega) ⟨offz rfl,?_⟩)
  repeat refine stx rfl ?_
  refine qst rfl rfl (q_slit rfl rfl rfl rfl rfl rfl rfl rfl rfl rfl (by repeat' constructor) rfl) ?_
  repeat refine stx rfl ?_
  refine z3e rfl rfl rfl (o_app 1 rfl rfl rfl rfl rfl rfl rfl rfl rfl rfl rfl (by repeat' constructor) (by intro row hr;first | (simp at hr;subst hr;rfl) | (simp at hr;obtain ⟨_,_,rfl⟩ := hr;rfl) | simp at hr) rfl rfl (by simp;omega) (by simp;omega) ⟨offz rfl,?_⟩)
  repeat refine stx rfl ?_
  rw [hmm,hwl]
  refine qst rfl rfl (q_cp rfl hd rfl rfl rfl) ?_
  refine qst rfl rfl (QOp.v rfl (by first | omega | (simp only [List.length_append,List.length_cons,List.length_nil];omega))) ?_
  repeat refine stx rfl ?_
  exact end2 rfl rfl rfl rfl rfl (by repeat' constructor) trivial (by rw [List.map_append];rfl)
 ·rw [if_neg hz,if_neg hz,answT_err hz]
  have hrm := refusal_mid l p
  have hd := decimal_ret _ hrm.1 hrm.2
  have hdl := itoa_mid hrm
  generalize Lib.itoa (refusalR l p) = D at *
  generalize refusalR l p = e at *
  refine Ret.of_pwp layOk mixed Go.Proofs.Tryz.func44 rfl (by decide) rfl rfl ?_
  repeat refine stq rfl ?_
  refine qst rfl rfl (q_cf rfl hpar rfl rfl) ?_
  repeat refine stq rfl ?_
  refine qst rfl rfl (q_cp rfl hrf rfl rfl rfl) ?_
  repeat refine stq rfl ?_
  refine pw_cond rfl (fun h => ?_) (fun h => ?_)
  ·repeat refine stx rfl ?_
   refine qst rfl rfl (q_cp rfl hd rfl rfl rfl) ?_
   refine ps_v rfl ?_ ?_
   ·first | omega | (simp only [List.length_append,List.length_cons,List.length_nil];omega)
   repeat refine stx rfl ?_
   exact end2 rfl rfl rfl rfl rfl trivial trivial rfl
  ·exact absurd (by simpa using h) hz
end Go.Pv


set_option maxHeartbeats 2000000
namespace Go.Pv
attribute [local irreducible] PWP POps PQuiet PSem XThen XBlock RetPost InlPost
open Go.Proofs Go.RowKit
def numB (r : Str) : Bool := (nmR r).2 && inside (nmR r).1 0 1000000
theorem numB_some {r : Str} (h : numB r = true) : numT r = some (nmR r).1 := by
 rw [numB,Bool.and_eq_true] at h
 rw [num_eq,if_pos h]
theorem numB_none {r : Str} (h : numB r = false) : numT r = none := by
 rw [num_eq,if_neg (fun e => by rw [numB,e.1,e.2] at h;cases h)]
theorem askW_off {l : List SPost} {w r : Str} (h1 : ¬ w = accountW) (h2 : ¬ w = balanceW) (h3 : ¬ w = traceW) (h4 : ¬ w = liveW) : askW l w r = [63] := by
 rw [askW,if_neg (fun e => h1 e.1),if_neg (fun e => h2 e.1),if_neg (fun e => h3 e.1),if_neg (fun e => h4 e.1)]
theorem askW_account {l : List SPost} {r : Str} : askW l accountW r = if isName r = true then acctT l r else [63] := by
 rw [askW]
 by_cases h : isName r = true
 ·rw [if_pos ⟨rfl,h⟩,if_pos h]
 ·rw [if_neg (fun e => h e.2),if_neg (fun e => absurd e.1 (by decide)),if_neg (fun e => absurd e.1 (by decide)),if_neg (fun e => absurd e.1 (by decide)),if_neg h]
theorem askW_balance {l : List SPost} {r : Str} : askW l balanceW r = if isName r = true then balX l r else [63] := by
 rw [askW,if_neg (fun e => absurd e.1 (by decide))]
 by_cases h : isName r = true
 ·rw [if_pos ⟨rfl,h⟩,if_pos h]
 ·rw [if_neg (fun e => h e.2),if_neg (fun e => absurd e.1 (by decide)),if_neg (fun e => absurd e.1 (by decide)),if_neg h]
theorem askW_trace {l : List SPost} {r : Str} : askW l traceW r = match numT r with | some n => traceT l n | none => [63] := by
 rw [askW,if_neg (fun e => absurd e.1 (by decide)),if_neg (fun e => absurd e.1 (by decide))]
 cases h : numT r with
 |some n => rw [if_pos ⟨rfl,rfl⟩];rfl
 |none => rw [if_neg (fun e => by cases e.2),if_neg (fun e => by cases e.2)]
theorem askW_live {l : List SPost} {r : Str} : askW l liveW r = match numT r with | some n => aliveT l n | none => [63] := by
 rw [askW,if_neg (fun e => absurd e.1 (by decide)),if_neg (fun e => absurd e.1 (by decide)),if_neg (fun e => absurd e.1 (by decide))]
 cases h : numT r with
 |some n => rw [if_pos ⟨rfl,rfl⟩];rfl
 |none => rw [if_neg (fun e => by cases e.2)]
theorem trace_join (a b : Int) (x y z : Str) : Lib.join [Lib.itoa a,Lib.itoa b,x,y,z] [32] = numsT [a,b] [32] ++ [32] ++ x ++ [32] ++ y ++ [32] ++ z := by
 rw [numsT,List.map_cons,List.map_cons,List.map_nil,Lib.join_cons,Lib.join_cons]
 simp [Lib.joinTail]
theorem cut_le2 (s : Str) : (Lib.cut s [32]).2.1.length ≤ s.length := by
 unfold Lib.cut
 split <;> simp <;> omega
theorem rest_len400 {l : List SPost} (hA : Acc l) : (restL l).length ≤ 400 := (rest_acc hA).ok.wf.len
set_option maxRecDepth 20000 in
theorem answer_ask (l : List SPost) (hA : Acc l) (line : Str) (hl : line.length ≤ 1000) (hp : progC line = none) : Ret Tryz.prog .shared 44 [.sl (l.map ePost),.str line] (.tup [.sl ((ansL l line).map ePost),.str (ansT l line)]) := by
 have hO := hA.ok
 have hW := hO.wf
 have hll := hW.len
 have hmm : ((l.map ePost).length : Int) = l.length := by simp
 have hpar := parse_ref line (by omega)
 rw [both_read,hp] at hpar
 rw [ansL,ansT,hp]
 dsimp only
 by_cases c1 : line = restW
 ·rw [askT,if_pos c1]
  have hr := rest_ref l hA
  have hrl := rest_len400 hA
  have hd := decimal_ret ((restL l).length : Int) (by omega) (by omega)
  have hrm : (((restL l).map ePost).length : Int) = (restL l).length := by simp
  generalize restL l = R at *
  refine Ret.of_pwp layOk mixed Go.Proofs.Tryz.func44 rfl (by decide) rfl rfl ?_
  repeat refine stq rfl ?_
  refine qst rfl rfl (q_cf rfl hpar rfl rfl) ?_
  repeat refine stq rfl ?_
  refine pw_cond rfl (fun h => ?_) (fun h => ?_)
  ·repeat refine stq rfl ?_
   refine qst rfl rfl (q_cs rfl hr rfl rfl) ?_
   repeat refine stq rfl ?_
   rw [hrm]
   refine qst rfl rfl (q_cp rfl hd rfl rfl rfl) ?_
   repeat refine stq rfl ?_
   exact end2 rfl rfl rfl rfl rfl trivial trivial rfl
  ·exact absurd c1 (of_decide_eq_false h)
 by_cases c2 : line = journalW
 ·rw [askT,if_neg c1,if_pos c2]
  have hj := journal_ref l hA.fine (by omega)
  have hjl := (jrn_fine hA.fine l.length (Nat.le_refl _)).2.2
  rw [List.take_length] at hjl
  have hd := decimal_ret ((jrnF l).1.length : Int) (by omega) (by omega)
  generalize (jrnF l).1 = J at *
  refine Ret.of_pwp layOk mixed Go.Proofs.Tryz.func44 rfl (by decide) rfl rfl ?_
  repeat refine stq rfl ?_
  refine qst rfl rfl (q_cf rfl hpar rfl rfl) ?_
  repeat refine stq rfl ?_
  refine pw_cond rfl (fun h => ?_) (fun h => ?_)
  ·exact absurd (of_decide_eq_true h) c1
  clear h
  repeat refine stq rfl ?_
  refine pw_cond rfl (fun h => ?_) (fun h => ?_)
  ·repeat refine stq rfl ?_
   refine qst rfl rfl (q_cp rfl hj rfl rfl rfl) ?_
   repeat refine stq rfl ?_
   refine qst rfl rfl (q_cp rfl hd rfl rfl rfl) ?_
   repeat refine stq rfl ?_
   exact end2 rfl rfl rfl rfl rfl trivial trivial rfl
  ·exact absurd c2 (of_decide_eq_false h)
 rw [askT,if_neg c1,if_neg c2]
 by_cases c3 : 200 < line.length
 ·have ha : askW l (Lib.cut line [32]).1 (Lib.cut line [32]).2.1 = [63] := by
   rcases line_cases line with hn | ⟨a,r,hn,rfl⟩
   ·rw [cut_no hn];exact askW_none (show isName [] = false by decide) num_nil
   ·rw [cut_blank hn]
    refine askW_long (show 200 < a.length + 1 + r.length from ?_)
    simp only [List.length_append,List.length_cons] at c3
    omega
  rw [ha]
  refine Ret.of_pwp layOk mixed Go.Proofs.Tryz.func44 rfl (by decide) rfl rfl ?_
  repeat refine stq rfl ?_
  refine qst rfl rfl (q_cf rfl hpar rfl rfl) ?_
  repeat refine stq rfl ?_
  refine pw_cond rfl (fun h => ?_) (fun h => ?_)
  ·exact absurd (of_decide_eq_true h) c1
  clear h
  repeat refine stq rfl ?_
  refine pw_cond rfl (fun h => ?_) (fun h => ?_)
  ·exact absurd (of_decide_eq_true h) c2
  clear h
  repeat refine stq rfl ?_
  refine pw_cond rfl (fun h => ?_) (fun h => ?_)
  ·repeat refine stq rfl ?_
   exact end2 rfl rfl rfl rfl rfl trivial trivial rfl
  ·exact absurd (of_decide_eq_false h) (by omega)
 have hcut : Ret Tryz.prog .fresh 45 [.str line,.int .u8 32] (.sl ((cutK line 32 line.length).map eS)) := cut_ret line 32 (by omega)
 rw [cut_all] at hcut
 by_cases c4 : (cutL 32 line).length = 2
 rotate_left
 ·have ha : askW l (Lib.cut line [32]).1 (Lib.cut line [32]).2.1 = [63] := by
   rcases line_cases line with hn | ⟨a,r,hn,rfl⟩
   ·rw [cut_no hn];exact askW_none (show isName [] = false by decide) num_nil
   ·rw [cut_blank hn]
    have hr : ¬ noB 32 r := fun hr => by
     rw [cut_sep hn,cut_noB hr] at c4
     exact c4 rfl
    exact askW_none (name_blank hr) (num_blank hr)
  rw [ha]
  generalize cutL 32 line = L at *
  have hLl : ((L.map eS).length : Int) = L.length := by simp
  refine Ret.of_pwp layOk mixed Go.Proofs.Tryz.func44 rfl (by decide) rfl rfl ?_
  repeat refine stq rfl ?_
  refine qst rfl rfl (q_cf rfl hpar rfl rfl) ?_
  repeat refine stq rfl ?_
  refine pw_cond rfl (fun h => ?_) (fun h => ?_)
  ·exact absurd (of_decide_eq_true h) c1
  clear h
  repeat refine stq rfl ?_
  refine pw_cond rfl (fun h => ?_) (fun h => ?_)
  ·exact absurd (of_decide_eq_true h) c2
  clear h
  repeat refine stq rfl ?_
  refine pw_cond rfl (fun h => ?_) (fun h => ?_)
  ·exact absurd (of_decide_eq_true h) (by omega)
  clear h
  repeat refine stq rfl ?_
  refine qst rfl rfl (q_cf rfl hcut rfl rfl) ?_
  repeat refine stq rfl ?_
  rw [hLl]
  refine pw_cond rfl (fun h => ?_) (fun h => ?_)
  ·repeat refine stq rfl ?_
   exact end2 rfl rfl rfl rfl rfl trivial trivial rfl
  ·exact (c4 (by have e2 : (L.length : Int) = 2 := (by simpa using h);omega)).elim
 obtain ⟨w,r,hwr,hcc⟩ : ∃ w r,cutL 32 line = [w,r] ∧ Lib.cut line [32] = (w,r,true) := by
  rcases line_cases line with hn | ⟨a,r,hn,rfl⟩
  ·rw [cut_noB hn] at c4;simp at c4
  ·rw [cut_sep hn] at c4 ⊢
   by_cases hr : noB 32 r
   ·exact ⟨a,r,by rw [cut_noB hr],cut_blank hn⟩
   ·exfalso
    rcases line_cases r with hr' | ⟨a2,r2,h2,rfl⟩
    ·exact hr hr'
    ·rw [cut_sep h2] at c4
     have := cutL_ne 32 r2
     simp only [List.length_cons] at c4
     exact this (List.eq_nil_of_length_eq_zero (by omega))
 have hrl : r.length ≤ 1000 := by
  have := cut_le2 line
  rw [hcc] at this
  exact Nat.le_trans this hl
 rw [hcc]
 dsimp only
 rw [hwr] at hcut
 clear hwr hcc c4
 have hcut : Ret Tryz.prog .fresh 45 [.str line,.int .u8 32] (.sl [[.str w],[.str r]]) := hcut
 have hnum := number_ret r (by omega)
 have hnm := isName_ref r
 have hwi := within_ret (nmR r).1 0 1000000
 have hb1 := numB_some (r := r)
 have hb0 := numB_none (r := r)
 rw [numB] at hb1 hb0
 generalize (nmR r).1 = n at *
 generalize hk : (nmR r).2 = k at *
 generalize hi : inside n 0 1000000 = i at *
 have hat := accounts_txt l hA r
 have hbr := balance_ref l hA r
 have hbm := balN_mid hA r
 have htr := trace_ref l hO n
 have hsm := standE_mid l (ordNo l r)
 have ham := aimE_mid l n [3]
 cases k <;> cases i
 all_goals
  by_cases a1 : w = accountW
  ·subst a1
   rw [askW_account]
   cases hq : isName r
   ·rw [if_neg (by simp)]
    rw [hq] at hnm
    refine Ret.of_pwp layOk mixed Go.Proofs.Tryz.func44 rfl (by decide) rfl rfl ?_
    repeat refine stq rfl ?_
    refine qst rfl rfl (q_cf rfl hpar rfl rfl) ?_
    repeat refine stq rfl ?_
    refine pw_cond rfl (fun h => ?_) (fun h => ?_)
    ·exact absurd (of_decide_eq_true h) c1
    clear h
    repeat refine stq rfl ?_
    refine pw_cond rfl (fun h => ?_) (fun h => ?_)
    ·exact absurd (of_decide_eq_true h) c2
    clear h
    repeat refine stq rfl ?_
    refine pw_cond rfl (fun h => ?_) (fun h => ?_)
    ·exact absurd (of_decide_eq_true h) (by omega)
    clear h
    repeat refine stq rfl ?_
    refine qst rfl rfl (q_cf rfl hcut rfl rfl) ?_
    repeat refine stq rfl ?_
    refine qst rfl rfl (QOp.idx rfl rfl rfl rfl (.inr rfl) rfl (by decide) rfl rfl) ?_
    repeat refine stq rfl ?_
    refine qst rfl rfl (q_cp rfl hnum rfl rfl rfl) ?_
    repeat refine stq rfl ?_
    try (apply qst;exact rfl;exact rfl;exact q_cp rfl hwi rfl rfl rfl)
    repeat refine stq rfl ?_
    refine qst rfl rfl (QOp.idx rfl rfl rfl rfl (.inr rfl) rfl (by decide) rfl rfl) ?_
    repeat refine stq rfl ?_
    refine qst rfl rfl (QOp.idx rfl rfl rfl rfl (.inr rfl) rfl (by decide) rfl rfl) ?_
    repeat refine stq rfl ?_
    refine qst rfl rfl (q_cp rfl hnm rfl rfl rfl) ?_
    repeat refine stq rfl ?_
    refine qst rfl rfl (QOp.idx rfl rfl rfl rfl (.inr rfl) rfl (by decide) rfl rfl) ?_
    repeat refine stq rfl ?_
    refine qst rfl rfl (QOp.idx rfl rfl rfl rfl (.inr rfl) rfl (by decide) rfl rfl) ?_
    repeat refine stq rfl ?_
    refine qst rfl rfl (QOp.idx rfl rfl rfl rfl (.inr rfl) rfl (by decide) rfl rfl) ?_
    repeat refine stq rfl ?_
    exact end2 rfl rfl rfl rfl rfl trivial trivial rfl
   ·rw [if_pos rfl]
    rw [hq] at hnm
    refine Ret.of_pwp layOk mixed Go.Proofs.Tryz.func44 rfl (by decide) rfl rfl ?_
    repeat refine stq rfl ?_
    refine qst rfl rfl (q_cf rfl hpar rfl rfl) ?_
    repeat refine stq rfl ?_
    refine pw_cond rfl (fun h => ?_) (fun h => ?_)
    ·exact absurd (of_decide_eq_true h) c1
    clear h
    repeat refine stq rfl ?_
    refine pw_cond rfl (fun h => ?_) (fun h => ?_)
    ·exact absurd (of_decide_eq_true h) c2
    clear h
    repeat refine stq rfl ?_
    refine pw_cond rfl (fun h => ?_) (fun h => ?_)
    ·exact absurd (of_decide_eq_true h) (by omega)
    clear h
    repeat refine stq rfl ?_
    refine qst rfl rfl (q_cf rfl hcut rfl rfl) ?_
    repeat refine stq rfl ?_
    refine qst rfl rfl (QOp.idx rfl rfl rfl rfl (.inr rfl) rfl (by decide) rfl rfl) ?_
    repeat refine stq rfl ?_
    refine qst rfl rfl (q_cp rfl hnum rfl rfl rfl) ?_
    repeat refine stq rfl ?_
    try (apply qst;exact rfl;exact rfl;exact q_cp rfl hwi rfl rfl rfl)
    repeat refine stq rfl ?_
    refine qst rfl rfl (QOp.idx rfl rfl rfl rfl (.inr rfl) rfl (by decide) rfl rfl) ?_
    repeat refine stq rfl ?_
    refine qst rfl rfl (QOp.idx rfl rfl rfl rfl (.inr rfl) rfl (by decide) rfl rfl) ?_
    repeat refine stq rfl ?_
    refine qst rfl rfl (q_cp rfl hnm rfl rfl rfl) ?_
    repeat refine stq rfl ?_
    refine qst rfl rfl (QOp.idx rfl rfl rfl rfl (.inr rfl) rfl (by decide) rfl rfl) ?_
    repeat refine stq rfl ?_
    refine qst rfl rfl (q_cp rfl hat rfl rfl rfl) ?_
    repeat refine stq rfl ?_
    exact end2 rfl rfl rfl rfl rfl trivial trivial rfl
  by_cases a2 : w = balanceW
  ·subst a2
   rw [askW_balance]
   cases hq : isName r
   ·rw [if_neg (by simp)]
    rw [hq] at hnm
    refine Ret.of_pwp layOk mixed Go.Proofs.Tryz.func44 rfl (by decide) rfl rfl ?_
    repeat refine stq rfl ?_
    refine qst rfl rfl (q_cf rfl hpar rfl rfl) ?_
    repeat refine stq rfl ?_
    refine pw_cond rfl (fun h => ?_) (fun h => ?_)
    ·exact absurd (of_decide_eq_true h) c1
    clear h
    repeat refine stq rfl ?_
    refine pw_cond rfl (fun h => ?_) (fun h => ?_)
    ·exact absurd (of_decide_eq_true h) c2
    clear h
    repeat refine stq rfl ?_
    refine pw_cond rfl (fun h => ?_) (fun h => ?_)
    ·exact absurd (of_decide_eq_true h) (by omega)
    clear h
    repeat refine stq rfl ?_
    refine qst rfl rfl (q_cf rfl hcut rfl rfl) ?_
    repeat refine stq rfl ?_
    refine qst rfl rfl (QOp.idx rfl rfl rfl rfl (.inr rfl) rfl (by decide) rfl rfl) ?_
    repeat refine stq rfl ?_
    refine qst rfl rfl (q_cp rfl hnum rfl rfl rfl) ?_
    repeat refine stq rfl ?_
    try (apply qst;exact rfl;exact rfl;exact q_cp rfl hwi rfl rfl rfl)
    repeat refine stq rfl ?_
    refine qst rfl rfl (QOp.idx rfl rfl rfl rfl (.inr rfl) rfl (by decide) rfl rfl) ?_
    repeat refine stq rfl ?_
    refine qst rfl rfl (QOp.idx rfl rfl rfl rfl (.inr rfl) rfl (by decide) rfl rfl) ?_
    repeat refine stq rfl ?_
    refine qst rfl rfl (QOp.idx rfl rfl rfl rfl (.inr rfl) rfl (by decide) rfl rfl) ?_
    repeat refine stq rfl ?_
    refine qst rfl rfl (q_cp rfl hnm rfl rfl rfl) ?_
    repeat refine stq rfl ?_
    refine qst rfl rfl (QOp.idx rfl rfl rfl rfl (.inr rfl) rfl (by decide) rfl rfl) ?_
    repeat refine stq rfl ?_
    refine qst rfl rfl (QOp.idx rfl rfl rfl rfl (.inr rfl) rfl (by decide) rfl rfl) ?_
    repeat refine stq rfl ?_
    exact end2 rfl rfl rfl rfl rfl trivial trivial rfl
   ·rw [if_pos rfl]
    rw [hq] at hnm
    rw [balX]
    by_cases hz : standE l (ordNo l r) = 0
    ·rw [if_pos hz] at hbr ⊢
     have hrow := row_ref (balN l r) hbm (by simp [balN])
     rw [show balV l r = (balN l r).map I from rfl] at hbr
     rw [balN] at hbr hrow ⊢
     generalize sumI (accP l r) (·.est) (accP l r).length = z1 at hbr hrow ⊢
     generalize sumI (accP l r) (·.gro) (accP l r).length = z2 at hbr hrow ⊢
     generalize sumI (accP l r) (·.chg) (accP l r).length = z3 at hbr hrow ⊢
     generalize sumI (accP l r) (·.bil) (accP l r).length = z4 at hbr hrow ⊢
     generalize payK l r l.length = z5 at hbr hrow ⊢
     generalize z4 - z5 = z6 at hbr hrow ⊢
     have hbr : Ret Tryz.prog .fresh 97 [.sl (l.map ePost),.str r] (.tup [.agg [I z1,I z2,I z3,I z4,I z5,I z6],I 0]) := hbr
     have hrow : Ret Tryz.prog .shared 98 [.sl [[I z1],[I z2],[I z3],[I z4],[I z5],[I z6]]] (.str (numsT [z1,z2,z3,z4,z5,z6] [32])) := hrow
     refine Ret.of_pwp layOk mixed Go.Proofs.Tryz.func44 rfl (by decide) rfl rfl ?_
     repeat refine stq rfl ?_
     refine qst rfl rfl (q_cf rfl hpar rfl rfl) ?_
     repeat refine stq rfl ?_
     refine pw_cond rfl (fun h => ?_) (fun h => ?_)
     ·exact absurd (of_decide_eq_true h) c1
     clear h
     repeat refine stq rfl ?_
     refine pw_cond rfl (fun h => ?_) (fun h => ?_)
     ·exact absurd (of_decide_eq_true h) c2
     clear h
     repeat refine stq rfl ?_
     refine pw_cond rfl (fun h => ?_) (fun h => ?_)
     ·exact absurd (of_decide_eq_true h) (by omega)
     clear h
     repeat refine stq rfl ?_
     refine qst rfl rfl (q_cf rfl hcut rfl rfl) ?_
     repeat refine stq rfl ?_
     refine qst rfl rfl (QOp.idx rfl rfl rfl rfl (.inr rfl) rfl (by decide) rfl rfl) ?_
     repeat refine stq rfl ?_
     refine qst rfl rfl (q_cp rfl hnum rfl rfl rfl) ?_
     repeat refine stq rfl ?_
     try (apply qst;exact rfl;exact rfl;exact q_cp rfl hwi rfl rfl rfl)
     repeat refine stq rfl ?_
     refine qst rfl rfl (QOp.idx rfl rfl rfl rfl (.inr rfl) rfl (by decide) rfl rfl) ?_
     repeat refine stq rfl ?_
     refine qst rfl rfl (QOp.idx rfl rfl rfl rfl (.inr rfl) rfl (by decide) rfl rfl) ?_
     repeat refine stq rfl ?_
     refine qst rfl rfl (QOp.idx rfl rfl rfl rfl (.inr rfl) rfl (by decide) rfl rfl) ?_
     repeat refine stq rfl ?_
     refine qst rfl rfl (q_cp rfl hnm rfl rfl rfl) ?_
     repeat refine stq rfl ?_
     refine qst rfl rfl (QOp.idx rfl rfl rfl rfl (.inr rfl) rfl (by decide) rfl rfl) ?_
     repeat refine stq rfl ?_
     refine qst rfl rfl (q_cf rfl hbr rfl rfl) ?_
     repeat refine stq rfl ?_
     refine qst rfl rfl (q_slit rfl rfl rfl rfl rfl rfl rfl rfl rfl rfl (by repeat' constructor) rfl) ?_
     repeat refine stq rfl ?_
     refine qst rfl rfl (q_cp rfl hrow rfl rfl rfl) ?_
     repeat refine stq rfl ?_
     exact end2 rfl rfl rfl rfl rfl trivial trivial rfl
    ·rw [if_neg hz] at hbr ⊢
     rw [answT_err hz]
     have hd := decimal_ret _ hsm.1 hsm.2
     have hdl := itoa_mid hsm
     generalize Lib.itoa (standE l (ordNo l r)) = D at hd hdl ⊢
     generalize standE l (ordNo l r) = e at *
     refine Ret.of_pwp layOk mixed Go.Proofs.Tryz.func44 rfl (by decide) rfl rfl ?_
     repeat refine stq rfl ?_
     refine qst rfl rfl (q_cf rfl hpar rfl rfl) ?_
     repeat refine stq rfl ?_
     refine pw_cond rfl (fun h => ?_) (fun h => ?_)
     ·exact absurd (of_decide_eq_true h) c1
     clear h
     repeat refine stq rfl ?_
     refine pw_cond rfl (fun h => ?_) (fun h => ?_)
     ·exact absurd (of_decide_eq_true h) c2
     clear h
     repeat refine stq rfl ?_
     refine pw_cond rfl (fun h => ?_) (fun h => ?_)
     ·exact absurd (of_decide_eq_true h) (by omega)
     clear h
     repeat refine stq rfl ?_
     refine qst rfl rfl (q_cf rfl hcut rfl rfl) ?_
     repeat refine stq rfl ?_
     refine qst rfl rfl (QOp.idx rfl rfl rfl rfl (.inr rfl) rfl (by decide) rfl rfl) ?_
     repeat refine stq rfl ?_
     refine qst rfl rfl (q_cp rfl hnum rfl rfl rfl) ?_
     repeat refine stq rfl ?_
     try (apply qst;exact rfl;exact rfl;exact q_cp rfl hwi rfl rfl rfl)
     repeat refine stq rfl ?_
     refine qst rfl rfl (QOp.idx rfl rfl rfl rfl (.inr rfl) rfl (by decide) rfl rfl) ?_
     repeat refine stq rfl ?_
     refine qst rfl rfl (QOp.idx rfl rfl rfl rfl (.inr rfl) rfl (by decide) rfl rfl) ?_
     repeat refine stq rfl ?_
     refine qst rfl rfl (QOp.idx rfl rfl rfl rfl (.inr rfl) rfl (by decide) rfl rfl) ?_
     repeat refine stq rfl ?_
     refine qst rfl rfl (q_cp rfl hnm rfl rfl rfl) ?_
     repeat refine stq rfl ?_
     refine qst rfl rfl (QOp.idx rfl rfl rfl rfl (.inr rfl) rfl (by decide) rfl rfl) ?_
     repeat refine stq rfl ?_
     refine qst rfl rfl (q_cf rfl hbr rfl rfl) ?_
     repeat refine stq rfl ?_
     refine pw_cond rfl (fun h => ?_) (fun h => ?_)
     rotate_left
     ·exact absurd (by simpa using h) hz
     clear h
     repeat refine stx rfl ?_
     refine qst rfl rfl (q_cp rfl hd rfl rfl rfl) ?_
     refine ps_v rfl ?_ ?_
     ·first | omega | (simp only [List.length_append,List.length_cons,List.length_nil];omega)
     repeat refine stx rfl ?_
     exact end2 rfl rfl rfl rfl rfl trivial trivial rfl
  by_cases a3 : w = traceW
  ·subst a3
   rw [askW_trace]
   first
   |rw [hb0 rfl]
    dsimp only
    refine Ret.of_pwp layOk mixed Go.Proofs.Tryz.func44 rfl (by decide) rfl rfl ?_
    repeat refine stq rfl ?_
    refine qst rfl rfl (q_cf rfl hpar rfl rfl) ?_
    repeat refine stq rfl ?_
    refine pw_cond rfl (fun h => ?_) (fun h => ?_)
    ·exact absurd (of_decide_eq_true h) c1
    clear h
    repeat refine stq rfl ?_
    refine pw_cond rfl (fun h => ?_) (fun h => ?_)
    ·exact absurd (of_decide_eq_true h) c2
    clear h
    repeat refine stq rfl ?_
    refine pw_cond rfl (fun h => ?_) (fun h => ?_)
    ·exact absurd (of_decide_eq_true h) (by omega)
    clear h
    repeat refine stq rfl ?_
    refine qst rfl rfl (q_cf rfl hcut rfl rfl) ?_
    repeat refine stq rfl ?_
    refine qst rfl rfl (QOp.idx rfl rfl rfl rfl (.inr rfl) rfl (by decide) rfl rfl) ?_
    repeat refine stq rfl ?_
    refine qst rfl rfl (q_cp rfl hnum rfl rfl rfl) ?_
    repeat refine stq rfl ?_
    try (apply qst;exact rfl;exact rfl;exact q_cp rfl hwi rfl rfl rfl)
    repeat refine stq rfl ?_
    refine qst rfl rfl (QOp.idx rfl rfl rfl rfl (.inr rfl) rfl (by decide) rfl rfl) ?_
    repeat refine stq rfl ?_
    refine qst rfl rfl (QOp.idx rfl rfl rfl rfl (.inr rfl) rfl (by decide) rfl rfl) ?_
    repeat refine stq rfl ?_
    refine qst rfl rfl (QOp.idx rfl rfl rfl rfl (.inr rfl) rfl (by decide) rfl rfl) ?_
    repeat refine stq rfl ?_
    refine qst rfl rfl (QOp.idx rfl rfl rfl rfl (.inr rfl) rfl (by decide) rfl rfl) ?_
    repeat refine stq rfl ?_
    exact end2 rfl rfl rfl rfl rfl trivial trivial rfl
   |rw [hb1 rfl]
    dsimp only
    rw [trailR] at htr
    rw [traceT]
    by_cases hz : aimE l n [3] = 0
    ·rw [if_pos hz,trailV] at htr
     rw [if_pos hz]
     have hob := ordNo_le l (entL l n).order
     have hib := itmNo_le l (entL l n).order (entL l n).item
     have hvb := invF_b l n l.length
     have gam : ∀ x,x ∈ amF l n l.length → Mid x := fun x hx => by have := amF_mem hx;exact ⟨by omega,by omega⟩
     have gsg : ∀ x,x ∈ sigF l n l.length → Mid x := fun x hx => by have := sigF_mem hx;exact ⟨by omega,by omega⟩
     have hal := amF_len l n l.length
     have hsl := sigF_len l n l.length
     have j1 := row_ref [ordNo l (entL l n).order,itmNo l (entL l n).order (entL l n).item] (fun x hx => by simp only [List.mem_cons,List.not_mem_nil,or_false] at hx;rcases hx with rfl | rfl <;> exact ⟨by omega,by omega⟩) (by simp)
     have l1 := nums_len (ns := [ordNo l (entL l n).order,itmNo l (entL l n).order (entL l n).item]) (fun x hx => by simp only [List.mem_cons,List.not_mem_nil,or_false] at hx;rcases hx with rfl | rfl <;> exact ⟨by omega,by omega⟩) (sep := [32]) rfl 2 (Nat.le_refl _)
     have j3 := joined_ref (amF l n l.length) gam (by omega)
     have j4 := joined_ref (sigF l n l.length) gsg (by omega)
     have j5 := decimal_ret (invF l n l.length) (by omega) (by omega)
     have l3 := listT_len gam
     have l4 := listT_len gsg
     have l5 := itoa_mid (v := invF l n l.length) ⟨by omega,by omega⟩
     rw [trace_join]
     rw [show ([ordNo l (entL l n).order,itmNo l (entL l n).order (entL l n).item].take 2) = [ordNo l (entL l n).order,itmNo l (entL l n).order (entL l n).item] from rfl] at l1
     generalize numsT [ordNo l (entL l n).order,itmNo l (entL l n).order (entL l n).item] [32] = w1 at j1 l1 ⊢
     generalize listT (amF l n l.length) = w3 at j3 l3 ⊢
     generalize listT (sigF l n l.length) = w4 at j4 l4 ⊢
     generalize Lib.itoa (invF l n l.length) = w5 at j5 l5 ⊢
     have j1 : Ret Tryz.prog .shared 98 [.sl [[I (ordNo l (entL l n).order)],[I (itmNo l (entL l n).order (entL l n).item)]]] (.str w1) := j1
     generalize ordNo l (entL l n).order = n1 at htr j1
     generalize itmNo l (entL l n).order (entL l n).item = n2 at htr j1
     generalize amF l n l.length = L3 at htr j3 l3 hal
     generalize sigF l n l.length = L4 at htr j4 l4 hsl
     generalize invF l n l.length = n5 at htr j5
     refine Ret.of_pwp layOk mixed Go.Proofs.Tryz.func44 rfl (by decide) rfl rfl ?_
     repeat refine stq rfl ?_
     refine qst rfl rfl (q_cf rfl hpar rfl rfl) ?_
     repeat refine stq rfl ?_
     refine pw_cond rfl (fun h => ?_) (fun h => ?_)
     ·exact absurd (of_decide_eq_true h) c1
     clear h
     repeat refine stq rfl ?_
     refine pw_cond rfl (fun h => ?_) (fun h => ?_)
     ·exact absurd (of_decide_eq_true h) c2
     clear h
     repeat refine stq rfl ?_
     refine pw_cond rfl (fun h => ?_) (fun h => ?_)
     ·exact absurd (of_decide_eq_true h) (by omega)
     clear h
     repeat refine stq rfl ?_
     refine qst rfl rfl (q_cf rfl hcut rfl rfl) ?_
     repeat refine stq rfl ?_
     refine qst rfl rfl (QOp.idx rfl rfl rfl rfl (.inr rfl) rfl (by decide) rfl rfl) ?_
     repeat refine stq rfl ?_
     refine qst rfl rfl (q_cp rfl hnum rfl rfl rfl) ?_
     repeat refine stq rfl ?_
     try (apply qst;exact rfl;exact rfl;exact q_cp rfl hwi rfl rfl rfl)
     repeat refine stq rfl ?_
     refine qst rfl rfl (QOp.idx rfl rfl rfl rfl (.inr rfl) rfl (by decide) rfl rfl) ?_
     repeat refine stq rfl ?_
     refine qst rfl rfl (QOp.idx rfl rfl rfl rfl (.inr rfl) rfl (by decide) rfl rfl) ?_
     repeat refine stq rfl ?_
     refine qst rfl rfl (QOp.idx rfl rfl rfl rfl (.inr rfl) rfl (by decide) rfl rfl) ?_
     repeat refine stq rfl ?_
     refine qst rfl rfl (q_cf rfl htr rfl rfl) ?_
     repeat refine stq rfl ?_
     refine pw_draw3 [] [22,23] (by decide +kernel) ?_
     repeat refine stx rfl ?_
     refine qst rfl rfl (q_slit rfl rfl rfl rfl rfl rfl rfl rfl rfl rfl (by repeat' constructor) rfl) ?_
     repeat refine stx rfl ?_
     refine qst rfl rfl (q_cp rfl j1 rfl rfl rfl) ?_
     refine qst rfl rfl (QOp.v rfl (by first | omega | (simp only [List.length_append,List.length_cons,List.length_nil];omega))) ?_
     repeat refine stx rfl ?_
     refine qst rfl rfl (q_cp rfl j3 rfl rfl rfl) ?_
     refine qst rfl rfl (QOp.v rfl (by first | omega | (simp only [List.length_append,List.length_cons,List.length_nil];omega))) ?_
     refine qst rfl rfl (QOp.v rfl (by first | omega | (simp only [List.length_append,List.length_cons,List.length_nil];omega))) ?_
     repeat refine stx rfl ?_
     refine qst rfl rfl (q_cp rfl j4 rfl rfl rfl) ?_
     refine qst rfl rfl (QOp.v rfl (by first | omega | (simp only [List.length_append,List.length_cons,List.length_nil];omega))) ?_
     refine qst rfl rfl (QOp.v rfl (by first | omega | (simp only [List.length_append,List.length_cons,List.length_nil];omega))) ?_
     repeat refine stx rfl ?_
     refine qst rfl rfl (q_cp rfl j5 rfl rfl rfl) ?_
     refine qst rfl rfl (QOp.v rfl (by first | omega | (simp only [List.length_append,List.length_cons,List.length_nil];omega))) ?_
     repeat refine stx rfl ?_
     exact end2 rfl rfl rfl rfl rfl trivial trivial rfl
    ·rw [if_neg hz] at htr
     rw [if_neg hz,answT_err hz]
     have hd := decimal_ret _ ham.1 ham.2
     have hdl := itoa_mid ham
     generalize Lib.itoa (aimE l n [3]) = D at hd hdl ⊢
     generalize aimE l n [3] = e at *
     refine Ret.of_pwp layOk mixed Go.Proofs.Tryz.func44 rfl (by decide) rfl rfl ?_
     repeat refine stq rfl ?_
     refine qst rfl rfl (q_cf rfl hpar rfl rfl) ?_
     repeat refine stq rfl ?_
     refine pw_cond rfl (fun h => ?_) (fun h => ?_)
     ·exact absurd (of_decide_eq_true h) c1
     clear h
     repeat refine stq rfl ?_
     refine pw_cond rfl (fun h => ?_) (fun h => ?_)
     ·exact absurd (of_decide_eq_true h) c2
     clear h
     repeat refine stq rfl ?_
     refine pw_cond rfl (fun h => ?_) (fun h => ?_)
     ·exact absurd (of_decide_eq_true h) (by omega)
     clear h
     repeat refine stq rfl ?_
     refine qst rfl rfl (q_cf rfl hcut rfl rfl) ?_
     repeat refine stq rfl ?_
     refine qst rfl rfl (QOp.idx rfl rfl rfl rfl (.inr rfl) rfl (by decide) rfl rfl) ?_
     repeat refine stq rfl ?_
     refine qst rfl rfl (q_cp rfl hnum rfl rfl rfl) ?_
     repeat refine stq rfl ?_
     try (apply qst;exact rfl;exact rfl;exact q_cp rfl hwi rfl rfl rfl)
     repeat refine stq rfl ?_
     refine qst rfl rfl (QOp.idx rfl rfl rfl rfl (.inr rfl) rfl (by decide) rfl rfl) ?_
     repeat refine stq rfl ?_
     refine qst rfl rfl (QOp.idx rfl rfl rfl rfl (.inr rfl) rfl (by decide) rfl rfl) ?_
     repeat refine stq rfl ?_
     refine qst rfl rfl (QOp.idx rfl rfl rfl rfl (.inr rfl) rfl (by decide) rfl rfl) ?_
     repeat refine stq rfl ?_
     refine qst rfl rfl (q_cf rfl htr rfl rfl) ?_
     repeat refine stq rfl ?_
     refine pw_cond rfl (fun h => ?_) (fun h => ?_)
     rotate_left
     ·exact absurd (by simpa using h) hz
     clear h
     repeat refine stx rfl ?_
     refine qst rfl rfl (q_cp rfl hd rfl rfl rfl) ?_
     refine ps_v rfl ?_ ?_
     ·first | omega | (simp only [List.length_append,List.length_cons,List.length_nil];omega)
     repeat refine stx rfl ?_
     exact end2 rfl rfl rfl rfl rfl trivial trivial rfl
  by_cases a4 : w = liveW
  ·subst a4
   rw [askW_live]
   first
   |rw [hb0 rfl]
    dsimp only
    refine Ret.of_pwp layOk mixed Go.Proofs.Tryz.func44 rfl (by decide) rfl rfl ?_
    repeat refine stq rfl ?_
    refine qst rfl rfl (q_cf rfl hpar rfl rfl) ?_
    repeat refine stq rfl ?_
    refine pw_cond rfl (fun h => ?_) (fun h => ?_)
    ·exact absurd (of_decide_eq_true h) c1
    clear h
    repeat refine stq rfl ?_
    refine pw_cond rfl (fun h => ?_) (fun h => ?_)
    ·exact absurd (of_decide_eq_true h) c2
    clear h
    repeat refine stq rfl ?_
    refine pw_cond rfl (fun h => ?_) (fun h => ?_)
    ·exact absurd (of_decide_eq_true h) (by omega)
    clear h
    repeat refine stq rfl ?_
    refine qst rfl rfl (q_cf rfl hcut rfl rfl) ?_
    repeat refine stq rfl ?_
    refine qst rfl rfl (QOp.idx rfl rfl rfl rfl (.inr rfl) rfl (by decide) rfl rfl) ?_
    repeat refine stq rfl ?_
    refine qst rfl rfl (q_cp rfl hnum rfl rfl rfl) ?_
    repeat refine stq rfl ?_
    try (apply qst;exact rfl;exact rfl;exact q_cp rfl hwi rfl rfl rfl)
    repeat refine stq rfl ?_
    refine qst rfl rfl (QOp.idx rfl rfl rfl rfl (.inr rfl) rfl (by decide) rfl rfl) ?_
    repeat refine stq rfl ?_
    refine qst rfl rfl (QOp.idx rfl rfl rfl rfl (.inr rfl) rfl (by decide) rfl rfl) ?_
    repeat refine stq rfl ?_
    refine qst rfl rfl (QOp.idx rfl rfl rfl rfl (.inr rfl) rfl (by decide) rfl rfl) ?_
    repeat refine stq rfl ?_
    refine qst rfl rfl (QOp.idx rfl rfl rfl rfl (.inr rfl) rfl (by decide) rfl rfl) ?_
    repeat refine stq rfl ?_
    exact end2 rfl rfl rfl rfl rfl trivial trivial rfl
   |rw [hb1 rfl]
    dsimp only
    rw [aliveT]
    have hd6 := decimal_ret 6 (by decide) (by decide)
    have hl6 := itoa_mid (v := 6) ⟨by decide,by decide⟩
    by_cases h1 : n < 1
    ·rw [if_neg (by simp [inside];omega),answT_err (by decide)]
     generalize Lib.itoa 6 = D6 at hd6 hl6 ⊢
     refine Ret.of_pwp layOk mixed Go.Proofs.Tryz.func44 rfl (by decide) rfl rfl ?_
     repeat refine stq rfl ?_
     refine qst rfl rfl (q_cf rfl hpar rfl rfl) ?_
     repeat refine stq rfl ?_
     refine pw_cond rfl (fun h => ?_) (fun h => ?_)
     ·exact absurd (of_decide_eq_true h) c1
     clear h
     repeat refine stq rfl ?_
     refine pw_cond rfl (fun h => ?_) (fun h => ?_)
     ·exact absurd (of_decide_eq_true h) c2
     clear h
     repeat refine stq rfl ?_
     refine pw_cond rfl (fun h => ?_) (fun h => ?_)
     ·exact absurd (of_decide_eq_true h) (by omega)
     clear h
     repeat refine stq rfl ?_
     refine qst rfl rfl (q_cf rfl hcut rfl rfl) ?_
     repeat refine stq rfl ?_
     refine qst rfl rfl (QOp.idx rfl rfl rfl rfl (.inr rfl) rfl (by decide) rfl rfl) ?_
     repeat refine stq rfl ?_
     refine qst rfl rfl (q_cp rfl hnum rfl rfl rfl) ?_
     repeat refine stq rfl ?_
     try (apply qst;exact rfl;exact rfl;exact q_cp rfl hwi rfl rfl rfl)
     repeat refine stq rfl ?_
     refine qst rfl rfl (QOp.idx rfl rfl rfl rfl (.inr rfl) rfl (by decide) rfl rfl) ?_
     repeat refine stq rfl ?_
     refine qst rfl rfl (QOp.idx rfl rfl rfl rfl (.inr rfl) rfl (by decide) rfl rfl) ?_
     repeat refine stq rfl ?_
     refine qst rfl rfl (QOp.idx rfl rfl rfl rfl (.inr rfl) rfl (by decide) rfl rfl) ?_
     repeat refine stq rfl ?_
     refine qst rfl rfl (QOp.idx rfl rfl rfl rfl (.inr rfl) rfl (by decide) rfl rfl) ?_
     repeat refine stq rfl ?_
     (first|refine ps_split rfl rfl ?_ ?_|refine pq_split rfl rfl ?_ ?_|refine p3_split rfl rfl ?_ ?_)<;>intro h
     rotate_left
     ·exact absurd (of_decide_eq_false h) (by omega)
     clear h
     repeat refine stx rfl ?_
     refine qst rfl rfl (q_cp rfl hd6 rfl rfl rfl) ?_
     refine ps_v rfl ?_ ?_
     ·first | omega | (simp only [List.length_append,List.length_cons,List.length_nil];omega)
     repeat refine stx rfl ?_
     exact end2 rfl rfl rfl rfl rfl trivial trivial rfl
    by_cases h2 : (l.length : Int) < n
    ·rw [if_neg (by simp [inside];omega),answT_err (by decide)]
     generalize Lib.itoa 6 = D6 at hd6 hl6 ⊢
     refine Ret.of_pwp layOk mixed Go.Proofs.Tryz.func44 rfl (by decide) rfl rfl ?_
     repeat refine stq rfl ?_
     refine qst rfl rfl (q_cf rfl hpar rfl rfl) ?_
     repeat refine stq rfl ?_
     refine pw_cond rfl (fun h => ?_) (fun h => ?_)
     ·exact absurd (of_decide_eq_true h) c1
     clear h
     repeat refine stq rfl ?_
     refine pw_cond rfl (fun h => ?_) (fun h => ?_)
     ·exact absurd (of_decide_eq_true h) c2
     clear h
     repeat refine stq rfl ?_
     refine pw_cond rfl (fun h => ?_) (fun h => ?_)
     ·exact absurd (of_decide_eq_true h) (by omega)
     clear h
     repeat refine stq rfl ?_
     refine qst rfl rfl (q_cf rfl hcut rfl rfl) ?_
     repeat refine stq rfl ?_
     refine qst rfl rfl (QOp.idx rfl rfl rfl rfl (.inr rfl) rfl (by decide) rfl rfl) ?_
     repeat refine stq rfl ?_
     refine qst rfl rfl (q_cp rfl hnum rfl rfl rfl) ?_
     repeat refine stq rfl ?_
     try (apply qst;exact rfl;exact rfl;exact q_cp rfl hwi rfl rfl rfl)
     repeat refine stq rfl ?_
     refine qst rfl rfl (QOp.idx rfl rfl rfl rfl (.inr rfl) rfl (by decide) rfl rfl) ?_
     repeat refine stq rfl ?_
     refine qst rfl rfl (QOp.idx rfl rfl rfl rfl (.inr rfl) rfl (by decide) rfl rfl) ?_
     repeat refine stq rfl ?_
     refine qst rfl rfl (QOp.idx rfl rfl rfl rfl (.inr rfl) rfl (by decide) rfl rfl) ?_
     repeat refine stq rfl ?_
     refine qst rfl rfl (QOp.idx rfl rfl rfl rfl (.inr rfl) rfl (by decide) rfl rfl) ?_
     repeat refine stq rfl ?_
     (first|refine ps_split rfl rfl ?_ ?_|refine pq_split rfl rfl ?_ ?_|refine p3_split rfl rfl ?_ ?_)<;>intro h
     ·exact absurd (of_decide_eq_true h) (by omega)
     clear h
     repeat refine stq rfl ?_
     rw [hmm]
     refine pw_cond rfl (fun h => ?_) (fun h => ?_)
     rotate_left
     ·exact absurd (of_decide_eq_false h) (by omega)
     clear h
     repeat refine stx rfl ?_
     refine qst rfl rfl (q_cp rfl hd6 rfl rfl rfl) ?_
     refine ps_v rfl ?_ ?_
     ·first | omega | (simp only [List.length_append,List.length_cons,List.length_nil];omega)
     repeat refine stx rfl ?_
     exact end2 rfl rfl rfl rfl rfl trivial trivial rfl
    rw [if_pos (by simp [inside];omega)]
    have hlv := live_ref l hO.wf n.toNat n (by omega) (by omega) (by omega)
    generalize liveB l n = lv at hlv ⊢
    refine Ret.of_pwp layOk mixed Go.Proofs.Tryz.func44 rfl (by decide) rfl rfl ?_
    repeat refine stq rfl ?_
    refine qst rfl rfl (q_cf rfl hpar rfl rfl) ?_
    repeat refine stq rfl ?_
    refine pw_cond rfl (fun h => ?_) (fun h => ?_)
    ·exact absurd (of_decide_eq_true h) c1
    clear h
    repeat refine stq rfl ?_
    refine pw_cond rfl (fun h => ?_) (fun h => ?_)
    ·exact absurd (of_decide_eq_true h) c2
    clear h
    repeat refine stq rfl ?_
    refine pw_cond rfl (fun h => ?_) (fun h => ?_)
    ·exact absurd (of_decide_eq_true h) (by omega)
    clear h
    repeat refine stq rfl ?_
    refine qst rfl rfl (q_cf rfl hcut rfl rfl) ?_
    repeat refine stq rfl ?_
    refine qst rfl rfl (QOp.idx rfl rfl rfl rfl (.inr rfl) rfl (by decide) rfl rfl) ?_
    repeat refine stq rfl ?_
    refine qst rfl rfl (q_cp rfl hnum rfl rfl rfl) ?_
    repeat refine stq rfl ?_
    try (apply qst;exact rfl;exact rfl;exact q_cp rfl hwi rfl rfl rfl)
    repeat refine stq rfl ?_
    refine qst rfl rfl (QOp.idx rfl rfl rfl rfl (.inr rfl) rfl (by decide) rfl rfl) ?_
    repeat refine stq rfl ?_
    refine qst rfl rfl (QOp.idx rfl rfl rfl rfl (.inr rfl) rfl (by decide) rfl rfl) ?_
    repeat refine stq rfl ?_
    refine qst rfl rfl (QOp.idx rfl rfl rfl rfl (.inr rfl) rfl (by decide) rfl rfl) ?_
    repeat refine stq rfl ?_
    refine qst rfl rfl (QOp.idx rfl rfl rfl rfl (.inr rfl) rfl (by decide) rfl rfl) ?_
    repeat refine stq rfl ?_
    (first|refine ps_split rfl rfl ?_ ?_|refine pq_split rfl rfl ?_ ?_|refine p3_split rfl rfl ?_ ?_)<;>intro h
    ·exact absurd (of_decide_eq_true h) (by omega)
    clear h
    repeat refine stq rfl ?_
    rw [hmm]
    refine pw_cond rfl (fun h => ?_) (fun h => ?_)
    ·exact absurd (of_decide_eq_true h) (by omega)
    clear h
    repeat refine stq rfl ?_
    refine qst rfl rfl (q_cp rfl hlv rfl rfl rfl) ?_
    cases lv with
    |true =>
     rw [if_pos rfl]
     repeat refine stq rfl ?_
     exact end2 rfl rfl rfl rfl rfl trivial trivial rfl
    |false =>
     rw [if_neg (by simp)]
     repeat refine stq rfl ?_
     exact end2 rfl rfl rfl rfl rfl trivial trivial rfl
  rw [askW_off a1 a2 a3 a4]
  refine Ret.of_pwp layOk mixed Go.Proofs.Tryz.func44 rfl (by decide) rfl rfl ?_
  repeat refine stq rfl ?_
  refine qst rfl rfl (q_cf rfl hpar rfl rfl) ?_
  repeat refine stq rfl ?_
  refine pw_cond rfl (fun h => ?_) (fun h => ?_)
  ·exact absurd (of_decide_eq_true h) c1
  clear h
  repeat refine stq rfl ?_
  refine pw_cond rfl (fun h => ?_) (fun h => ?_)
  ·exact absurd (of_decide_eq_true h) c2
  clear h
  repeat refine stq rfl ?_
  refine pw_cond rfl (fun h => ?_) (fun h => ?_)
  ·exact absurd (of_decide_eq_true h) (by omega)
  clear h
  repeat refine stq rfl ?_
  refine qst rfl rfl (q_cf rfl hcut rfl rfl) ?_
  repeat refine stq rfl ?_
  refine qst rfl rfl (QOp.idx rfl rfl rfl rfl (.inr rfl) rfl (by decide) rfl rfl) ?_
  repeat refine stq rfl ?_
  refine qst rfl rfl (q_cp rfl hnum rfl rfl rfl) ?_
  repeat refine stq rfl ?_
  try (apply qst;exact rfl;exact rfl;exact q_cp rfl hwi rfl rfl rfl)
  repeat refine stq rfl ?_
  refine qst rfl rfl (QOp.idx rfl rfl rfl rfl (.inr rfl) rfl (by decide) rfl rfl) ?_
  repeat refine stq rfl ?_
  (first|refine ps_split rfl rfl ?_ ?_|refine pq_split rfl rfl ?_ ?_|refine p3_split rfl rfl ?_ ?_)<;>intro h
  ·exact absurd (of_decide_eq_true h) a1
  clear h
  repeat refine stq rfl ?_
  refine qst rfl rfl (QOp.idx rfl rfl rfl rfl (.inr rfl) rfl (by decide) rfl rfl) ?_
  repeat refine stq rfl ?_
  (first|refine ps_split rfl rfl ?_ ?_|refine pq_split rfl rfl ?_ ?_|refine p3_split rfl rfl ?_ ?_)<;>intro h
  ·exact absurd (of_decide_eq_true h) a2
  clear h
  repeat refine stq rfl ?_
  refine qst rfl rfl (QOp.idx rfl rfl rfl rfl (.inr rfl) rfl (by decide) rfl rfl) ?_
  repeat refine stq rfl ?_
  (first|refine ps_split rfl rfl ?_ ?_|refine pq_split rfl rfl ?_ ?_|refine p3_split rfl rfl ?_ ?_)<;>intro h
  ·exact absurd (of_decide_eq_true h) a3
  clear h
  repeat refine stq rfl ?_
  refine qst rfl rfl (QOp.idx rfl rfl rfl rfl (.inr rfl) rfl (by decide) rfl rfl) ?_
  repeat refine stq rfl ?_
  (first|refine ps_split rfl rfl ?_ ?_|refine pq_split rfl rfl ?_ ?_|refine p3_split rfl rfl ?_ ?_)<;>intro h
  ·exact absurd (of_decide_eq_true h) a4
  clear h
  repeat refine stq rfl ?_
  exact end2 rfl rfl rfl rfl rfl trivial trivial rfl
end Go.Pv


set_option maxHeartbeats 2000000
namespace Go.Pv
attribute [local irreducible] PWP POps PQuiet PSem XThen XBlock RetPost InlPost
open Go.Proofs Go.RowKit
theorem answer_ret (l : List SPost) (hA : Acc l) (line : Str) (hl : line.length ≤ 1000) : Ret Tryz.prog .shared 44 [.sl (l.map ePost),.str line] (.tup [.sl ((ansL l line).map ePost),.str (ansT l line)]) := by
 cases hp : progC line with
 |some p => exact answer_post l hA line hl hp
 |none => exact answer_ask l hA line hl hp
theorem ans_acc {l : List SPost} (hA : Acc l) (line : Str) : Acc (ansL l line) := by
 rw [ansL]
 split
 ·rename_i p hp
  split
  ·rename_i hz
   have := hA.snoc hz
   rwa [prog_clean hp] at this
  ·exact hA
 ·exact hA
def dskC (g5 : Nat) : Cont := ⟨162,1,[[.ptr 1005 g5 0 0]],2⟩
set_option maxRecDepth 20000 in
theorem do_inl {K : St → Prop} {s : St} {d g1 g2 g3 g5 g62 : Nat} {q0 q1 q2 q3 q4 q5 q6 : Nat} {x0 x2 x3 x4 x5 x6 : Cont} {x y : Operand} {tys : Array TypeId} {ty : TypeId} {pos : String} {af : Array Edge} (l : List SPost) (hA : Acc l) (line : Str) (hl : line.length ≤ 100000)
  (hx : s.ev x = .ptr 2001 q1 0 0) (hy : s.ev y = .str line) (ho : FitO s (bkX q0 q1 q2 q3 q4 q5 q6 x0 (dskC g5) x2 x3 x4 x5 x6 g1 g2 g3 g5 g62 l))
  (hK : ∀ s1 : St,K (({ reg := s.reg,own := (s1.over [] (bkX q0 q1 q2 q3 q4 q5 q6 x0 (dskC g5) x2 x3 x4 x5 x6 g1 g2 g3 g5 g62 (ansL l line))).own } : St).putR d (.str (ansT l line)))) :
  Sm Tryz.prog lay.get s ⟨some d,.call ⟨.value (.func 43),#[x,y],tys⟩,ty,pos,af,none⟩ K := by
 have hO := hA.ok
 have hW := hO.wf
 have hll := hW.len
 have hpar := parse_ret line (by omega)
 refine sm_inline layOk rfl rfl Tryz.func43 rfl (by decide) rfl rfl ?_
 show PWP _ _ _ _ (callSt s (([x,y] : List Operand).map s.ev ++ []))
 rw [show (([x,y] : List Operand).map s.ev ++ ([] : List PV)) = [.ptr 2001 q1 0 0,.str line] by simp [hx,hy]]
 rw [show callSt s [.ptr 2001 q1 0 0,.str line] = callSt (s.over [] (bkX q0 q1 q2 q3 q4 q5 q6 x0 (dskC g5) x2 x3 x4 x5 x6 g1 g2 g3 g5 g62 l)) [.ptr 2001 q1 0 0,.str line] by rw [Fit.over (l := []) ho]]
 have fin : ∀ (st : St) (e : Exit),(e = .ret ∨ e = .normal) → st.reg 4 = .str (ansT l line) → FitO st (bkX q0 q1 q2 q3 q4 q5 q6 x0 (dskC g5) x2 x3 x4 x5 x6 g1 g2 g3 g5 g62 (ansL l line)) → InlPost lay.get Tryz.f43 (fun s' r => K (({ reg := s.reg,own := s'.own } : St).putR d r)) e st := fun st e he h1 h3 =>
  inl_end1O (K := fun o r => K (({ reg := s.reg,own := o } : St).putR d r)) _ he rfl h1 h3 fun s1 => hK s1
 clear ho hx hy hK
 rw [ansL,ansT] at fin
 cases hp : progC line with
 |some p =>
  rw [hp] at hpar fin
  dsimp only at fin
  have hcl := prog_clean hp
  by_cases hz : refusalR l p = 0
  ·rw [if_pos hz,if_pos hz] at fin
   have hi := itoa_ret ((l.length : Int) + 1) (by omega) (by omega)
   have hil := itoa_mid (v := (l.length : Int) + 1) ⟨by omega,by omega⟩
   have han := answered_ret ([101,110,116,114,121,32] ++ Lib.itoa ((l.length : Int) + 1)) 0 ⟨by decide,by decide⟩
   rw [answT,if_pos rfl] at han
   generalize Lib.itoa ((l.length : Int) + 1) = D at *
   repeat refine stq rfl ?_
   refine qst rfl rfl (q_cf rfl hpar rfl rfl) ?_
   repeat refine stq rfl ?_
   refine pw_cutN [(7,I ((l.length : Int) + 1)),(8,I 0)] (bkX q0 q1 q2 q3 q4 q5 q6 x0 (dskC g5) x2 x3 x4 x5 x6 g1 g2 g3 g5 g62 (l ++ [p])) ?_ ?_
   ·refine pw_tree ?_
    refine pt_two (i := 0) (j := 4) (by decide +kernel) rfl rfl ?_ ?_
    ·refine psem_ops ?_
     refine stq rfl ?_
     refine ps_nil ?_
     refine pt_two (i := 1) (j := 4) (by decide +kernel) rfl rfl ?_ ?_
     ·refine psem_ops ?_
      refine stq rfl ?_
      refine ps_nil ?_
      refine pt_two (i := 2) (j := 4) (by decide +kernel) rfl rfl ?_ ?_
      ·refine psem_ops ?_
       refine stq rfl ?_
       refine ps_nil ?_
       refine pt_two (i := 3) (j := 4) (by decide +kernel) rfl rfl ?_ ?_
       ·refine psem_ops ?_
        refine stq rfl ?_
        refine ps_nil ?_
        refine pt_one (i := 4) (by decide +kernel) rfl ?_
        refine psem_ops ?_
        refine stq rfl ?_
        refine ps_nil ?_
        refine pt_one (i := 5) (by decide +kernel) rfl ?_
        refine psem_sm rfl (post_inlX (g1 := g1) (g2 := g2) (g3 := g3) (g5 := g5) (g62 := g62) l hW p rfl rfl ⟨rfl,rfl,rfl,rfl,rfl,rfl,rfl,rfl,rfl,rfl,rfl,rfl,trivial⟩ (fun s2 hne => absurd hz hne) (fun s2 he => ?_))
        rw [hcl]
        refine psem_ops (ps_nil ?_)
        refine pt_one (i := 6) (by decide +kernel) rfl ?_
        refine psem_ops ?_
        refine stq rfl ?_
        refine ps_nil ?_
        refine pt_two (i := 7) (j := 8) (by decide +kernel) rfl rfl ?_ ?_
        ·refine psem_ops ?_
         refine stq rfl ?_
         refine ps_nil ?_
         refine pt_two (i := 8) (j := 9) (by decide +kernel) rfl rfl ?_ ?_
         ·refine psem_ops ?_
          refine stq rfl ?_
          refine ps_nil ?_
          refine pt_one (i := 9) (by decide +kernel) rfl ?_
          refine psem_ops ?_
          refine stq rfl ?_
          refine ps_nil ?_
          refine pt_one (i := 10) (by decide +kernel) rfl ?_
          refine psem_ops ?_
          refine stq rfl ?_
          refine ps_nil ?_
          refine pt_nil (by decide +kernel) ?_
          refine x_norm ?_
          exact ⟨rfl,rfl,rfl,rfl,rfl,rfl,rfl,rfl,rfl,rfl,rfl,rfl,rfl,rfl,trivial⟩
         ·refine psem_ops ?_
          refine stq rfl ?_
          refine ps_nil ?_
          refine pt_one (i := 8) (by decide +kernel) rfl ?_
          refine psem_ops ?_
          refine stq rfl ?_
          refine ps_nil ?_
          refine pt_one (i := 10) (by decide +kernel) rfl ?_
          refine psem_ops ?_
          refine stq rfl ?_
          refine ps_nil ?_
          refine pt_nil (by decide +kernel) ?_
          refine x_norm ?_
          exact ⟨rfl,rfl,rfl,rfl,rfl,rfl,rfl,rfl,rfl,rfl,rfl,rfl,rfl,rfl,trivial⟩
        ·refine psem_ops ?_
         refine stq rfl ?_
         refine ps_nil ?_
         refine pt_one (i := 7) (by decide +kernel) rfl ?_
         refine psem_ops ?_
         refine stq rfl ?_
         refine ps_nil ?_
         refine pt_one (i := 9) (by decide +kernel) rfl ?_
         refine psem_ops ?_
         refine stq rfl ?_
         refine ps_nil ?_
         refine pt_one (i := 10) (by decide +kernel) rfl ?_
         refine psem_ops ?_
         refine stq rfl ?_
         refine ps_nil ?_
         refine pt_nil (by decide +kernel) ?_
         refine x_norm ?_
         exact ⟨rfl,rfl,rfl,rfl,rfl,rfl,rfl,rfl,rfl,rfl,rfl,rfl,rfl,rfl,trivial⟩
       ·refine psem_ops ?_
        refine stq rfl ?_
        refine ps_nil ?_
        refine pt_one (i := 3) (by decide +kernel) rfl ?_
        refine psem_ops ?_
        refine stq rfl ?_
        refine ps_nil ?_
        refine pt_one (i := 5) (by decide +kernel) rfl ?_
        refine psem_sm rfl (post_inlX (g1 := g1) (g2 := g2) (g3 := g3) (g5 := g5) (g62 := g62) l hW p rfl rfl ⟨rfl,rfl,rfl,rfl,rfl,rfl,rfl,rfl,rfl,rfl,rfl,rfl,trivial⟩ (fun s2 hne => absurd hz hne) (fun s2 he => ?_))
        rw [hcl]
        refine psem_ops (ps_nil ?_)
        refine pt_one (i := 6) (by decide +kernel) rfl ?_
        refine psem_ops ?_
        refine stq rfl ?_
        refine ps_nil ?_
        refine pt_two (i := 7) (j := 8) (by decide +kernel) rfl rfl ?_ ?_
        ·refine psem_ops ?_
         refine stq rfl ?_
         refine ps_nil ?_
         refine pt_two (i := 8) (j := 9) (by decide +kernel) rfl rfl ?_ ?_
         ·refine psem_ops ?_
          refine stq rfl ?_
          refine ps_nil ?_
          refine pt_one (i := 9) (by decide +kernel) rfl ?_
          refine psem_ops ?_
          refine stq rfl ?_
          refine ps_nil ?_
          refine pt_one (i := 10) (by decide +kernel) rfl ?_
          refine psem_ops ?_
          refine stq rfl ?_
          refine ps_nil ?_
          refine pt_nil (by decide +kernel) ?_
          refine x_norm ?_
          exact ⟨rfl,rfl,rfl,rfl,rfl,rfl,rfl,rfl,rfl,rfl,rfl,rfl,rfl,rfl,trivial⟩
         ·refine psem_ops ?_
          refine stq rfl ?_
          refine ps_nil ?_
          refine pt_one (i := 8) (by decide +kernel) rfl ?_
          refine psem_ops ?_
          refine stq rfl ?_
          refine ps_nil ?_
          refine pt_one (i := 10) (by decide +kernel) rfl ?_
          refine psem_ops ?_
          refine stq rfl ?_
          refine ps_nil ?_
          refine pt_nil (by decide +kernel) ?_
          refine x_norm ?_
          exact ⟨rfl,rfl,rfl,rfl,rfl,rfl,rfl,rfl,rfl,rfl,rfl,rfl,rfl,rfl,trivial⟩
        ·refine psem_ops ?_
         refine stq rfl ?_
         refine ps_nil ?_
         refine pt_one (i := 7) (by decide +kernel) rfl ?_
         refine psem_ops ?_
         refine stq rfl ?_
         refine ps_nil ?_
         refine pt_one (i := 9) (by decide +kernel) rfl ?_
         refine psem_ops ?_
         refine stq rfl ?_
         refine ps_nil ?_
         refine pt_one (i := 10) (by decide +kernel) rfl ?_
         refine psem_ops ?_
         refine stq rfl ?_
         refine ps_nil ?_
         refine pt_nil (by decide +kernel) ?_
         refine x_norm ?_
         exact ⟨rfl,rfl,rfl,rfl,rfl,rfl,rfl,rfl,rfl,rfl,rfl,rfl,rfl,rfl,trivial⟩
      ·refine psem_ops ?_
       refine stq rfl ?_
       refine ps_nil ?_
       refine pt_one (i := 2) (by decide +kernel) rfl ?_
       refine psem_ops ?_
       refine stq rfl ?_
       refine ps_nil ?_
       refine pt_one (i := 3) (by decide +kernel) rfl ?_
       refine psem_ops ?_
       refine stq rfl ?_
       refine ps_nil ?_
       refine pt_one (i := 5) (by decide +kernel) rfl ?_
       refine psem_sm rfl (post_inlX (g1 := g1) (g2 := g2) (g3 := g3) (g5 := g5) (g62 := g62) l hW p rfl rfl ⟨rfl,rfl,rfl,rfl,rfl,rfl,rfl,rfl,rfl,rfl,rfl,rfl,trivial⟩ (fun s2 hne => absurd hz hne) (fun s2 he => ?_))
       rw [hcl]
       refine psem_ops (ps_nil ?_)
       refine pt_one (i := 6) (by decide +kernel) rfl ?_
       refine psem_ops ?_
       refine stq rfl ?_
       refine ps_nil ?_
       refine pt_two (i := 7) (j := 8) (by decide +kernel) rfl rfl ?_ ?_
       ·refine psem_ops ?_
        refine stq rfl ?_
        refine ps_nil ?_
        refine pt_two (i := 8) (j := 9) (by decide +kernel) rfl rfl ?_ ?_
        ·refine psem_ops ?_
         refine stq rfl ?_
         refine ps_nil ?_
         refine pt_one (i := 9) (by decide +kernel) rfl ?_
         refine psem_ops ?_
         refine stq rfl ?_
         refine ps_nil ?_
         refine pt_one (i := 10) (by decide +kernel) rfl ?_
         refine psem_ops ?_
         refine stq rfl ?_
         refine ps_nil ?_
         refine pt_nil (by decide +kernel) ?_
         refine x_norm ?_
         exact ⟨rfl,rfl,rfl,rfl,rfl,rfl,rfl,rfl,rfl,rfl,rfl,rfl,rfl,rfl,trivial⟩
        ·refine psem_ops ?_
         refine stq rfl ?_
         refine ps_nil ?_
         refine pt_one (i := 8) (by decide +kernel) rfl ?_
         refine psem_ops ?_
         refine stq rfl ?_
         refine ps_nil ?_
         refine pt_one (i := 10) (by decide +kernel) rfl ?_
         refine psem_ops ?_
         refine stq rfl ?_
         refine ps_nil ?_
         refine pt_nil (by decide +kernel) ?_
         refine x_norm ?_
         exact ⟨rfl,rfl,rfl,rfl,rfl,rfl,rfl,rfl,rfl,rfl,rfl,rfl,rfl,rfl,trivial⟩
       ·refine psem_ops ?_
        refine stq rfl ?_
        refine ps_nil ?_
        refine pt_one (i := 7) (by decide +kernel) rfl ?_
        refine psem_ops ?_
        refine stq rfl ?_
        refine ps_nil ?_
        refine pt_one (i := 9) (by decide +kernel) rfl ?_
        refine psem_ops ?_
        refine stq rfl ?_
        refine ps_nil ?_
        refine pt_one (i := 10) (by decide +kernel) rfl ?_
        refine psem_ops ?_
        refine stq rfl ?_
        refine ps_nil ?_
        refine pt_nil (by decide +kernel) ?_
        refine x_norm ?_
        exact ⟨rfl,rfl,rfl,rfl,rfl,rfl,rfl,rfl,rfl,rfl,rfl,rfl,rfl,rfl,trivial⟩
     ·refine psem_ops ?_
      refine stq rfl ?_
      refine ps_nil ?_
      refine pt_one (i := 1) (by decide +kernel) rfl ?_
      refine psem_ops ?_
      refine stq rfl ?_
      refine ps_nil ?_
      refine pt_one (i := 2) (by decide +kernel) rfl ?_
      refine psem_ops ?_
      refine stq rfl ?_
      refine ps_nil ?_
      refine pt_one (i := 3) (by decide +kernel) rfl ?_
      refine psem_ops ?_
      refine stq rfl ?_
      refine ps_nil ?_
      refine pt_one (i := 5) (by decide +kernel) rfl ?_
      refine psem_sm rfl (post_inlX (g1 := g1) (g2 := g2) (g3 := g3) (g5 := g5) (g62 := g62) l hW p rfl rfl ⟨rfl,rfl,rfl,rfl,rfl,rfl,rfl,rfl,rfl,rfl,rfl,rfl,trivial⟩ (fun s2 hne => absurd hz hne) (fun s2 he => ?_))
      rw [hcl]
      refine psem_ops (ps_nil ?_)
      refine pt_one (i := 6) (by decide +kernel) rfl ?_
      refine psem_ops ?_
      refine stq rfl ?_
      refine ps_nil ?_
      refine pt_two (i := 7) (j := 8) (by decide +kernel) rfl rfl ?_ ?_
      ·refine psem_ops ?_
       refine stq rfl ?_
       refine ps_nil ?_
       refine pt_two (i := 8) (j := 9) (by decide +kernel) rfl rfl ?_ ?_
       ·refine psem_ops ?_
        refine stq rfl ?_
        refine ps_nil ?_
        refine pt_one (i := 9) (by decide +kernel) rfl ?_
        refine psem_ops ?_
        refine stq rfl ?_
        refine ps_nil ?_
        refine pt_one (i := 10) (by decide +kernel) rfl ?_
        refine psem_ops ?_
        refine stq rfl ?_
        refine ps_nil ?_
        refine pt_nil (by decide +kernel) ?_
        refine x_norm ?_
        exact ⟨rfl,rfl,rfl,rfl,rfl,rfl,rfl,rfl,rfl,rfl,rfl,rfl,rfl,rfl,trivial⟩
       ·refine psem_ops ?_
        refine stq rfl ?_
        refine ps_nil ?_
        refine pt_one (i := 8) (by decide +kernel) rfl ?_
        refine psem_ops ?_
        refine stq rfl ?_
        refine ps_nil ?_
        refine pt_one (i := 10) (by decide +kernel) rfl ?_
        refine psem_ops ?_
        refine stq rfl ?_
        refine ps_nil ?_
        refine pt_nil (by decide +kernel) ?_
        refine x_norm ?_
        exact ⟨rfl,rfl,rfl,rfl,rfl,rfl,rfl,rfl,rfl,rfl,rfl,rfl,rfl,rfl,trivial⟩
      ·refine psem_ops ?_
       refine stq rfl ?_
       refine ps_nil ?_
       refine pt_one (i := 7) (by decide +kernel) rfl ?_
       refine psem_ops ?_
       refine stq rfl ?_
       refine ps_nil ?_
       refine pt_one (i := 9) (by decide +kernel) rfl ?_
       refine psem_ops ?_
       refine stq rfl ?_
       refine ps_nil ?_
       refine pt_one (i := 10) (by decide +kernel) rfl ?_
       refine psem_ops ?_
       refine stq rfl ?_
       refine ps_nil ?_
       refine pt_nil (by decide +kernel) ?_
       refine x_norm ?_
       exact ⟨rfl,rfl,rfl,rfl,rfl,rfl,rfl,rfl,rfl,rfl,rfl,rfl,rfl,rfl,trivial⟩
    ·refine psem_ops ?_
     refine stq rfl ?_
     refine ps_nil ?_
     refine pt_one (i := 0) (by decide +kernel) rfl ?_
     refine psem_ops ?_
     refine stq rfl ?_
     refine ps_nil ?_
     refine pt_one (i := 1) (by decide +kernel) rfl ?_
     refine psem_ops ?_
     refine stq rfl ?_
     refine ps_nil ?_
     refine pt_one (i := 2) (by decide +kernel) rfl ?_
     refine psem_ops ?_
     refine stq rfl ?_
     refine ps_nil ?_
     refine pt_one (i := 3) (by decide +kernel) rfl ?_
     refine psem_ops ?_
     refine stq rfl ?_
     refine ps_nil ?_
     refine pt_one (i := 5) (by decide +kernel) rfl ?_
     refine psem_sm rfl (post_inlX (g1 := g1) (g2 := g2) (g3 := g3) (g5 := g5) (g62 := g62) l hW p rfl rfl ⟨rfl,rfl,rfl,rfl,rfl,rfl,rfl,rfl,rfl,rfl,rfl,rfl,trivial⟩ (fun s2 hne => absurd hz hne) (fun s2 he => ?_))
     rw [hcl]
     refine psem_ops (ps_nil ?_)
     refine pt_one (i := 6) (by decide +kernel) rfl ?_
     refine psem_ops ?_
     refine stq rfl ?_
     refine ps_nil ?_
     refine pt_two (i := 7) (j := 8) (by decide +kernel) rfl rfl ?_ ?_
     ·refine psem_ops ?_
      refine stq rfl ?_
      refine ps_nil ?_
      refine pt_two (i := 8) (j := 9) (by decide +kernel) rfl rfl ?_ ?_
      ·refine psem_ops ?_
       refine stq rfl ?_
       refine ps_nil ?_
       refine pt_one (i := 9) (by decide +kernel) rfl ?_
       refine psem_ops ?_
       refine stq rfl ?_
       refine ps_nil ?_
       refine pt_one (i := 10) (by decide +kernel) rfl ?_
       refine psem_ops ?_
       refine stq rfl ?_
       refine ps_nil ?_
       refine pt_nil (by decide +kernel) ?_
       refine x_norm ?_
       exact ⟨rfl,rfl,rfl,rfl,rfl,rfl,rfl,rfl,rfl,rfl,rfl,rfl,rfl,rfl,trivial⟩
      ·refine psem_ops ?_
       refine stq rfl ?_
       refine ps_nil ?_
       refine pt_one (i := 8) (by decide +kernel) rfl ?_
       refine psem_ops ?_
       refine stq rfl ?_
       refine ps_nil ?_
       refine pt_one (i := 10) (by decide +kernel) rfl ?_
       refine psem_ops ?_
       refine stq rfl ?_
       refine ps_nil ?_
       refine pt_nil (by decide +kernel) ?_
       refine x_norm ?_
       exact ⟨rfl,rfl,rfl,rfl,rfl,rfl,rfl,rfl,rfl,rfl,rfl,rfl,rfl,rfl,trivial⟩
     ·refine psem_ops ?_
      refine stq rfl ?_
      refine ps_nil ?_
      refine pt_one (i := 7) (by decide +kernel) rfl ?_
      refine psem_ops ?_
      refine stq rfl ?_
      refine ps_nil ?_
      refine pt_one (i := 9) (by decide +kernel) rfl ?_
      refine psem_ops ?_
      refine stq rfl ?_
      refine ps_nil ?_
      refine pt_one (i := 10) (by decide +kernel) rfl ?_
      refine psem_ops ?_
      refine stq rfl ?_
      refine ps_nil ?_
      refine pt_nil (by decide +kernel) ?_
      refine x_norm ?_
      exact ⟨rfl,rfl,rfl,rfl,rfl,rfl,rfl,rfl,rfl,rfl,rfl,rfl,rfl,rfl,trivial⟩
   intro s2
   repeat refine stx rfl ?_
   refine qst rfl rfl (q_cp rfl hi rfl rfl rfl) ?_
   refine ps_v rfl ?_ ?_
   ·first | omega | (simp only [List.length_append,List.length_cons,List.length_nil];omega)
   repeat refine stx rfl ?_
   refine qst rfl rfl (q_cp rfl han rfl rfl rfl) ?_
   repeat refine stq rfl ?_
   exact fin _ _ (.inl rfl) rfl ⟨rfl,rfl,rfl,rfl,rfl,rfl,rfl,rfl,rfl,rfl,rfl,rfl,trivial⟩
  ·rw [if_neg hz,if_neg hz] at fin
   have hi := itoa_ret 0 (by decide) (by decide)
   have hil := itoa_mid (v := 0) ⟨by decide,by decide⟩
   have hem := refusal_mid l p
   have han := answered_ret ([101,110,116,114,121,32] ++ Lib.itoa 0) _ hem
   rw [answT,if_neg hz] at han
   rw [answT_err hz] at fin
   generalize Lib.itoa 0 = D at *
   repeat refine stq rfl ?_
   refine qst rfl rfl (q_cf rfl hpar rfl rfl) ?_
   repeat refine stq rfl ?_
   refine pw_cutN [(7,I 0),(8,I (refusalR l p))] (bkX q0 q1 q2 q3 q4 q5 q6 x0 (dskC g5) x2 x3 x4 x5 x6 g1 g2 g3 g5 g62 l) ?_ ?_
   ·refine pw_tree ?_
    refine pt_two (i := 0) (j := 4) (by decide +kernel) rfl rfl ?_ ?_
    ·refine psem_ops ?_
     refine stq rfl ?_
     refine ps_nil ?_
     refine pt_two (i := 1) (j := 4) (by decide +kernel) rfl rfl ?_ ?_
     ·refine psem_ops ?_
      refine stq rfl ?_
      refine ps_nil ?_
      refine pt_two (i := 2) (j := 4) (by decide +kernel) rfl rfl ?_ ?_
      ·refine psem_ops ?_
       refine stq rfl ?_
       refine ps_nil ?_
       refine pt_two (i := 3) (j := 4) (by decide +kernel) rfl rfl ?_ ?_
       ·refine psem_ops ?_
        refine stq rfl ?_
        refine ps_nil ?_
        refine pt_one (i := 4) (by decide +kernel) rfl ?_
        refine psem_ops ?_
        refine stq rfl ?_
        refine ps_nil ?_
        refine pt_one (i := 5) (by decide +kernel) rfl ?_
        refine psem_sm rfl (post_inlX (g1 := g1) (g2 := g2) (g3 := g3) (g5 := g5) (g62 := g62) l hW p rfl rfl ⟨rfl,rfl,rfl,rfl,rfl,rfl,rfl,rfl,rfl,rfl,rfl,rfl,trivial⟩ (fun s2 hne => ?_) (fun s2 he => absurd he hz))
        refine psem_ops (ps_nil ?_)
        refine pt_one (i := 6) (by decide +kernel) rfl ?_
        refine psem_ops ?_
        refine stq rfl ?_
        refine ps_nil ?_
        refine pt_two (i := 7) (j := 8) (by decide +kernel) rfl rfl ?_ ?_
        ·refine psem_ops ?_
         refine stq rfl ?_
         refine ps_nil ?_
         refine pt_two (i := 8) (j := 9) (by decide +kernel) rfl rfl ?_ ?_
         ·refine psem_ops ?_
          refine stq rfl ?_
          refine ps_nil ?_
          refine pt_one (i := 9) (by decide +kernel) rfl ?_
          refine psem_ops ?_
          refine stq rfl ?_
          refine ps_nil ?_
          refine pt_one (i := 10) (by decide +kernel) rfl ?_
          refine psem_ops ?_
          refine stq rfl ?_
          refine ps_nil ?_
          refine pt_nil (by decide +kernel) ?_
          refine x_norm ?_
          exact ⟨rfl,rfl,rfl,rfl,rfl,rfl,rfl,rfl,rfl,rfl,rfl,rfl,rfl,rfl,trivial⟩
         ·refine psem_ops ?_
          refine stq rfl ?_
          refine ps_nil ?_
          refine pt_one (i := 8) (by decide +kernel) rfl ?_
          refine psem_ops ?_
          refine stq rfl ?_
          refine ps_nil ?_
          refine pt_one (i := 10) (by decide +kernel) rfl ?_
          refine psem_ops ?_
          refine stq rfl ?_
          refine ps_nil ?_
          refine pt_nil (by decide +kernel) ?_
          refine x_norm ?_
          exact ⟨rfl,rfl,rfl,rfl,rfl,rfl,rfl,rfl,rfl,rfl,rfl,rfl,rfl,rfl,trivial⟩
        ·refine psem_ops ?_
         refine stq rfl ?_
         refine ps_nil ?_
         refine pt_one (i := 7) (by decide +kernel) rfl ?_
         refine psem_ops ?_
         refine stq rfl ?_
         refine ps_nil ?_
         refine pt_one (i := 9) (by decide +kernel) rfl ?_
         refine psem_ops ?_
         refine stq rfl ?_
         refine ps_nil ?_
         refine pt_one (i := 10) (by decide +kernel) rfl ?_
         refine psem_ops ?_
         refine stq rfl ?_
         refine ps_nil ?_
         refine pt_nil (by decide +kernel) ?_
         refine x_norm ?_
         exact ⟨rfl,rfl,rfl,rfl,rfl,rfl,rfl,rfl,rfl,rfl,rfl,rfl,rfl,rfl,trivial⟩
       ·refine psem_ops ?_
        refine stq rfl ?_
        refine ps_nil ?_
        refine pt_one (i := 3) (by decide +kernel) rfl ?_
        refine psem_ops ?_
        refine stq rfl ?_
        refine ps_nil ?_
        refine pt_one (i := 5) (by decide +kernel) rfl ?_
        refine psem_sm rfl (post_inlX (g1 := g1) (g2 := g2) (g3 := g3) (g5 := g5) (g62 := g62) l hW p rfl rfl ⟨rfl,rfl,rfl,rfl,rfl,rfl,rfl,rfl,rfl,rfl,rfl,rfl,trivial⟩ (fun s2 hne => ?_) (fun s2 he => absurd he hz))
        refine psem_ops (ps_nil ?_)
        refine pt_one (i := 6) (by decide +kernel) rfl ?_
        refine psem_ops ?_
        refine stq rfl ?_
        refine ps_nil ?_
        refine pt_two (i := 7) (j := 8) (by decide +kernel) rfl rfl ?_ ?_
        ·refine psem_ops ?_
         refine stq rfl ?_
         refine ps_nil ?_
         refine pt_two (i := 8) (j := 9) (by decide +kernel) rfl rfl ?_ ?_
         ·refine psem_ops ?_
          refine stq rfl ?_
          refine ps_nil ?_
          refine pt_one (i := 9) (by decide +kernel) rfl ?_
          refine psem_ops ?_
          refine stq rfl ?_
          refine ps_nil ?_
          refine pt_one (i := 10) (by decide +kernel) rfl ?_
          refine psem_ops ?_
          refine stq rfl ?_
          refine ps_nil ?_
          refine pt_nil (by decide +kernel) ?_
          refine x_norm ?_
          exact ⟨rfl,rfl,rfl,rfl,rfl,rfl,rfl,rfl,rfl,rfl,rfl,rfl,rfl,rfl,trivial⟩
         ·refine psem_ops ?_
          refine stq rfl ?_
          refine ps_nil ?_
          refine pt_one (i := 8) (by decide +kernel) rfl ?_
          refine psem_ops ?_
          refine stq rfl ?_
          refine ps_nil ?_
          refine pt_one (i := 10) (by decide +kernel) rfl ?_
          refine psem_ops ?_
          refine stq rfl ?_
          refine ps_nil ?_
          refine pt_nil (by decide +kernel) ?_
          refine x_norm ?_
          exact ⟨rfl,rfl,rfl,rfl,rfl,rfl,rfl,rfl,rfl,rfl,rfl,rfl,rfl,rfl,trivial⟩
        ·refine psem_ops ?_
         refine stq rfl ?_
         refine ps_nil ?_
         refine pt_one (i := 7) (by decide +kernel) rfl ?_
         refine psem_ops ?_
         refine stq rfl ?_
         refine ps_nil ?_
         refine pt_one (i := 9) (by decide +kernel) rfl ?_
         refine psem_ops ?_
         refine stq rfl ?_
         refine ps_nil ?_
         refine pt_one (i := 10) (by decide +kernel) rfl ?_
         refine psem_ops ?_
         refine stq rfl ?_
         refine ps_nil ?_
         refine pt_nil (by decide +kernel) ?_
         refine x_norm ?_
         exact ⟨rfl,rfl,rfl,rfl,rfl,rfl,rfl,rfl,rfl,rfl,rfl,rfl,rfl,rfl,trivial⟩
      ·refine psem_ops ?_
       refine stq rfl ?_
       refine ps_nil ?_
       refine pt_one (i := 2) (by decide +kernel) rfl ?_
       refine psem_ops ?_
       refine stq rfl ?_
       refine ps_nil ?_
       refine pt_one (i := 3) (by decide +kernel) rfl ?_
       refine psem_ops ?_
       refine stq rfl ?_
       refine ps_nil ?_
       refine pt_one (i := 5) (by decide +kernel) rfl ?_
       refine psem_sm rfl (post_inlX (g1 := g1) (g2 := g2) (g3 := g3) (g5 := g5) (g62 := g62) l hW p rfl rfl ⟨rfl,rfl,rfl,rfl,rfl,rfl,rfl,rfl,rfl,rfl,rfl,rfl,trivial⟩ (fun s2 hne => ?_) (fun s2 he => absurd he hz))
       refine psem_ops (ps_nil ?_)
       refine pt_one (i := 6) (by decide +kernel) rfl ?_
       refine psem_ops ?_
       refine stq rfl ?_
       refine ps_nil ?_
       refine pt_two (i := 7) (j := 8) (by decide +kernel) rfl rfl ?_ ?_
       ·refine psem_ops ?_
        refine stq rfl ?_
        refine ps_nil ?_
        refine pt_two (i := 8) (j := 9) (by decide +kernel) rfl rfl ?_ ?_
        ·refine psem_ops ?_
         refine stq rfl ?_
         refine ps_nil ?_
         refine pt_one (i := 9) (by decide +kernel) rfl ?_
         refine psem_ops ?_
         refine stq rfl ?_
         refine ps_nil ?_
         refine pt_one (i := 10) (by decide +kernel) rfl ?_
         refine psem_ops ?_
         refine stq rfl ?_
         refine ps_nil ?_
         refine pt_nil (by decide +kernel) ?_
         refine x_norm ?_
         exact ⟨rfl,rfl,rfl,rfl,rfl,rfl,rfl,rfl,rfl,rfl,rfl,rfl,rfl,rfl,trivial⟩
        ·refine psem_ops ?_
         refine stq rfl ?_
         refine ps_nil ?_
         refine pt_one (i := 8) (by decide +kernel) rfl ?_
         refine psem_ops ?_
         refine stq rfl ?_
         refine ps_nil ?_
         refine pt_one (i := 10) (by decide +kernel) rfl ?_
         refine psem_ops ?_
         refine stq rfl ?_
         refine ps_nil ?_
         refine pt_nil (by decide +kernel) ?_
         refine x_norm ?_
         exact ⟨rfl,rfl,rfl,rfl,rfl,rfl,rfl,rfl,rfl,rfl,rfl,rfl,rfl,rfl,trivial⟩
       ·refine psem_ops ?_
        refine stq rfl ?_
        refine ps_nil ?_
        refine pt_one (i := 7) (by decide +kernel) rfl ?_
        refine psem_ops ?_
        refine stq rfl ?_
        refine ps_nil ?_
        refine pt_one (i := 9) (by decide +kernel) rfl ?_
        refine psem_ops ?_
        refine stq rfl ?_
        refine ps_nil ?_
        refine pt_one (i := 10) (by decide +kernel) rfl ?_
        refine psem_ops ?_
        refine stq rfl ?_
        refine ps_nil ?_
        refine pt_nil (by decide +kernel) ?_
        refine x_norm ?_
        exact ⟨rfl,rfl,rfl,rfl,rfl,rfl,rfl,rfl,rfl,rfl,rfl,rfl,rfl,rfl,trivial⟩
     ·refine psem_ops ?_
      refine stq rfl ?_
      refine ps_nil ?_
      refine pt_one (i := 1) (by decide +kernel) rfl ?_
      refine psem_ops ?_
      refine stq rfl ?_
      refine ps_nil ?_
      refine pt_one (i := 2) (by decide +kernel) rfl ?_
      refine psem_ops ?_
      refine stq rfl ?_
      refine ps_nil ?_
      refine pt_one (i := 3) (by decide +kernel) rfl ?_
      refine psem_ops ?_
      refine stq rfl ?_
      refine ps_nil ?_
      refine pt_one (i := 5) (by decide +kernel) rfl ?_
      refine psem_sm rfl (post_inlX (g1 := g1) (g2 := g2) (g3 := g3) (g5 := g5) (g62 := g62) l hW p rfl rfl ⟨rfl,rfl,rfl,rfl,rfl,rfl,rfl,rfl,rfl,rfl,rfl,rfl,trivial⟩ (fun s2 hne => ?_) (fun s2 he => absurd he hz))
      refine psem_ops (ps_nil ?_)
      refine pt_one (i := 6) (by decide +kernel) rfl ?_
      refine psem_ops ?_
      refine stq rfl ?_
      refine ps_nil ?_
      refine pt_two (i := 7) (j := 8) (by decide +kernel) rfl rfl ?_ ?_
      ·refine psem_ops ?_
       refine stq rfl ?_
       refine ps_nil ?_
       refine pt_two (i := 8) (j := 9) (by decide +kernel) rfl rfl ?_ ?_
       ·refine psem_ops ?_
        refine stq rfl ?_
        refine ps_nil ?_
        refine pt_one (i := 9) (by decide +kernel) rfl ?_
        refine psem_ops ?_
        refine stq rfl ?_
        refine ps_nil ?_
        refine pt_one (i := 10) (by decide +kernel) rfl ?_
        refine psem_ops ?_
        refine stq rfl ?_
        refine ps_nil ?_
        refine pt_nil (by decide +kernel) ?_
        refine x_norm ?_
        exact ⟨rfl,rfl,rfl,rfl,rfl,rfl,rfl,rfl,rfl,rfl,rfl,rfl,rfl,rfl,trivial⟩
       ·refine psem_ops ?_
        refine stq rfl ?_
        refine ps_nil ?_
        refine pt_one (i := 8) (by decide +kernel) rfl ?_
        refine psem_ops ?_
        refine stq rfl ?_
        refine ps_nil ?_
        refine pt_one (i := 10) (by decide +kernel) rfl ?_
        refine psem_ops ?_
        refine stq rfl ?_
        refine ps_nil ?_
        refine pt_nil (by decide +kernel) ?_
        refine x_norm ?_
        exact ⟨rfl,rfl,rfl,rfl,rfl,rfl,rfl,rfl,rfl,rfl,rfl,rfl,rfl,rfl,trivial⟩
      ·refine psem_ops ?_
       refine stq rfl ?_
       refine ps_nil ?_
       refine pt_one (i := 7) (by decide +kernel) rfl ?_
       refine psem_ops ?_
       refine stq rfl ?_
       refine ps_nil ?_
       refine pt_one (i := 9) (by decide +kernel) rfl ?_
       refine psem_ops ?_
       refine stq rfl ?_
       refine ps_nil ?_
       refine pt_one (i := 10) (by decide +kernel) rfl ?_
       refine psem_ops ?_
       refine stq rfl ?_
       refine ps_nil ?_
       refine pt_nil (by decide +kernel) ?_
       refine x_norm ?_
       exact ⟨rfl,rfl,rfl,rfl,rfl,rfl,rfl,rfl,rfl,rfl,rfl,rfl,rfl,rfl,trivial⟩
    ·refine psem_ops ?_
     refine stq rfl ?_
     refine ps_nil ?_
     refine pt_one (i := 0) (by decide +kernel) rfl ?_
     refine psem_ops ?_
     refine stq rfl ?_
     refine ps_nil ?_
     refine pt_one (i := 1) (by decide +kernel) rfl ?_
     refine psem_ops ?_
     refine stq rfl ?_
     refine ps_nil ?_
     refine pt_one (i := 2) (by decide +kernel) rfl ?_
     refine psem_ops ?_
     refine stq rfl ?_
     refine ps_nil ?_
     refine pt_one (i := 3) (by decide +kernel) rfl ?_
     refine psem_ops ?_
     refine stq rfl ?_
     refine ps_nil ?_
     refine pt_one (i := 5) (by decide +kernel) rfl ?_
     refine psem_sm rfl (post_inlX (g1 := g1) (g2 := g2) (g3 := g3) (g5 := g5) (g62 := g62) l hW p rfl rfl ⟨rfl,rfl,rfl,rfl,rfl,rfl,rfl,rfl,rfl,rfl,rfl,rfl,trivial⟩ (fun s2 hne => ?_) (fun s2 he => absurd he hz))
     refine psem_ops (ps_nil ?_)
     refine pt_one (i := 6) (by decide +kernel) rfl ?_
     refine psem_ops ?_
     refine stq rfl ?_
     refine ps_nil ?_
     refine pt_two (i := 7) (j := 8) (by decide +kernel) rfl rfl ?_ ?_
     ·refine psem_ops ?_
      refine stq rfl ?_
      refine ps_nil ?_
      refine pt_two (i := 8) (j := 9) (by decide +kernel) rfl rfl ?_ ?_
      ·refine psem_ops ?_
       refine stq rfl ?_
       refine ps_nil ?_
       refine pt_one (i := 9) (by decide +kernel) rfl ?_
       refine psem_ops ?_
       refine stq rfl ?_
       refine ps_nil ?_
       refine pt_one (i := 10) (by decide +kernel) rfl ?_
       refine psem_ops ?_
       refine stq rfl ?_
       refine ps_nil ?_
       refine pt_nil (by decide +kernel) ?_
       refine x_norm ?_
       exact ⟨rfl,rfl,rfl,rfl,rfl,rfl,rfl,rfl,rfl,rfl,rfl,rfl,rfl,rfl,trivial⟩
      ·refine psem_ops ?_
       refine stq rfl ?_
       refine ps_nil ?_
       refine pt_one (i := 8) (by decide +kernel) rfl ?_
       refine psem_ops ?_
       refine stq rfl ?_
       refine ps_nil ?_
       refine pt_one (i := 10) (by decide +kernel) rfl ?_
       refine psem_ops ?_
       refine stq rfl ?_
       refine ps_nil ?_
       refine pt_nil (by decide +kernel) ?_
       refine x_norm ?_
       exact ⟨rfl,rfl,rfl,rfl,rfl,rfl,rfl,rfl,rfl,rfl,rfl,rfl,rfl,rfl,trivial⟩
     ·refine psem_ops ?_
      refine stq rfl ?_
      refine ps_nil ?_
      refine pt_one (i := 7) (by decide +kernel) rfl ?_
      refine psem_ops ?_
      refine stq rfl ?_
      refine ps_nil ?_
      refine pt_one (i := 9) (by decide +kernel) rfl ?_
      refine psem_ops ?_
      refine stq rfl ?_
      refine ps_nil ?_
      refine pt_one (i := 10) (by decide +kernel) rfl ?_
      refine psem_ops ?_
      refine stq rfl ?_
      refine ps_nil ?_
      refine pt_nil (by decide +kernel) ?_
      refine x_norm ?_
      exact ⟨rfl,rfl,rfl,rfl,rfl,rfl,rfl,rfl,rfl,rfl,rfl,rfl,rfl,rfl,trivial⟩
   intro s2
   repeat refine stx rfl ?_
   refine qst rfl rfl (q_cp rfl hi rfl rfl rfl) ?_
   refine ps_v rfl ?_ ?_
   ·first | omega | (simp only [List.length_append,List.length_cons,List.length_nil];omega)
   repeat refine stx rfl ?_
   refine qst rfl rfl (q_cp rfl han rfl rfl rfl) ?_
   repeat refine stq rfl ?_
   exact fin _ _ (.inl rfl) rfl ⟨rfl,rfl,rfl,rfl,rfl,rfl,rfl,rfl,rfl,rfl,rfl,rfl,trivial⟩
 |none =>
  rw [hp] at hpar fin
  dsimp only at fin
  have hE : FitO (callSt (s.over [] (bkX q0 q1 q2 q3 q4 q5 q6 x0 (dskC g5) x2 x3 x4 x5 x6 g1 g2 g3 g5 g62 l)) [.ptr 2001 q1 0 0,.str line]) (bkX q0 q1 q2 q3 q4 q5 q6 x0 (dskC g5) x2 x3 x4 x5 x6 g1 g2 g3 g5 g62 l) := ⟨rfl,rfl,rfl,rfl,rfl,rfl,rfl,rfl,rfl,rfl,rfl,rfl,trivial⟩
  by_cases c1 : line = restW
  ·rw [askT,if_pos c1] at fin
   have hr := rest_ret l hA
   have hrl := rest_len400 hA
   have hi := itoa_ret ((restL l).length : Int) (by omega) (by omega)
   have hrm : (((restL l).map ePost).length : Int) = (restL l).length := by simp
   generalize restL l = R at *
   repeat refine stq rfl ?_
   refine qst rfl rfl (q_cf rfl hpar rfl rfl) ?_
   repeat refine stq rfl ?_
   refine pw_cond rfl (fun h => ?_) (fun h => ?_)
   ·repeat refine stq rfl ?_
    refine qst rfl rfl (q_cf rfl hr rfl rfl) ?_
    repeat refine stq rfl ?_
    rw [hrm]
    refine qst rfl rfl (q_cp rfl hi rfl rfl rfl) ?_
    repeat refine stq rfl ?_
    exact fin _ _ (.inl rfl) rfl ⟨rfl,rfl,rfl,rfl,rfl,rfl,rfl,rfl,rfl,rfl,rfl,rfl,trivial⟩
   ·exact absurd c1 (of_decide_eq_false h)
  by_cases c2 : line = journalW
  ·rw [askT,if_neg c1,if_pos c2] at fin
   have hj := journal_ret l hA.fine (by omega)
   have hjl := (jrn_fine hA.fine l.length (Nat.le_refl _)).2.2
   rw [List.take_length] at hjl
   have hi := itoa_ret ((jrnF l).1.length : Int) (by omega) (by omega)
   generalize (jrnF l).1 = J at *
   repeat refine stq rfl ?_
   refine qst rfl rfl (q_cf rfl hpar rfl rfl) ?_
   repeat refine stq rfl ?_
   refine pw_cond rfl (fun h => ?_) (fun h => ?_)
   ·exact absurd (of_decide_eq_true h) c1
   clear h
   repeat refine stq rfl ?_
   refine pw_cond rfl (fun h => ?_) (fun h => ?_)
   ·repeat refine stq rfl ?_
    refine qst rfl rfl (q_cp rfl hj rfl rfl rfl) ?_
    repeat refine stq rfl ?_
    refine qst rfl rfl (q_cp rfl hi rfl rfl rfl) ?_
    repeat refine stq rfl ?_
    exact fin _ _ (.inl rfl) rfl ⟨rfl,rfl,rfl,rfl,rfl,rfl,rfl,rfl,rfl,rfl,rfl,rfl,trivial⟩
   ·exact absurd c2 (of_decide_eq_false h)
  rw [askT,if_neg c1,if_neg c2] at fin
  have hcut := cut_mark line [32] (by omega)
  have hrl := cut_le2 line
  generalize Lib.cut line [32] = cc at *
  obtain ⟨w,r,fl⟩ := cc
  dsimp only at hcut hrl fin
  have hnm := isName_ret r
  have hat := account_txt l hA r
  have hbt := balance_txt l hA r
  repeat refine stq rfl ?_
  refine qst rfl rfl (q_cf rfl hpar rfl rfl) ?_
  repeat refine stq rfl ?_
  refine pw_cond rfl (fun h => ?_) (fun h => ?_)
  ·exact absurd (of_decide_eq_true h) c1
  clear h
  repeat refine stq rfl ?_
  refine pw_cond rfl (fun h => ?_) (fun h => ?_)
  ·exact absurd (of_decide_eq_true h) c2
  clear h
  repeat refine stq rfl ?_
  refine qst rfl rfl (q_cp rfl hcut rfl rfl rfl) ?_
  ((repeat ((fail_if_success (with_reducible refine pw_at 13 ?_));refine stx rfl ?_));refine pw_regionS 1 ?_)
  refine stq rfl ?_
  refine ps_nil ?_
  refine psem_sm rfl (number_inl r (by omega) rfl (fun n b hb1 hb0 => ?_))
  refine psem_ops ?_
  have htt := trace_txt l hO n
  have hlt := alive_txt l hO n
  by_cases a1 : w = accountW
  ·subst a1
   rw [askW_account] at fin
   cases hq : isName r with
   |true =>
    rw [hq] at hnm
    rw [hq,if_pos rfl] at fin
    repeat refine stq rfl ?_
    refine qst rfl rfl (q_cp rfl hnm rfl rfl rfl) ?_
    repeat refine stq rfl ?_
    refine qst rfl rfl (q_cp rfl hat rfl rfl rfl) ?_
    repeat refine stq rfl ?_
    exact fin _ _ (.inl rfl) rfl ⟨rfl,rfl,rfl,rfl,rfl,rfl,rfl,rfl,rfl,rfl,rfl,rfl,trivial⟩
   |false =>
    rw [hq] at hnm
    rw [hq,if_neg (by simp)] at fin
    repeat refine stq rfl ?_
    refine qst rfl rfl (q_cp rfl hnm rfl rfl rfl) ?_
    repeat refine stq rfl ?_
    exact fin _ _ (.inl rfl) rfl ⟨rfl,rfl,rfl,rfl,rfl,rfl,rfl,rfl,rfl,rfl,rfl,rfl,trivial⟩
  by_cases a2 : w = balanceW
  ·subst a2
   rw [askW_balance] at fin
   cases hq : isName r with
   |true =>
    rw [hq] at hnm
    rw [hq,if_pos rfl] at fin
    repeat refine stq rfl ?_
    refine qst rfl rfl (q_cp rfl hnm rfl rfl rfl) ?_
    repeat refine stq rfl ?_
    refine qst rfl rfl (q_cp rfl hbt rfl rfl rfl) ?_
    repeat refine stq rfl ?_
    exact fin _ _ (.inl rfl) rfl ⟨rfl,rfl,rfl,rfl,rfl,rfl,rfl,rfl,rfl,rfl,rfl,rfl,trivial⟩
   |false =>
    rw [hq] at hnm
    rw [hq,if_neg (by simp)] at fin
    repeat refine stq rfl ?_
    refine qst rfl rfl (q_cp rfl hnm rfl rfl rfl) ?_
    repeat refine stq rfl ?_
    exact fin _ _ (.inl rfl) rfl ⟨rfl,rfl,rfl,rfl,rfl,rfl,rfl,rfl,rfl,rfl,rfl,rfl,trivial⟩
  by_cases a3 : w = traceW
  ·subst a3
   rw [askW_trace] at fin
   cases b with
   |true =>
    rw [hb1 rfl] at fin
    dsimp only at fin
    repeat refine stq rfl ?_
    refine qst rfl rfl (q_cp rfl htt rfl rfl rfl) ?_
    repeat refine stq rfl ?_
    exact fin _ _ (.inl rfl) rfl ⟨rfl,rfl,rfl,rfl,rfl,rfl,rfl,rfl,rfl,rfl,rfl,rfl,trivial⟩
   |false =>
    rw [hb0 rfl] at fin
    dsimp only at fin
    repeat refine stq rfl ?_
    exact fin _ _ (.inl rfl) rfl ⟨rfl,rfl,rfl,rfl,rfl,rfl,rfl,rfl,rfl,rfl,rfl,rfl,trivial⟩
  by_cases a4 : w = liveW
  ·subst a4
   rw [askW_live] at fin
   cases b with
   |true =>
    rw [hb1 rfl] at fin
    dsimp only at fin
    repeat refine stq rfl ?_
    refine qst rfl rfl (q_cp rfl hlt rfl rfl rfl) ?_
    repeat refine stq rfl ?_
    exact fin _ _ (.inl rfl) rfl ⟨rfl,rfl,rfl,rfl,rfl,rfl,rfl,rfl,rfl,rfl,rfl,rfl,trivial⟩
   |false =>
    rw [hb0 rfl] at fin
    dsimp only at fin
    repeat refine stq rfl ?_
    exact fin _ _ (.inl rfl) rfl ⟨rfl,rfl,rfl,rfl,rfl,rfl,rfl,rfl,rfl,rfl,rfl,rfl,trivial⟩
  rw [askW_off a1 a2 a3 a4] at fin
  repeat refine stq rfl ?_
  (first|refine ps_split rfl rfl ?_ ?_|refine pq_split rfl rfl ?_ ?_|refine p3_split rfl rfl ?_ ?_)<;>intro h
  ·exact absurd (of_decide_eq_true h) a1
  clear h
  repeat refine stq rfl ?_
  (first|refine ps_split rfl rfl ?_ ?_|refine pq_split rfl rfl ?_ ?_|refine p3_split rfl rfl ?_ ?_)<;>intro h
  ·exact absurd (of_decide_eq_true h) a2
  clear h
  repeat refine stq rfl ?_
  (first|refine ps_split rfl rfl ?_ ?_|refine pq_split rfl rfl ?_ ?_|refine p3_split rfl rfl ?_ ?_)<;>intro h
  ·exact absurd (of_decide_eq_true h) a3
  clear h
  repeat refine stq rfl ?_
  (first|refine ps_split rfl rfl ?_ ?_|refine pq_split rfl rfl ?_ ?_|refine p3_split rfl rfl ?_ ?_)<;>intro h
  ·exact absurd (of_decide_eq_true h) a4
  clear h
  repeat refine stq rfl ?_
  exact fin _ _ (.inl rfl) rfl ⟨rfl,rfl,rfl,rfl,rfl,rfl,rfl,rfl,rfl,rfl,rfl,rfl,trivial⟩
end Go.Pv


set_option maxHeartbeats 2000000
namespace Go.Pv
attribute [local irreducible] PWP POps PQuiet PSem XThen XBlock RetPost InlPost
open Go.Proofs Go.RowKit
def trimN (p : Str) : Str := if p.getLast? = some 10 then p.dropLast else p
theorem trim_len (p : Str) : (trimN p).length ≤ p.length := by
 rw [trimN];split <;> simp
theorem suffix_ret (p : Str) (hp : p.length ≤ 1000000) : Ret Tryz.prog .shared 177 [.str p,.str [10]] (.bool (decide (p.getLast? = some 10))) := by
 by_cases h0 : p.length = 0
 ·have : p = [] := List.eq_nil_of_length_eq_zero h0
  subst this
  refine Ret.of_pwp layOk mixed Go.Proofs.Tryz.func177 rfl (by decide) rfl rfl ?_
  repeat refine stq rfl ?_
  exact end1b rfl rfl rfl
 ·have hd : p.drop (p.length - 1) = [p.getLast?.getD 0] := by
   have h1 : p[p.length - 1]? = p.getLast? := by rw [List.getLast?_eq_getElem?]
   have := List.drop_eq_getElem?_toList_append (l := p) (i := p.length - 1)
   rw [h1] at this
   obtain ⟨c,hc⟩ : ∃ c,p.getLast? = some c := by
    rw [← h1];exact get_lt (by omega)
   rw [this,hc,List.drop_of_length_le (by omega)];rfl
  obtain ⟨c,hc⟩ : ∃ c,p.getLast? = some c := by
   rw [List.getLast?_eq_getElem?];exact get_lt (by omega)
  have hw : IntKind.wrap .i64 ((p.length : Int) - (([10] : Str).length : Nat)) = ((p.length - 1 : Nat) : Int) := by
   rw [wrap_i64 (by simp;omega) (by simp;omega)];simp;omega
  refine Ret.of_pwp layOk mixed Go.Proofs.Tryz.func177 rfl (by decide) rfl rfl ?_
  repeat refine stq rfl ?_
  (first|refine ps_split rfl rfl ?_ ?_|refine pq_split rfl rfl ?_ ?_|refine p3_split rfl rfl ?_ ?_)<;>intro h
  rotate_left
  ·exact absurd (of_decide_eq_false h) (by simp;omega)
  clear h
  repeat refine stq rfl ?_
  rw [hw]
  refine qst rfl rfl (q_ssT layOk rfl rfl rfl rfl (by omega) (by omega)) ?_
  rw [Int.toNat_natCast,hd,hc]
  repeat refine stq rfl ?_
  exact end1b rfl rfl (by simp)
theorem trimS_ret (p : Str) (hp : p.length ≤ 1000000) : Ret Tryz.prog .shared 151 [.str p,.str [10]] (.str (trimN p)) := by
 have h1 := suffix_ret p hp
 rw [trimN]
 by_cases hc : p.getLast? = some 10
 ·rw [if_pos hc]
  rw [decide_eq_true hc] at h1
  have hl : p.length ≠ 0 := fun e => by rw [List.eq_nil_of_length_eq_zero e] at hc;cases hc
  have hw : IntKind.wrap .i64 ((p.length : Int) - (([10] : Str).length : Nat)) = ((p.length - 1 : Nat) : Int) := by
   rw [wrap_i64 (by simp;omega) (by simp;omega)];simp;omega
  refine Ret.of_pwp layOk mixed Go.Proofs.Tryz.func151 rfl (by decide) rfl rfl ?_
  repeat refine stq rfl ?_
  refine qst rfl rfl (q_cp rfl h1 rfl rfl rfl) ?_
  repeat refine stq rfl ?_
  rw [hw]
  refine qst rfl rfl (q_ssH layOk rfl rfl rfl rfl (by omega) (by omega)) ?_
  rw [Int.toNat_natCast,← List.dropLast_eq_take]
  repeat refine stq rfl ?_
  exact end1 rfl rfl rfl trivial rfl
 ·rw [if_neg hc]
  rw [decide_eq_false hc] at h1
  refine Ret.of_pwp layOk mixed Go.Proofs.Tryz.func151 rfl (by decide) rfl rfl ?_
  repeat refine stq rfl ?_
  refine qst rfl rfl (q_cp rfl h1 rfl rfl rfl) ?_
  repeat refine stq rfl ?_
  exact end1 rfl rfl rfl trivial rfl
theorem trim_ret (p : Str) (hp : p.length ≤ 1000000) : Ret Tryz.prog .shared 114 [.str p,.str [10]] (.str (trimN p)) := by
 have h1 := trimS_ret p hp
 refine Ret.of_pwp layOk mixed Go.Proofs.Tryz.func114 rfl (by decide) rfl rfl ?_
 repeat refine stq rfl ?_
 refine qst rfl rfl (q_cp rfl h1 rfl rfl rfl) ?_
 repeat refine stq rfl ?_
 exact end1 rfl rfl rfl trivial rfl
theorem ansT_len {l : List SPost} (hA : Acc l) (line : Str) : (ansT l line).length ≤ 60000 := by
 have hll := hA.ok.wf.len
 have mid : ∀ n : Int,Mid n → (answT [] n).length ≤ 60000 := fun n hn => by
  rw [answT]
  split
  ·simp
  ·have := itoa_mid hn;simp;omega
 have hac : ∀ o,(acctT l o).length ≤ 60000 := fun o => by
  rw [acctT]
  split
  ·split
   ·decide
   ·obtain ⟨h1,h2⟩ := accP_fine hA o
    have := join_all_len (xs := (accP l o).map accX) (B := 126) [59,32] (fun x hx => by obtain ⟨a,ha,rfl⟩ := List.mem_map.1 hx;exact accX_len (h2 a ha))
    rw [List.length_map] at this
    simp only [List.length_cons,List.length_nil] at this
    rw [accsT];omega
  ·exact mid _ (standE_mid _ _)
 have hba : ∀ o,(balX l o).length ≤ 60000 := fun o => by
  rw [balX]
  split
  ·have := nums_len (balN_mid hA o) (sep := [32]) rfl _ (Nat.le_refl _)
   rw [List.take_length,show (balN l o).length = 6 from rfl] at this
   omega
  ·exact mid _ (standE_mid _ _)
 have htr : ∀ n,(traceT l n).length ≤ 60000 := fun n => by
  rw [traceT]
  split
  ·have hob := ordNo_le l (entL l n).order
   have hib := itmNo_le l (entL l n).order (entL l n).item
   have hvb := invF_b l n l.length
   have l1 := itoa_mid (v := ordNo l (entL l n).order) ⟨by omega,by omega⟩
   have l2 := itoa_mid (v := itmNo l (entL l n).order (entL l n).item) ⟨by omega,by omega⟩
   have l3 := listT_len (ns := amF l n l.length) (fun x hx => by have := amF_mem hx;exact ⟨by omega,by omega⟩)
   have l4 := listT_len (ns := sigF l n l.length) (fun x hx => by have := sigF_mem hx;exact ⟨by omega,by omega⟩)
   have l5 := itoa_mid (v := invF l n l.length) ⟨by omega,by omega⟩
   have hal := amF_len l n l.length
   have hsl := sigF_len l n l.length
   generalize Lib.itoa (ordNo l (entL l n).order) = w1 at *
   generalize Lib.itoa (itmNo l (entL l n).order (entL l n).item) = w2 at *
   generalize listT (amF l n l.length) = w3 at *
   generalize listT (sigF l n l.length) = w4 at *
   generalize Lib.itoa (invF l n l.length) = w5 at *
   have hjl := join_all_len (xs := [w1,w2,w3,w4,w5]) (B := 10000) [32] (fun x hx => by simp only [List.mem_cons,List.not_mem_nil,or_false] at hx;rcases hx with rfl | rfl | rfl | rfl | rfl <;> omega)
   simp only [List.length_cons,List.length_nil] at hjl
   omega
  ·exact mid _ (aimE_mid _ _ _)
 have hal : ∀ n,(aliveT l n).length ≤ 60000 := fun n => by
  rw [aliveT]
  split
  ·split <;> decide
  ·exact mid 6 ⟨by decide,by decide⟩
 rw [ansT]
 split
 ·split
  ·have := itoa_mid (v := (l.length : Int) + 1) ⟨by omega,by omega⟩
   simp;omega
  ·exact mid _ (refusal_mid _ _)
 ·rw [askT]
  split
  ·have := rest_len400 hA
   have := itoa_mid (v := ((restL l).length : Int)) ⟨by omega,by omega⟩
   omega
  ·split
   ·have hjl := (jrn_fine hA.fine l.length (Nat.le_refl _)).2.2
    rw [List.take_length] at hjl
    have := itoa_mid (v := ((jrnF l).1.length : Int)) ⟨by omega,by omega⟩
    omega
   ·rw [askW]
    repeat' (first | exact hac _ | exact hba _ | exact htr _ | exact hal _ | decide | split)
def pieceN (r : Str) : Str × Str := if Lib.indexByte r 10 < 0 then (r,[]) else (r.take ((Lib.indexByte r 10).toNat + 1),r.drop ((Lib.indexByte r 10).toNat + 1))
def runG : Nat → Str → List SPost → Str → Str
 |0,_,_,acc => acc
 |f + 1,r,l,acc => if r = [] then acc else runG f (pieceN r).2 (ansL l (trimN (pieceN r).1)) (acc ++ (ansT l (trimN (pieceN r).1) ++ [10]))
def runT (t : Str) : Str := runG (t.length + 1) t [] []
noncomputable def rnR : Array Tmp × Code × Code := (findR ((Tryz.f52.body).getD .skip)).getD (#[],.skip,.skip)
noncomputable abbrev rnRec (st : LoopState) (pend : Option Code) (regs : Nat → PV) : Cont := rndC #[12] rnR.2.1 rnR.2.2 st pend regs
noncomputable def rnO (q0 q1 q2 q3 q4 q5 q6 : Nat) (st : LoopState) (regs : Nat → PV) (x5 x6 : Cont) (g1 g2 g3 g5 g62 : Nat) (l : List SPost) (acc : Str) : List (Nat × Nat × Cont) :=
 bkX q0 q1 q2 q3 q4 q5 q6 (rnRec st none regs) (dskC g5) ⟨83,1,[[.ptr 2001 q1 0 0]],2⟩ (bldC 141 2004 q4 acc.length) ⟨5,1,acc.map rowB,0⟩ x5 x6 g1 g2 g3 g5 g62 l
def rnG (q2 q3 : Nat) : List (Nat × PV) := [(3,.ptr 2002 q2 0 0),(4,.mi 2003 q3)]
set_option maxRecDepth 20000 in
theorem run_round {Post : Exit → St → Prop} {q0 q1 q2 q3 q4 q5 q6 g1 g2 g3 g5 g62 : Nat} {x5 x6 : Cont} (s0 s1 : St) (l : List SPost) (hA : Acc l) (acc : Str) (hacc : acc.length ≤ 10000000000000) (p : Str) (hp : p.length ≤ 70000)
  (hyes : ∀ s2,FitO s2 (rnO q0 q1 q2 q3 (q4 + 1) q5 q6 .busy (s0.over (rnG q2 q3) []).reg x5 x6 g1 g2 g3 g5 g62 (ansL l (trimN p)) (acc ++ (ansT l (trimN p) ++ [10]))) → Post .normal s2) :
  PWP Tryz.prog lay.get rnR.2.1 (XThen (fun s2 => s2.own 2000 = (q0,some (rnRec .ready none (s0.over (rnG q2 q3) []).reg)) ∧ PWP Tryz.prog lay.get rnR.2.2 Post { reg := s2.reg,own := (s2.setOwn 2000 q0 (some (rnRec .busy none (s0.over (rnG q2 q3) []).reg))).own }) (fun _ _ => False))
   { reg := bindP [(12,.str p)] (s0.over (rnG q2 q3) []).reg,own := (s1.over [] (rnO q0 q1 q2 q3 q4 q5 q6 .ready (s0.over (rnG q2 q3) []).reg x5 x6 g1 g2 g3 g5 g62 l acc)).own } := by
 have htr := trim_ret p (by omega)
 have htl := trim_len p
 have han := ansT_len hA (trimN p)
 refine pw_region ?_
 repeat refine stq rfl ?_
 refine ⟨rfl,?_⟩
 repeat refine stq rfl ?_
 refine pw_tree ?_
 refine pt_two (i := 0) (j := 1) (by decide +kernel) rfl rfl ?_ ?_
 ·refine psem_ops ?_
  refine stq rfl ?_
  refine ps_nil ?_
  refine pt_one (i := 1) (by decide +kernel) rfl ?_
  refine psem_ops ?_
  refine stq rfl ?_
  refine ps_nil ?_
  refine pt_one (i := 2) (by decide +kernel) rfl ?_
  refine psem_ops ?_
  refine qst rfl rfl (q_cp rfl htr rfl rfl rfl) ?_
  refine ps_nil ?_
  refine pt_one (i := 3) (by decide +kernel) rfl ?_
  refine psem_sm rfl (do_inl (g1 := g1) (g2 := g2) (g3 := g3) (g5 := g5) (g62 := g62) l hA (trimN p) (by omega) rfl rfl ⟨rfl,rfl,rfl,rfl,rfl,rfl,rfl,rfl,rfl,rfl,rfl,rfl,trivial⟩ (fun s2 => ?_))
  refine psem_ops (ps_nil ?_)
  refine pt_one (i := 4) (by decide +kernel) rfl ?_
  refine psem_ops ?_
  refine ps_v rfl (by first | omega | (simp only [List.length_append,List.length_cons,List.length_nil];omega)) ?_
  refine ps_nil ?_
  refine pt_one (i := 5) (by decide +kernel) rfl ?_
  refine psem_sm rfl (sm_bwrite (T := 141) (e := 5) ⟨_,Go.Proofs.Tryz.func78,by decide,rfl⟩ wstr78 rfl rfl rfl rfl rfl rfl rfl (by first | omega | (simp only [List.length_append,List.length_cons,List.length_nil];omega)) ?_)
  refine psem_ops (ps_nil ?_)
  refine pt_nil (by decide +kernel) ?_
  refine xb_norm ?_
  exact hyes _ ⟨rfl,rfl,rfl,rfl,rfl,rfl,rfl,rfl,rfl,rfl,rfl,rfl,trivial⟩
 ·refine psem_ops ?_
  refine stq rfl ?_
  refine ps_nil ?_
  refine pt_two (i := 0) (j := 2) (by decide +kernel) rfl rfl ?_ ?_
  ·refine psem_ops ?_
   refine stq rfl ?_
   refine ps_nil ?_
   refine pt_one (i := 2) (by decide +kernel) rfl ?_
   refine psem_ops ?_
   refine qst rfl rfl (q_cp rfl htr rfl rfl rfl) ?_
   refine ps_nil ?_
   refine pt_one (i := 3) (by decide +kernel) rfl ?_
   refine psem_sm rfl (do_inl (g1 := g1) (g2 := g2) (g3 := g3) (g5 := g5) (g62 := g62) l hA (trimN p) (by omega) rfl rfl ⟨rfl,rfl,rfl,rfl,rfl,rfl,rfl,rfl,rfl,rfl,rfl,rfl,trivial⟩ (fun s2 => ?_))
   refine psem_ops (ps_nil ?_)
   refine pt_one (i := 4) (by decide +kernel) rfl ?_
   refine psem_ops ?_
   refine ps_v rfl (by first | omega | (simp only [List.length_append,List.length_cons,List.length_nil];omega)) ?_
   refine ps_nil ?_
   refine pt_one (i := 5) (by decide +kernel) rfl ?_
   refine psem_sm rfl (sm_bwrite (T := 141) (e := 5) ⟨_,Go.Proofs.Tryz.func78,by decide,rfl⟩ wstr78 rfl rfl rfl rfl rfl rfl rfl (by first | omega | (simp only [List.length_append,List.length_cons,List.length_nil];omega)) ?_)
   refine psem_ops (ps_nil ?_)
   refine pt_nil (by decide +kernel) ?_
   refine xb_norm ?_
   exact hyes _ ⟨rfl,rfl,rfl,rfl,rfl,rfl,rfl,rfl,rfl,rfl,rfl,rfl,trivial⟩
  ·refine psem_ops ?_
   refine qst rfl rfl (q_cp rfl htr rfl rfl rfl) ?_
   refine ps_nil ?_
   refine pt_one (i := 0) (by decide +kernel) rfl ?_
   refine psem_ops ?_
   refine stq rfl ?_
   refine ps_nil ?_
   refine pt_one (i := 3) (by decide +kernel) rfl ?_
   refine psem_sm rfl (do_inl (g1 := g1) (g2 := g2) (g3 := g3) (g5 := g5) (g62 := g62) l hA (trimN p) (by omega) rfl rfl ⟨rfl,rfl,rfl,rfl,rfl,rfl,rfl,rfl,rfl,rfl,rfl,rfl,trivial⟩ (fun s2 => ?_))
   refine psem_ops (ps_nil ?_)
   refine pt_one (i := 4) (by decide +kernel) rfl ?_
   refine psem_ops ?_
   refine ps_v rfl (by first | omega | (simp only [List.length_append,List.length_cons,List.length_nil];omega)) ?_
   refine ps_nil ?_
   refine pt_one (i := 5) (by decide +kernel) rfl ?_
   refine psem_sm rfl (sm_bwrite (T := 141) (e := 5) ⟨_,Go.Proofs.Tryz.func78,by decide,rfl⟩ wstr78 rfl rfl rfl rfl rfl rfl rfl (by first | omega | (simp only [List.length_append,List.length_cons,List.length_nil];omega)) ?_)
   refine psem_ops (ps_nil ?_)
   refine pt_nil (by decide +kernel) ?_
   refine xb_norm ?_
   exact hyes _ ⟨rfl,rfl,rfl,rfl,rfl,rfl,rfl,rfl,rfl,rfl,rfl,rfl,trivial⟩
set_option maxRecDepth 20000 in
theorem newdesk_inl {K : St → Prop} {s : St} {d : Nat} {ty : TypeId} {pos : String} {af : Array Edge}
  (hK : ∀ (s1 : St) (g1 g2 g3 g5 g62 q1 : Nat),K (({ reg := s.reg,own := (s1.over [] [(1,g1,⟨142,0,[],0⟩),(2,g2,⟨143,0,[],0⟩),(1005,g5,⟨146,4,[[.als 62 g62 0 0,.mp 1 g1,.mp 2 g2,.mp 1003 g3]],2⟩),(62,g62,⟨23,9,[],0⟩),(1003,g3,⟨144,0,[],0⟩),(2001,q1,dskC g5)]).own } : St).putR d (.ptr 2001 q1 0 0))) :
  Sm Tryz.prog lay.get s ⟨some d,.call ⟨.value (.func 42),#[],#[]⟩,ty,pos,af,none⟩ K := by
 refine sm_inline layOk rfl rfl Tryz.func42 rfl (by decide) rfl rfl ?_
 show PWP _ _ _ _ (callSt s [])
 ((repeat ((fail_if_success (with_reducible refine pw_at 1 ?_));refine stx rfl ?_));refine pw_regionS 0 ?_)
 refine ps_nil ?_
 refine psem_sm rfl (new_inlX fun s1 g1 g2 g3 g5 g62 => ?_)
 refine psem_ops ?_
 (repeat ((fail_if_success (with_reducible refine pw_rt ?_));refine stx rfl ?_))
 refine pw_ghost (Ghost.move (k := 3) (k' := 2001) (t := 0) rfl rfl rfl rfl) ?_
 repeat refine stq rfl ?_
 exact inl_end1O (t := 0) (v := .ptr 2001 ((s1.own 2001).1 + 1) 0 0) (K := fun o r => K (({ reg := s.reg,own := o } : St).putR d r)) [(1,g1,⟨142,0,[],0⟩),(2,g2,⟨143,0,[],0⟩),(1005,g5,⟨146,4,[[.als 62 g62 0 0,.mp 1 g1,.mp 2 g2,.mp 1003 g3]],2⟩),(62,g62,⟨23,9,[],0⟩),(1003,g3,⟨144,0,[],0⟩),(2001,(s1.own 2001).1 + 1,dskC g5)] (.inl rfl) rfl rfl ⟨rfl,rfl,rfl,rfl,rfl,rfl,trivial⟩ fun s2 => hK s2 g1 g2 g3 g5 g62 ((s1.own 2001).1 + 1)
theorem index_nl (s : Str) : Ret Tryz.prog .shared 150 [.str s,.int .u8 10] (I (Lib.indexByte s 10)) := by
 refine ⟨⟨_,Go.Proofs.Tryz.func150,by decide,rfl⟩,fun w X args hg hX hl hargs => ?_⟩
 match args,hl with
 |[v,u],_ =>
  have hv := hargs 0 _ v rfl rfl
  have hu := hargs 1 _ u rfl rfl
  cases hv
  cases hu
  refine (Go.Proofs.Tryz.strings_IndexByte ⟨s.toArray⟩ 10 w).mono ?_
  rintro e w' ⟨rfl,rfl⟩
  exact ⟨_,rfl,⟨rfl,rfl,rfl,Nat.le_refl _,fun _ _ => rfl⟩,.int _ _⟩
set_option maxRecDepth 20000 in
theorem run_ret (t : Str) (ht : t.length ≤ 65536) : Ret Tryz.prog .shared 52 [.str t] (.str (runT t)) := by
 refine Ret.of_pwpR layOk mixed Go.Proofs.Tryz.func52 rfl (by decide) rfl rfl rfl ?_
 repeat refine stq rfl ?_
 refine pw_cond rfl (fun h => ?_) (fun h => ?_)
 ·exact absurd (of_decide_eq_true h) (by omega)
 clear h
 ((repeat ((fail_if_success (with_reducible refine pw_at 3 ?_));refine stx rfl ?_));refine pw_regionS 0 ?_)
 refine ps_nil ?_
 refine psem_sm rfl (newdesk_inl fun s1 g1 g2 g3 g5 g62 q1 => ?_)
 refine psem_ops ?_
 (repeat ((fail_if_success (with_reducible refine pw_at 4 ?_));refine stx rfl ?_))
 refine pw_ghost (Ghost.move (k := 3) (k' := 2002) (t := 3) rfl rfl rfl rfl) ?_
 ((repeat ((fail_if_success (with_reducible refine pw_at 4 ?_));refine stx rfl ?_));refine pw_regionS 0 ?_)
 refine ps_nil ?_
 refine psem_sm rfl (sm_bnew 2003 2004 5 rfl rfl rfl (by kernel_rfl) ?_)
 refine psem_ops ?_
 (repeat ((fail_if_success (with_reducible refine pw_at 5 ?_));refine stx rfl ?_))
 refine pw_ghost (Ghost.empty (k := 2006) 0 0 0 rfl) ?_
 refine pw_ghost (Ghost.moveC (k := 1) (k' := 1001) (k0 := 1005) (i := 0) (j := 1) rfl rfl rfl rfl rfl rfl rfl rfl rfl rfl) ?_
 ((repeat ((fail_if_success (with_reducible refine pw_at 5 ?_));refine stx rfl ?_));refine pw_regionS 1 ?_)
 refine stq rfl ?_
 refine ps_nil ?_
 refine psem_sm rfl (sm_inline layOk rfl rfl Go.Proofs.Tryz.func113 rfl (by decide) rfl rfl ?_)
 (repeat ((fail_if_success (with_reducible refine pw_at 1 ?_));refine stx rfl ?_))
 refine pw_ghost (Ghost.move (k := 1) (k' := 2005) (t := 1) rfl rfl rfl rfl) ?_
 refine pw_ghost (Ghost.moveC (k := 1001) (k' := 1) (k0 := 1005) (i := 0) (j := 1) rfl rfl rfl rfl rfl rfl rfl rfl rfl rfl) ?_
 repeat refine stq rfl ?_
 refine inl_one rfl rfl ?_
 refine psem_ops ?_
 repeat refine stq rfl ?_
 refine pw_norm [(3,.ptr 2002 ((s1.own 2002).1 + 1) 0 0),(4,.mi 2003 ((s1.own 2003).1 + 1)),(11,.clo 149 [.ptr 2005 ((s1.own 2005).1 + 1) 0 0])]
  [(1,g1 + 4,⟨142,0,[],0⟩),(2,g2,⟨143,0,[],0⟩),(1005,g5,⟨146,4,[[.als 62 g62 0 0,.mp 1 (g1 + 4),.mp 2 g2,.mp 1003 g3]],2⟩),(62,g62,⟨23,9,[],0⟩),(1003,g3,⟨144,0,[],0⟩),(2001,q1,dskC g5),(2002,(s1.own 2002).1 + 1,⟨83,1,[[.ptr 2001 q1 0 0]],2⟩),(2003,(s1.own 2003).1 + 1,bldC 141 2004 ((s1.own 2004).1 + 1) 0),(2004,(s1.own 2004).1 + 1,⟨5,1,[],0⟩),(2005,(s1.own 2005).1 + 1,⟨9,1,[[.str t]],2⟩),(2006,(s1.own 2006).1 + 1,⟨0,0,[],0⟩)]
  ⟨rfl,rfl,rfl,rfl,rfl,rfl,rfl,rfl,rfl,rfl,rfl,rfl,rfl,rfl,trivial⟩ ?_
 generalize (s1.own 2002).1 + 1 = q2
 generalize (s1.own 2003).1 + 1 = q3
 generalize (s1.own 2004).1 + 1 = q4
 generalize (s1.own 2005).1 + 1 = q5
 generalize (s1.own 2006).1 + 1 = q6
 generalize g1 + 4 = g1
 intro s3
 refine pw_range (range_inl 2000 rfl Go.Proofs.Tryz.func149 rfl rfl rfl rfl rfl rfl ?_)
 generalize hq0 : (s3.own 2000).1 + 1 = q0
 (repeat ((fail_if_success (with_reducible refine pw_lp ?_));refine stx rfl ?_))
 refine pw_loop (fun k : Nat × Str × List SPost × Str × Nat => runG k.1 k.2.1 k.2.2.1 k.2.2.2.1 = runT t ∧ Acc k.2.2.1 ∧ k.2.1.length < k.1 ∧ k.1 ≤ 70000 ∧ k.2.2.2.1.length + 70000 * k.1 ≤ 70000 * 70000) (fun _ => [(0,.yl 2000 q0),(1,.ptr 2005 q5 0 0)])
  (fun k => rnO q0 q1 q2 q3 k.2.2.2.2 q5 q6 .ready ((s3.over [(11,.clo 149 [.ptr 2005 q5 0 0])] []).over (rnG q2 q3) []).reg ⟨9,1,[[.str k.2.1]],2⟩ ⟨0,0,[],0⟩ g1 g2 g3 g5 g62 k.2.2.1 k.2.2.2.1)
  (fun k => k.1) (t.length + 1,t,[],[],q4) ⟨rfl,.nil,Nat.lt_succ_self _,(show t.length + 1 ≤ 70000 by omega),(show 0 + 70000 * (t.length + 1) ≤ 70000 * 70000 by omega)⟩ ⟨rfl,rfl,by rw [← hq0];rfl,rfl,rfl,rfl,rfl,rfl,rfl,rfl,rfl,rfl,rfl,rfl,trivial⟩ ?_
 rintro ⟨f,r,l,acc,b⟩ st ⟨hG,hA,hf,hf7,hal⟩
 simp only at hG hA hf hf7 hal
 dsimp only
 obtain ⟨f,rfl⟩ : ∃ f',f = f' + 1 := ⟨f - 1,by omega⟩
 rw [runG] at hG
 by_cases hr0 : r = []
 ·subst hr0
  rw [if_pos rfl] at hG
  repeat refine stq rfl ?_
  refine .inl ⟨rfl,?_⟩
  ((repeat ((fail_if_success (with_reducible refine pw_at 8 ?_));refine stx rfl ?_));refine pw_regionS 0 ?_)
  refine ps_nil ?_
  refine psem_sm rfl (sm_bread (T := 141) (e := 5) ⟨_,Go.Proofs.Tryz.func79,by decide,rfl⟩ sstr79 rfl rfl rfl rfl ?_)
  refine psem_ops ?_
  repeat refine stq rfl ?_
  exact end1 rfl rfl rfl trivial (by rw [← hG])
 rw [if_neg hr0] at hG
 have hrl : 0 < r.length := by
  rcases Nat.eq_zero_or_pos r.length with h | h
  ·exact absurd (List.eq_nil_of_length_eq_zero h) hr0
  ·exact h
 have hix := index_nl r
 repeat refine stq rfl ?_
 refine pw_cond rfl (fun h => ?_) (fun h => ?_)
 rotate_left
 ·exact absurd (of_decide_eq_false h) (by omega)
 clear h
 repeat refine stq rfl ?_
 refine qst rfl rfl (q_cp rfl hix rfl rfl rfl) ?_
 repeat refine stq rfl ?_
 refine pw_cond rfl (fun h => ?_) (fun h => ?_)
 ·have hi : ¬ Lib.indexByte r 10 < 0 := by have := of_decide_eq_true h;omega
  clear h
  obtain ⟨i,hii⟩ : ∃ i : Nat,Lib.indexByte r 10 = i := ⟨(Lib.indexByte r 10).toNat,by omega⟩
  have hil : i < r.length := (List.getElem?_eq_some_iff.1 (Lib.indexByte_some hii).1).1
  have hpc : pieceN r = (r.take (i + 1),r.drop (i + 1)) := by rw [pieceN,if_neg hi,hii,Int.toNat_natCast]
  have hpl : (r.take (i + 1)).length = i + 1 := by rw [List.length_take];omega
  rw [hpc] at hG
  dsimp only at hG
  have han := ansT_len hA (trimN (r.take (i + 1)))
  rw [hii]
  have hw : IntKind.wrap .i64 ((i : Int) + 1) = ((i + 1 : Nat) : Int) := by rw [wrap_i64 (by omega) (by omega)];omega
  repeat refine stq rfl ?_
  refine pw_draw 9 [12,13,14,15,16,17,18,19,3] (by decide +kernel) ?_
  repeat refine stq rfl ?_
  rw [hw]
  refine qst rfl rfl (q_ssH layOk rfl rfl rfl rfl (by omega) (by omega)) ?_
  rw [Int.toNat_natCast]
  repeat refine stq rfl ?_
  rw [hw]
  refine qst rfl rfl (q_ssT layOk rfl rfl rfl rfl (by omega) (by omega)) ?_
  rw [Int.toNat_natCast]
  (repeat ((fail_if_success (with_reducible refine pw_at 6 ?_));refine stx rfl ?_))
  refine pw_norm [(0,.yl 2000 q0),(1,.ptr 2005 q5 0 0),(3,.str (r.take (i + 1)))] (rnO q0 q1 q2 q3 b q5 q6 .ready ((s3.over [(11,.clo 149 [.ptr 2005 q5 0 0])] []).over (rnG q2 q3) []).reg ⟨9,1,[[.str (r.drop (i + 1))]],2⟩ ⟨0,0,[],0⟩ g1 g2 g3 g5 g62 l acc) ⟨rfl,rfl,rfl,rfl,rfl,rfl,rfl,rfl,rfl,rfl,rfl,rfl,rfl,rfl,rfl,trivial⟩ ?_
  intro st2
  refine pw_regionI 2 ?_
  iterate 2 refine stq rfl ?_
  refine ps_nil ?_
  refine psemi_sm rfl (sm_yield rfl rfl rfl rfl rfl ?_)
  refine run_round (s3.over [(11,.clo 149 [.ptr 2005 q5 0 0])] []) st2 l hA acc (by omega) (r.take (i + 1)) (by omega) (fun s4 hfit => ?_)
  rw [← Fit.over (l := []) hfit]
  refine ⟨rfl,?_⟩
  refine psemi_ops ?_
  repeat refine stq rfl ?_
  refine ⟨(f,r.drop (i + 1),ansL l (trimN (r.take (i + 1))),acc ++ (ansT l (trimN (r.take (i + 1))) ++ [10]),b + 1),⟨hG,ans_acc hA _,?_,by omega,?_⟩,Nat.lt_succ_self _,?_⟩
  ·show (r.drop (i + 1)).length < f
   rw [List.length_drop];omega
  ·show (acc ++ (ansT l (trimN (r.take (i + 1))) ++ [10])).length + 70000 * f ≤ 70000 * 70000
   simp only [List.length_append,List.length_cons,List.length_nil]
   omega
  ·exact ⟨rfl,rfl,rfl,rfl,rfl,rfl,rfl,rfl,rfl,rfl,rfl,rfl,rfl,rfl,trivial⟩
 ·have hi : Lib.indexByte r 10 < 0 := by have := of_decide_eq_false h;omega
  clear h
  have hpc : pieceN r = (r,[]) := by rw [pieceN,if_pos hi]
  rw [hpc] at hG
  dsimp only at hG
  have han := ansT_len hA (trimN r)
  (repeat ((fail_if_success (with_reducible refine pw_at 6 ?_));refine stx rfl ?_))
  refine pw_norm [(0,.yl 2000 q0),(1,.ptr 2005 q5 0 0),(3,.str r)] (rnO q0 q1 q2 q3 b q5 q6 .ready ((s3.over [(11,.clo 149 [.ptr 2005 q5 0 0])] []).over (rnG q2 q3) []).reg ⟨9,1,[[.str ([])]],2⟩ ⟨0,0,[],0⟩ g1 g2 g3 g5 g62 l acc) ⟨rfl,rfl,rfl,rfl,rfl,rfl,rfl,rfl,rfl,rfl,rfl,rfl,rfl,rfl,rfl,trivial⟩ ?_
  intro st2
  refine pw_regionI 2 ?_
  iterate 2 refine stq rfl ?_
  refine ps_nil ?_
  refine psemi_sm rfl (sm_yield rfl rfl rfl rfl rfl ?_)
  refine run_round (s3.over [(11,.clo 149 [.ptr 2005 q5 0 0])] []) st2 l hA acc (by omega) r (by omega) (fun s4 hfit => ?_)
  rw [← Fit.over (l := []) hfit]
  refine ⟨rfl,?_⟩
  refine psemi_ops ?_
  repeat refine stq rfl ?_
  refine ⟨(f,([] : Str),ansL l (trimN r),acc ++ (ansT l (trimN r) ++ [10]),b + 1),⟨hG,ans_acc hA _,?_,by omega,?_⟩,Nat.lt_succ_self _,?_⟩
  ·show ([] : Str).length < f
   simp;omega
  ·show (acc ++ (ansT l (trimN r) ++ [10])).length + 70000 * f ≤ 70000 * 70000
   simp only [List.length_append,List.length_cons,List.length_nil]
   omega
  ·exact ⟨rfl,rfl,rfl,rfl,rfl,rfl,rfl,rfl,rfl,rfl,rfl,rfl,rfl,rfl,trivial⟩
end Go.Pv


set_option maxHeartbeats 2000000
namespace Go.Pv
attribute [local irreducible] PWP POps PQuiet PSem XThen XBlock RetPost InlPost
open Go.Proofs Go.RowKit
abbrev nilP : PV := .raw (.pointer none)
theorem nil_do : Ret Tryz.prog .shared 43 [nilP,.str [114,101,115,116]] (.str [63]) := by
 refine Ret.of_pwp layOk mixed Go.Proofs.Tryz.func43 rfl (by decide) rfl rfl ?_
 repeat refine stq rfl ?_
 exact end1 rfl rfl rfl trivial rfl
theorem nil_book : Ret Tryz.prog .shared 50 [nilP] nilP := by
 refine Ret.of_pwp layOk mixed Go.Proofs.Tryz.func50 rfl (by decide) rfl rfl ?_
 repeat refine stq rfl ?_
 exact end1 rfl rfl rfl trivial rfl
theorem nil_post (p : SPost) : Ret Tryz.prog .shared 46 [nilP,.agg (ePost p)] (.tup [I 0,I 1]) := by
 refine Ret.of_pwp layOk mixed Go.Proofs.Tryz.func46 rfl (by decide) rfl rfl ?_
 ((repeat (first | refine ps_nil ?_ | refine pq_nil ?_ | refine x_norm ?_ | refine pw_seq ?_));refine pw_region ?_)
 refine ps_run (o_box rfl rfl rfl (by repeat' constructor) rfl ?_)
 repeat refine stq rfl ?_
 exact end2 rfl rfl rfl rfl rfl trivial trivial rfl
theorem nil_ordered (o : Str) : Ret Tryz.prog .shared 104 [nilP,.str o] (I 1) := by
 refine Ret.of_pwp layOk mixed Go.Proofs.Tryz.func104 rfl (by decide) rfl rfl ?_
 repeat refine stq rfl ?_
 exact end1i rfl rfl rfl
theorem nil_accounts (o : Str) : Ret Tryz.prog .shared 47 [nilP,.str o] (.tup [.nil,I 1]) := by
 have h := nil_ordered o
 refine Ret.of_pwp layOk mixed Go.Proofs.Tryz.func47 rfl (by decide) rfl rfl ?_
 repeat refine stq rfl ?_
 refine qst rfl rfl (q_cp rfl h rfl rfl rfl) ?_
 repeat refine stq rfl ?_
 exact end2 rfl rfl rfl rfl rfl trivial trivial rfl
theorem nil_live (n : Int) : Ret Tryz.prog .shared 48 [nilP,I n] (.tup [.bool false,I 1]) := by
 refine Ret.of_pwp layOk mixed Go.Proofs.Tryz.func48 rfl (by decide) rfl rfl ?_
 repeat refine stq rfl ?_
 exact end2 rfl rfl rfl rfl rfl trivial trivial rfl
theorem nil_trace (n : Int) : Ret Tryz.prog .fresh 49 [nilP,I n] (.tup [.agg [I 0,I 0,.nil,.nil,I 0],I 1]) := by
 refine Ret.of_pwp layOk mixed Go.Proofs.Tryz.func49 rfl (by decide) rfl rfl ?_
 repeat refine stq rfl ?_
 exact endc2f rfl rfl rfl rfl rfl (by repeat' constructor) rfl
theorem nil_posts : Ret Tryz.prog .shared 26 [nilP] .nil := by
 refine Ret.of_pwp layOk mixed Go.Proofs.Tryz.func26 rfl (by decide) rfl rfl ?_
 repeat refine stq rfl ?_
 exact end1 rfl rfl rfl trivial rfl
theorem nil_rest : Ret Tryz.prog .shared 51 [nilP] .nil := by
 refine Ret.of_pwp layOk mixed Go.Proofs.Tryz.func51 rfl (by decide) rfl rfl ?_
 repeat refine stq rfl ?_
 exact end1 rfl rfl rfl trivial rfl
theorem nil_journal : Ret Tryz.prog .shared 23 [nilP] (.str []) := by
 refine Ret.of_pwp layOk mixed Go.Proofs.Tryz.func23 rfl (by decide) rfl rfl ?_
 repeat refine stq rfl ?_
 exact end1 rfl rfl rfl trivial rfl
def txtL : List Str → Str
 |[] => []
 |x :: r => x ++ 10 :: txtL r
def endL (l : List SPost) : List Str → List SPost
 |[] => l
 |x :: r => endL (ansL l x) r
def outD (l : List SPost) : List Str → Str
 |[] => []
 |x :: r => ansT l x ++ 10 :: outD (ansL l x) r
theorem txtL_snoc (x : Str) : ∀ a : List Str,txtL (a ++ [x]) = txtL a ++ x ++ [10]
 |[] => by simp [txtL]
 |y :: a => by rw [List.cons_append,txtL,txtL_snoc x a,txtL];simp
theorem endL_snoc (x : Str) : ∀ (a : List Str) (l : List SPost),endL l (a ++ [x]) = ansL (endL l a) x
 |[],l => rfl
 |y :: a,l => by rw [List.cons_append,endL,endL_snoc x a,endL]
theorem outD_snoc (x : Str) : ∀ (a : List Str) (l : List SPost),outD l (a ++ [x]) = outD l a ++ ansT (endL l a) x ++ [10]
 |[],l => by simp [outD,endL]
 |y :: a,l => by rw [List.cons_append,outD,outD_snoc x a,outD,endL];simp
theorem endL_acc : ∀ (a : List Str) {l : List SPost},Acc l → Acc (endL l a)
 |[],_,h => h
 |x :: a,_,h => endL_acc a (ans_acc h x)
theorem cut_two : ∀ (x : Str),(10 : UInt8) ∈ x → 2 ≤ (cutL 10 x).length
 |[],h => by cases h
 |c :: r,h => by
  rw [cutL]
  have h0 : 0 < (cutL 10 r).length := by
   cases hc : cutL 10 r with
   |nil => exact absurd hc (cutL_ne 10 r)
   |cons a b => simp
  split
  ·simp;omega
  ·rename_i hc
   have hr : (10 : UInt8) ∈ r := by
    rcases List.mem_cons.1 h with e | e
    ·exact absurd (by rw [← e]) hc
    ·exact e
   have := cut_two r hr
   simp only [List.length_cons,List.length_tail]
   omega
theorem trim_line (x : Str) : trimN (x ++ [10]) = x := by
 rw [trimN,if_pos (by simp)];simp
theorem run_lines : ∀ (ls : List Str) (l : List SPost) (acc : Str) (f : Nat),(∀ x,x ∈ ls → (10 : UInt8) ∉ x) → (txtL ls).length < f → runG f (txtL ls) l acc = acc ++ outD l ls
 |[],l,acc,f,_,hf => by
  cases f with
  |zero => simp [runG,outD]
  |succ f => rw [runG,if_pos (show txtL [] = [] from rfl),outD,List.append_nil]
 |x :: r,l,acc,f,h,hf => by
  obtain ⟨f,rfl⟩ : ∃ f',f = f' + 1 := ⟨f - 1,by omega⟩
  have hx := h x (by simp)
  have hp : pieceN (txtL (x :: r)) = (x ++ [10],txtL r) := by
   have e : txtL (x :: r) = x ++ 10 :: txtL r := rfl
   rw [pieceN,e,ix_line x _ hx,if_neg (by omega),Int.toNat_natCast]
   have e2 : x ++ 10 :: txtL r = (x ++ [10]) ++ txtL r := by simp
   rw [e2,List.take_left' (by simp),List.drop_left' (by simp)]
  have hne : txtL (x :: r) ≠ [] := by rw [txtL];simp
  rw [runG,if_neg hne,hp]
  dsimp only
  rw [trim_line,run_lines r _ _ f (fun y hy => h y (by simp [hy])) (by rw [txtL] at hf;simp at hf;omega),outD]
  simp
theorem txtL_len : ∀ {ls : List Str},(∀ x,x ∈ ls → x.length ≤ 300) → (txtL ls).length ≤ ls.length * 301
 |[],_ => by simp [txtL]
 |x :: r,h => by
  have ih := txtL_len (ls := r) fun y hy => h y (by simp [hy])
  have := h x (by simp)
  rw [txtL]
  simp only [List.length_append,List.length_cons,Nat.add_mul]
  omega
theorem outD_len : ∀ (ls : List Str) {l : List SPost},Acc l → (outD l ls).length ≤ ls.length * 60001
 |[],_,_ => by simp [outD]
 |x :: r,l,hA => by
  have ih := outD_len r (ans_acc hA x)
  have := ansT_len hA x
  rw [outD]
  simp only [List.length_append,List.length_cons,Nat.add_mul]
  omega
def splB (x : Str) : Bool := decide (1 < (cutL 10 x).length)
set_option maxRecDepth 20000 in
theorem desk_law (hawake : Ret Tryz.prog .shared 11 [] (.bool true)) (ls : List Str) : Ret Tryz.prog .shared 9 [.sl (ls.map eS)] (.bool true) := by
 have hll : ((ls.map eS).length : Int) = ls.length := by simp
 by_cases hl30 : 30 < ls.length
 ·refine Ret.of_pwp layOk mixed Go.Proofs.Tryz.func9 rfl (by decide) rfl rfl ?_
  repeat refine stq rfl ?_
  rw [hll]
  refine pw_cond rfl (fun h => ?_) (fun h => ?_)
  ·repeat refine stq rfl ?_
   refine qst rfl rfl (q_cp rfl hawake rfl rfl rfl) ?_
   repeat refine stq rfl ?_
   exact end1b rfl rfl rfl
  ·exact absurd (of_decide_eq_false h) (by omega)
 refine Ret.of_pwp layOk mixed Go.Proofs.Tryz.func9 rfl (by decide) rfl rfl ?_
 repeat refine stq rfl ?_
 rw [hll]
 refine pw_cond rfl (fun h => ?_) (fun h => ?_)
 ·exact absurd (of_decide_eq_true h) (by omega)
 clear h
 ((repeat ((fail_if_success (with_reducible refine pw_at 3 ?_));refine stx rfl ?_));refine pw_regionS 0 ?_)
 refine ps_nil ?_
 refine psem_sm rfl (newdesk_inl fun s1 g1 g2 g3 g5 g62 q1 => ?_)
 refine psem_ops ?_
 repeat refine stq rfl ?_
 refine pw_ghost (Ghost.nilsl (t := 4) rfl) ?_
 refine pw_ghost (Ghost.empty (k := 2000) 0 0 0 rfl) ?_
 refine pw_ghost (Ghost.empty (k := 2002) 0 0 0 rfl) ?_
 refine pw_ghost (Ghost.empty (k := 2003) 0 0 0 rfl) ?_
 refine pw_ghost (Ghost.empty (k := 2004) 0 0 0 rfl) ?_
 refine pw_ghost (Ghost.empty (k := 2005) 0 0 0 rfl) ?_
 refine pw_ghost (Ghost.empty (k := 2006) 0 0 0 rfl) ?_
 refine pw_loop (fun k => k ≤ ls.length ∧ ∀ x,x ∈ ls.take k → x.length ≤ 300) (fun k => [(0,.sl (ls.map eS)),(3,.ptr 2001 q1 0 0),(4,.sl ((endL [] (ls.take k)).map ePost)),(5,.str (txtL (ls.take k))),(6,.str (outD [] (ls.take k))),(7,.bool ((ls.take k).any splB)),(8,I k)])
  (fun k => bkX ((s1.own 2000).1 + 1) q1 ((s1.own 2002).1 + 1) ((s1.own 2003).1 + 1) ((s1.own 2004).1 + 1) ((s1.own 2005).1 + 1) ((s1.own 2006).1 + 1) ⟨0,0,[],0⟩ (dskC g5) ⟨0,0,[],0⟩ ⟨0,0,[],0⟩ ⟨0,0,[],0⟩ ⟨0,0,[],0⟩ ⟨0,0,[],0⟩ g1 g2 g3 g5 g62 (endL [] (ls.take k))) (fun k => ls.length - k) 0
  ⟨Nat.zero_le _,fun x hx => by simp at hx⟩ ⟨rfl,rfl,rfl,rfl,rfl,rfl,rfl,rfl,rfl,rfl,rfl,rfl,rfl,rfl,rfl,rfl,rfl,rfl,rfl,trivial⟩ ?_
 generalize (s1.own 2000).1 + 1 = q0
 generalize (s1.own 2002).1 + 1 = q2
 generalize (s1.own 2003).1 + 1 = q3
 generalize (s1.own 2004).1 + 1 = q4
 generalize (s1.own 2005).1 + 1 = q5
 generalize (s1.own 2006).1 + 1 = q6
 rintro k s ⟨hk,hsh⟩
 have hA : Acc (endL [] (ls.take k)) := endL_acc _ .nil
 have htl := txtL_len hsh
 have hol := outD_len (ls.take k) (l := []) .nil
 rw [List.length_take] at htl hol
 repeat refine stq rfl ?_
 rw [hll]
 refine pw_cond rfl (fun h => ?_) (fun h => ?_)
 ·have hlt : k < ls.length := by have := of_decide_eq_true h;omega
  clear h
  obtain ⟨x,hx⟩ := get_lt hlt
  have hxm : (ls.map eS)[k]? = some (eS x) := by rw [List.getElem?_map,hx];rfl
  have htx := take_snoc hx
  have h45 := cut_ret x 10
  have h44 := answer_ret (endL [] (ls.take k)) hA x
  repeat refine stq rfl ?_
  refine qst rfl rfl (q_idxm rfl rfl rfl rfl rfl (by omega) hx rfl) ?_
  repeat refine stq rfl ?_
  refine pw_cond rfl (fun h => ?_) (fun h => ?_)
  ·repeat refine stq rfl ?_
   refine qst rfl rfl (q_cp rfl hawake rfl rfl rfl) ?_
   repeat refine stq rfl ?_
   exact end1b rfl rfl rfl
  have hx3 : x.length ≤ 300 := by have := of_decide_eq_false h;omega
  clear h
  ((repeat ((fail_if_success (with_reducible refine pw_at 12 ?_));refine stx rfl ?_));refine pw_regionS 5 ?_)
  iterate 3 refine stq rfl ?_
  refine qst rfl rfl (q_idxm rfl rfl rfl rfl rfl (by omega) hx rfl) ?_
  refine stq rfl ?_
  refine ps_nil ?_
  refine psem_sm rfl (do_inl (g1 := g1) (g2 := g2) (g3 := g3) (g5 := g5) (g62 := g62) (endL [] (ls.take k)) hA x (by omega) rfl rfl ⟨rfl,rfl,rfl,rfl,rfl,rfl,rfl,rfl,rfl,rfl,rfl,rfl,trivial⟩ (fun s2 => ?_))
  refine psem_ops ?_
  repeat refine stq rfl ?_
  refine qst rfl rfl (q_idxm rfl rfl rfl rfl rfl (by omega) hx rfl) ?_
  repeat refine stq rfl ?_
  refine qst rfl rfl (q_cs rfl ((h44 (by omega))) rfl rfl) ?_
  repeat refine stq rfl ?_
  refine pw_cond rfl (fun h => ?_) (fun h => ?_)
  ·exact absurd h (by simp)
  clear h
  rw [cut_all] at h45
  have hsp : splB x = decide (1 < (cutL 10 x).length) := rfl
  have hn5 : txtL (ls.take k) ++ x ++ [10] = txtL (ls.take (k + 1)) := by rw [htx,txtL_snoc]
  have hn6 : outD [] (ls.take k) ++ ansT (endL [] (ls.take k)) x ++ [10] = outD [] (ls.take (k + 1)) := by rw [htx,outD_snoc]
  have hn4 : ansL (endL [] (ls.take k)) x = endL [] (ls.take (k + 1)) := by rw [htx,endL_snoc]
  have hn7 : (ls.take (k + 1)).any splB = ((ls.take k).any splB || splB x) := by rw [htx,List.any_append];simp
  have han := ansT_len hA x
  have hkm : min k ls.length = k := Nat.min_eq_left hk
  rw [hkm] at htl hol
  have hsh2 : ∀ y,y ∈ ls.take (k + 1) → y.length ≤ 300 := by
   intro y hy
   rw [htx] at hy
   rcases List.mem_append.1 hy with hy | hy
   ·exact hsh y hy
   ·simp at hy;subst hy;exact hx3
  repeat refine stq rfl ?_
  (first|refine ps_split rfl rfl ?_ ?_|refine pq_split rfl rfl ?_ ?_|refine p3_split rfl rfl ?_ ?_)<;>intro h
  ·rw [h] at hn7
   repeat refine stq rfl ?_
   refine qst rfl rfl (q_idxm rfl rfl rfl rfl rfl (by omega) hx rfl) ?_
   repeat refine stx rfl ?_
   refine ps_v rfl (by first | omega | (simp only [List.length_append,List.length_cons,List.length_nil];omega)) ?_
   repeat refine stx rfl ?_
   refine ps_v rfl (by first | omega | (simp only [List.length_append,List.length_cons,List.length_nil];omega)) ?_
   repeat refine stx rfl ?_
   refine ps_v rfl (by first | omega | (simp only [List.length_append,List.length_cons,List.length_nil];omega)) ?_
   repeat refine stx rfl ?_
   refine ps_v rfl (by first | omega | (simp only [List.length_append,List.length_cons,List.length_nil];omega)) ?_
   repeat refine stq rfl ?_
   refine ⟨k + 1,⟨by omega,hsh2⟩,by omega,?_⟩
   rw [← hn5,← hn6,← hn4,hn7]
   exact ⟨rfl,rfl,rfl,rfl,rfl,rfl,i64_next (by omega) (by omega),rfl,rfl,rfl,rfl,rfl,rfl,rfl,rfl,rfl,rfl,rfl,rfl,trivial⟩
  ·rw [h] at hn7
   repeat refine stq rfl ?_
   refine qst rfl rfl (q_idxm rfl rfl rfl rfl rfl (by omega) hx rfl) ?_
   repeat refine stq rfl ?_
   refine qst rfl rfl (q_cf rfl ((h45 (by omega))) rfl rfl) ?_
   repeat refine stq rfl ?_
   refine qst rfl rfl (q_idxm rfl rfl rfl rfl rfl (by omega) hx rfl) ?_
   repeat refine stx rfl ?_
   refine ps_v rfl (by first | omega | (simp only [List.length_append,List.length_cons,List.length_nil];omega)) ?_
   repeat refine stx rfl ?_
   refine ps_v rfl (by first | omega | (simp only [List.length_append,List.length_cons,List.length_nil];omega)) ?_
   repeat refine stx rfl ?_
   refine ps_v rfl (by first | omega | (simp only [List.length_append,List.length_cons,List.length_nil];omega)) ?_
   repeat refine stx rfl ?_
   refine ps_v rfl (by first | omega | (simp only [List.length_append,List.length_cons,List.length_nil];omega)) ?_
   repeat refine stq rfl ?_
   refine ⟨k + 1,⟨by omega,hsh2⟩,by omega,?_⟩
   rw [← hn5,← hn6,← hn4,hn7]
   exact ⟨rfl,rfl,rfl,rfl,rfl,congrArg PV.bool (show decide ((1 : Int) < ((cutL 10 x).map eS).length) = (false || splB x) by rw [Bool.false_or,hsp,List.length_map];exact decide_eq_decide.2 (by omega)),i64_next (by omega) (by omega),rfl,rfl,rfl,rfl,rfl,rfl,rfl,rfl,rfl,rfl,rfl,rfl,trivial⟩
 have hz : k = ls.length := by have := of_decide_eq_false h;omega
 subst hz
 clear h
 rw [List.take_length] at *
 generalize hL : endL [] ls = L at *
 generalize hO : outD [] ls = O at *
 have hc22 := nil_post ⟨0,0,[],[],[],[],0,0,0⟩
 have hc23 := nil_accounts [79,49]
 have hc24 := nil_live 1
 have hc25 := nil_trace 1
 repeat refine stq rfl ?_
 refine qst rfl rfl (q_cp rfl hc22 rfl rfl rfl) ?_
 repeat refine stq rfl ?_
 refine qst rfl rfl (q_cp rfl hc23 rfl rfl rfl) ?_
 repeat refine stq rfl ?_
 refine qst rfl rfl (q_cp rfl hc24 rfl rfl rfl) ?_
 repeat refine stq rfl ?_
 refine qst rfl rfl (q_cf rfl hc25 rfl rfl) ?_
 repeat refine stq rfl ?_
 refine qst rfl rfl (q_cp rfl nil_do rfl rfl rfl) ?_
 repeat refine stq rfl ?_
 (first|refine ps_split rfl rfl ?_ ?_|refine pq_split rfl rfl ?_ ?_|refine p3_split rfl rfl ?_ ?_)<;>intro h
 ·exact absurd h (by decide)
 clear h
 repeat refine stq rfl ?_
 refine qst rfl rfl (q_cp rfl nil_book rfl rfl rfl) ?_
 repeat refine stq rfl ?_
 (first|refine ps_split rfl rfl ?_ ?_|refine pq_split rfl rfl ?_ ?_|refine p3_split rfl rfl ?_ ?_)<;>intro h
 ·exact absurd h (by decide)
 clear h
 repeat refine stq rfl ?_
 (first|refine ps_split rfl rfl ?_ ?_|refine pq_split rfl rfl ?_ ?_|refine p3_split rfl rfl ?_ ?_)<;>intro h
 ·exact absurd h (by decide)
 clear h
 repeat refine stq rfl ?_
 (first|refine ps_split rfl rfl ?_ ?_|refine pq_split rfl rfl ?_ ?_|refine p3_split rfl rfl ?_ ?_)<;>intro h
 ·exact absurd h (by decide)
 clear h
 repeat refine stq rfl ?_
 (first|refine ps_split rfl rfl ?_ ?_|refine pq_split rfl rfl ?_ ?_|refine p3_split rfl rfl ?_ ?_)<;>intro h
 ·exact absurd h (by decide)
 clear h
 repeat refine stq rfl ?_
 (first|refine ps_split rfl rfl ?_ ?_|refine pq_split rfl rfl ?_ ?_|refine p3_split rfl rfl ?_ ?_)<;>intro h
 ·exact absurd h (by decide)
 clear h
 repeat refine stq rfl ?_
 refine qst rfl rfl (q_cp rfl nil_posts rfl rfl rfl) ?_
 repeat refine stq rfl ?_
 refine qst rfl rfl (q_cp rfl nil_rest rfl rfl rfl) ?_
 repeat refine stq rfl ?_
 refine qst rfl rfl (q_cp rfl nil_journal rfl rfl rfl) ?_
 ((repeat ((fail_if_success (with_reducible refine pw_at 28 ?_));refine stx rfl ?_));refine pw_regionS 1 ?_)
 refine stq rfl ?_
 refine ps_nil ?_
 refine psem_sm rfl (sm_inline layOk rfl rfl Go.Proofs.Tryz.func50 rfl (by decide) rfl rfl ?_)
 repeat refine stq rfl ?_
 refine inl_one rfl rfl ?_
 refine psem_ops ?_
 have h26 := bookPosts_ret L (by have := hA.ok.wf.len;omega)
 have h25 := postsZ_ret L (by have := hA.ok.wf.len;omega)
 repeat refine stq rfl ?_
 (first|refine ps_split rfl rfl ?_ ?_|refine pq_split rfl rfl ?_ ?_|refine p3_split rfl rfl ?_ ?_)<;>intro h
 ·exact absurd h (by decide)
 clear h
 repeat refine stq rfl ?_
 refine qst rfl rfl (q_cf rfl h26 rfl rfl) ?_
 repeat refine stq rfl ?_
 refine qst rfl rfl (q_cp rfl h25 rfl rfl rfl) ?_
 repeat refine stq rfl ?_
 (first|refine ps_split rfl rfl ?_ ?_|refine pq_split rfl rfl ?_ ?_|refine p3_split rfl rfl ?_ ?_)<;>intro h
 ·repeat refine stq rfl ?_
  refine qst rfl rfl (q_cp rfl hawake rfl rfl rfl) ?_
  repeat refine stq rfl ?_
  exact end1b rfl rfl rfl
 ·repeat refine stq rfl ?_
  have hno : ∀ x,x ∈ ls → (10 : UInt8) ∉ x := by
   intro x hx hc
   have := cut_two x hc
   have ha : splB x = true := decide_eq_true (by omega)
   have := List.any_eq_true.2 ⟨x,hx,ha⟩
   rw [h] at this
   exact absurd this (by decide)
  have hrun : runT (txtL ls) = O := by
   rw [runT,run_lines ls [] [] _ hno (Nat.lt_succ_self _),hO];rfl
  have h52 := run_ret (txtL ls) (by omega)
  rw [hrun] at h52
  refine qst rfl rfl (q_cp rfl h52 rfl rfl rfl) ?_
  repeat refine stq rfl ?_
  (first|refine ps_split rfl rfl ?_ ?_|refine pq_split rfl rfl ?_ ?_|refine p3_split rfl rfl ?_ ?_)<;>intro h
  rotate_left
  ·exact absurd h (by simp)
  clear h
  repeat refine stq rfl ?_
  refine qst rfl rfl (q_cp rfl hawake rfl rfl rfl) ?_
  repeat refine stq rfl ?_
  exact end1b rfl rfl rfl
end Go.Pv


set_option maxHeartbeats 2000000
namespace Go.Pv
attribute [local irreducible] PWP POps PQuiet PSem XThen XBlock RetPost InlPost
open Go.Proofs
theorem rows_map {α : Type} {f : α → List PV} : ∀ {rows : List (List PV)},(∀ row ∈ rows,∃ x,row = f x) → ∃ l : List α,rows = l.map f
 |[],_ => ⟨[],rfl⟩
 |row :: rows,h => by
  obtain ⟨x,rfl⟩ := h row (by simp)
  obtain ⟨l,rfl⟩ := rows_map (rows := rows) fun r hr => h r (by simp [hr])
  exact ⟨x :: l,rfl⟩
end Go.Pv


namespace Go.Proofs.YtakfiahnhjnndaaGreatDoor
open Go Go.ChangeShapes Go.WideShapes Go.ChangeAt Go.RowKit Go.Pv Go.Stop Go.Extern Go.Kit
theorem ownL : ownKnob Tryz.prog.godebug = none := by kernel_rfl
theorem laidB : laidOutB Tryz.prog = true := by kernel_rfl
def laidL : List (String × DataW Unit) := [("math/bits.deBruijn32tab", Rows.laid_math_bits_deBruijn32tab), ("math/bits.deBruijn64tab", Rows.laid_math_bits_deBruijn64tab), ("internal/strconv.uint64pow10", Rows.laid_internal_strconv_uint64pow10), ("unicode/utf8.acceptRanges", Rows.laid_unicode_utf8_acceptRanges), ("strconv.ErrRange", Rows.laid_strconv_ErrRange), ("strconv.ErrSyntax", Rows.laid_strconv_ErrSyntax), ("unicode/utf8.first", Rows.laid_unicode_utf8_first)]
theorem laidL_plain (w : World) : laidMetH Tryz.prog laidL w = laidMet Tryz.prog laidL w := MakeChecks.laidMetH_plain _ _ _ (by kernel_rfl)
theorem laidL_met (os : Os) (args : Array Value) : laidMetH Tryz.prog laidL ((World.laidAll Tryz.prog os laidL).forCall (fun _ _ => 0) ⟨#[],args,[]⟩).memory := by
 rw [laidL_plain]
 exact laidMet_laidAll _ (by kernel_rfl) (by kernel_rfl)
theorem pow_g : ∃ g t e, Tryz.prog.globalNamed "internal/strconv.uint64pow10" = some g ∧ (Tryz.prog.globals[g]?).map (·.type) = some t ∧ Tryz.prog.underlying t = some (.array 20 e) ∧ Tryz.prog.underlying e = some (.int .u64) ∧ Tryz.prog.cellsOf e = 1 ∧ Tryz.prog.cellsOf t = 20 := by
 refine ⟨(Tryz.prog.globalNamed "internal/strconv.uint64pow10").getD 0, ((Tryz.prog.globals[(Tryz.prog.globalNamed "internal/strconv.uint64pow10").getD 0]?).map (·.type)).getD 0, 237, ?_, ?_, ?_, ?_, ?_, ?_⟩ <;> kernel_rfl
theorem starE : "*" ++ "errors.errorString" = "*errors.errorString" := by decide
theorem rowE (u : TypeId) (h : Tryz.prog.typeName? 3 u = some "*errors.errorString") : u = 267 :=
 typeName_ptr_named (nm := "errors.errorString") (by rw [starE]; kernel_rfl) (by kernel_rfl) (by decide) u (by rw [starE]; exact h)
theorem holds_err {w : World} {nm : String} {text : List UInt8} {r : List (String × DataW Unit)} {g : Nat} (h : laidMet Tryz.prog ((nm, .iface "*errors.errorString" (.ptr (.agg [.lit (.string text)]))) :: r) w) (hg : Tryz.prog.globalNamed nm = some g) (ht : (Tryz.prog.globals[g]?).map (·.type) = some 115) : HoldsErr w nm := by
 obtain ⟨a,s,h1,_⟩ := laid_sentinel h hg ht Tryz.underlying115 rowE Tryz.underlying267 Tryz.underlying269 rfl rfl Tryz.underlying9 (by kernel_rfl) (by kernel_rfl)
 exact ⟨g,_,_,hg,by simpa using World.var?_cell hg h1 0⟩
theorem laidL_parts {w : World} (h : laidMetH Tryz.prog laidL w) : Lib.TabIs Tryz.prog w "internal/strconv.uint64pow10" .u64 Lib.pow10Tab ∧ HoldsErr w "strconv.ErrSyntax" ∧ HoldsErr w "strconv.ErrRange" := by
 rw [laidL_plain] at h
 unfold laidL at h
 have h3 := laidMet.tail (laidMet.tail h)
 have h5 := laidMet.tail (laidMet.tail h3)
 have h6 := laidMet.tail h5
 obtain ⟨g,t,e,h1,h2,h4,h5',h6',h7⟩ := pow_g
 exact ⟨Lib.tabIs_of_head (k := .u64) (zs := Lib.pow10Tab) h1 h2 h4 h5' h6' h7 h3,holds_err (g := 0) h6 (by kernel_rfl) (by kernel_rfl),holds_err (g := 1) h5 (by kernel_rfl) (by kernel_rfl)⟩
end Go.Proofs.YtakfiahnhjnndaaGreatDoor


namespace Go
variable {H : Type} {enc : TypeId × Value → H}
theorem handed_and_shaped {a : Assume} {C : Checked} {os : Os} {f : FuncId} {fn : Func} {s : ChangeSpec} {conds : List PathCond} {apart fresh handsOn again : Bool} {X : World → Array Value → Prop}
  (hX : ∀ (w w' : World) (args : Array Value),w.heap = w'.heap → X w args → X w' args)
  (own : ownKnob C.prog.godebug = none) (started : os.Started) (noInit : C.prog.inits.idxOf? f = none) (hfn : C.prog.funcs[f]? = some fn)
  (witness : ∃ (w : World) (tape : Tape) (i : Input),w.os = os ∧ (w.forCall tape i).Shaped C.prog ∧ i.vars = [] ∧ Input.okWide C.prog (w.forCall tape i) .any w.heap.size f i ∧
   ((s.pre enc C.prog fn conds apart (w.forCall tape i).memory i.args ∧ X (w.forCall tape i).memory i.args) ∧ sizedMet enc C.prog fn (OpenSpec.ofChange s) apart (w.forCall tape i).memory i.args) ∧ a.holds C.prog (lone (Frame.enter C.prog f i.args .normal) [] (w.forCall tape i)))
  (contract : ∀ (W : World) (base : Nat) (args : Array Value) (ds gs : List (DataW H)) (before : List MemPlace),
   (∀ (j : Nat) t v,fn.params[j]? = some t → args[j]? = some v → Value.okWide C.prog W .any base t v) →
   DataW.Whole enc C.prog fn.params.toList s.vars apart W args.toList ds gs before →
   conds.all (PathCond.test C.prog ⟨fn.params.toList,ds,s.plain.varTypes C.prog,gs⟩) = true →
   (DataW.weightsEach C.prog (fn.params.toList ++ s.plain.varTypes C.prog) (ds ++ gs)).all (· ≤ reachBytes) = true → X W args → W.ShapedOpen C.prog →
   a.holds C.prog (lone (Frame.enter C.prog f args .normal) [] W) →
   Calls C.prog f args W fun e W' => ∃ v,e = .returned v ∧ s.post enc C.prog fn apart fresh handsOn again W args v W') :
  ReturnsInHanded a C os f .any (fun w args => (s.pre enc C.prog fn conds apart w args ∧ X w args) ∧ sizedMet enc C.prog fn (OpenSpec.ofChange s) apart w args) (s.post enc C.prog fn apart fresh handsOn again) := by
 refine returnsInHanded_of_calls own started noInit witness ?_
 intro w tape i _ hsh _ hok hpre hholds
 obtain ⟨_,_,_,fn',hfn',_,_,_,_,hval⟩ := hok
 have e : fn' = fn := Option.some.inj (hfn'.symm.trans hfn)
 subst e
 obtain ⟨⟨⟨ds,gs,before,hw,hc⟩,hx⟩,hz⟩ := hpre
 have hw' := DataW.Whole.of_heap (w' := w.forCall tape i) (by rfl) hw
 refine (contract (w.forCall tape i) w.heap.size i.args ds gs before hval hw' hc (hz.weights hw) (hX _ _ _ (by rfl) hx) hsh hholds).mono fun e W' ⟨v,he,hp⟩ => ?_
 subst he
 exact ChangeSpec.post_blind hp
end Go
namespace Go.Proofs.YtakfiahnhjnndaaGreatDoor
open Go Go.ChangeShapes Go.WideShapes Go.ChangeAt Go.RowKit Go.Pv Go.Stop Go.Extern Go.Kit
theorem max_is {w : World} (h : w.ShapedOpen Tryz.prog) : MaxIs w := by
 obtain ⟨m,hm⟩ := cell_of_shapedOpen_int (P := Tryz.prog) (g := 2) (t := 3) (zero := #[.int .i64 0]) (k := .i64) h (by decide +kernel) (by kernel_rfl) (by kernel_rfl) (by kernel_rfl) (by kernel_rfl) (by kernel_rfl)
 exact ⟨2,m,by kernel_rfl,hm⟩
theorem laidL_max {w : World} (h : laidMetH Tryz.prog laidL w) (hs : w.ShapedOpen Tryz.prog) : Lib.TabIs Tryz.prog w "internal/strconv.uint64pow10" .u64 Lib.pow10Tab ∧ HoldsErr w "strconv.ErrSyntax" ∧ HoldsErr w "strconv.ErrRange" ∧ MaxIs w :=
 have p := laidL_parts h
 ⟨p.1,p.2.1,p.2.2,max_is hs⟩
end Go.Proofs.YtakfiahnhjnndaaGreatDoor

